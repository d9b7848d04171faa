/- Texts of this claim, joined. -/
import Derived.Test.YtnjknkgomhmlfaaGreatDoorQR
set_option linter.unusedSimpArgs false
set_option linter.unusedVariables false
set_option maxRecDepth 100000
set_option maxHeartbeats 4000000
namespace Go.Proofs.YtnjknkgomhmlfaaGreatDoor
open Go.PF Go.RowKit Go.Ord
attribute [local irreducible] TW CW KW DW
theorem evs_more {w0 w : World} {v : Value} {l qs : List Ev} {ps1 ps2 : List (List Value × Ev)} {n m : Nat} (hb : Below w0.heap.size w0 w) (r1 : ∀ p ∈ ps1, evT.rep (fun k => k < w0.heap.size) w0 p.1 p.2) (p1 : ps1.map (·.2) = l) (r2 : ∀ p ∈ ps2, evT.rep (fun k => k < w0.heap.size) w0 p.1 p.2) (p2 : ps2.map (·.2) = qs) (hn : n = l.length) (hm : m = qs.length)
  (h : OwnS w 50 4 v (0 + n + m) ([] ++ ps1.flatMap (·.1) ++ ps2.flatMap (·.1)) ∧ ∀ g, v.ownBlock = some g → w0.heap.size ≤ g) (hs : n + m ≤ 9223372036854775807) : SE w v (l ++ qs) := by
 have e1 : ps1.length = n := by rw [hn, ← p1]; simp
 have e2 : ps2.length = m := by rw [hm, ← p2]; simp
 have h1 := OwnS.toSLn (T := evT) (by decide) (n := 0 + n + m) (ps := ps1 ++ ps2) hb (fun p hp => (List.mem_append.1 hp).elim (r1 p) (r2 p)) (by rw [List.flatMap_append]; exact h.1) (by simp; omega) (by simp; omega)
 rw [List.map_append, p1, p2] at h1
 exact h1.now evT_now
structure EvOf (w : World) (cs : List Value) (e : Ev) (nv : Value) : Prop where
 eq : cs = [.int .i64 e.office, .int .i64 e.low, .int .i64 e.high, nv]
 i1 : I64 e.office
 i2 : I64 e.low
 i3 : I64 e.high
 nd : SL intT (fun k => k < w.heap.size) w nv e.needs
theorem more_law {w : World} {v : NV} {N : Net} {dv lv wv nv : Value} {d : Dist} {l : List Ev} {ws : List (List Int)} {e : Ev} {F : Nat → Prop} (t : Int) (hN : NetAt w v N) (hd : SD w dv d) (hl : SE w lv l) (hS : SD w wv ws) (i1 : I64 e.office) (i2 : I64 e.low) (i3 : I64 e.high) (hnd : SL intT F w nv e.needs) (hbig : l.length * 48 ≤ 140737488351232) (ht : Tabs w) :
  Gives Tryz.prog 6 #[.agg v.cells.toArray, dv, lv, wv, .agg #[.int .i64 e.office, .int .i64 e.low, .int .i64 e.high, nv], .int .i64 t] w fun u w' => Below w.heap.size w w' ∧ u = .bool true := by
 obtain ⟨A, cap, rfl, _⟩ := hl.form
 obtain ⟨C, ncap, rfl, _⟩ := hnd.form
 have hnd := hnd.now intT_now
 refine gv Tryz.func6 Tryz.ntmps6 ?_
 refine rnT ?_
 refine TW.box rfl rfl rfl rfl ?_
 rintro g6 w1 f1
 refine TW.box rfl rfl rfl rfl ?_
 rintro g10 w2 f2
 refine rnT ?_
 refine TW.pk [0, 1, 2, 3, 4, 5, 6, 10, 12] rfl ?_
 have b2 := f1.below.step f2.below
 have hB2 := f1.blk.next f2.below
 have hE2 := f2.blk
 refine TW.cl en11 rfl (head_c (ht.below b2)) ?_
 rintro y w3 ⟨c3, rfl⟩
 have b3 := b2.step c3
 have hB3 := hB2.next c3
 have hE3 := hE2.next c3
 have hl3 := se_step hl b3
 obtain ⟨ps1, p1, r1, n1, a1⟩ := hl3.flat (T := evT) (by decide)
 have hn3 := si_step hnd b3
 refine rnT ?_
 refine CW.pk [0, 1, 2, 3, 4, 5, 6, 10, 12, 13] rfl ?_
 refine CW.drawO mixed (by kernel_rfl) ?_
 refine OW.buildSlice0 50 rfl rfl eo31 ?_
 refine rnD ?_
 refine OW.append (m := l.length) (A := A) (ps1.flatMap (·.1)) rfl rfl go31 rfl (by kernel_rfl) rfl ct a1 n1 (one_flat evT_one r1) (by omega) (by omega) ?_
 refine DW.loadS _ rfl rfl Tryz.underlying50 sz50 rfl ct (fun _ => (fun _ _ hv => hE3.fld hv)) rfl ?_
 refine OW.buildSlice 50 _ rfl rfl rfl eo31 (DArgs.cons rfl ct DArgs.nil) rfl rfl rfl rfl rfl ?_
 refine OW.appendR [.int .i64 e.office, .int .i64 e.low, .int .i64 e.high, .slice C e.needs.length ncap] rfl rfl go31 rfl (by kernel_rfl) rfl ct (fun u hu => by
  simp at hu
  rcases hu with rfl | rfl | rfl | rfl <;> rfl) (by omega) (by omega) rfl ?_
 refine OW.assign rfl rfl rfl ct (rowE_strong _ _ _ _ _) (by kernel_rfl) ?_
 refine DW.nil (DW.finX [0, 1, 2, 3, 4, 5, 6, 10, 12, 13] [(0, _, _), (1, _, _), (2, _, _), (3, _, _), (4, _, _), (5, _, _), (6, _, _), (10, _, _), (12, _, _), (13, _, _)] rfl [14] rfl fun vs w4 c4 hs4 => KW.then_ ?_)
 obtain ⟨v14, rfl, h14⟩ := Sats.one hs4
 refine rnT ?_
 have hm4 : SE w4 v14 (l ++ [e]) := evs_more c4 r1 p1 (ps2 := [([.int .i64 e.office, .int .i64 e.low, .int .i64 e.high, .slice C e.needs.length ncap], e)]) (fun p hp => by
  rw [List.mem_singleton] at hp
  subst hp
  exact ⟨_, rfl, i1, i2, i3, hn3⟩) rfl rfl rfl h14 (by simp; omega)
 have b4 := b3.step c4
 have hB4 := hB3.next c4
 refine TW.loadS _ rfl rfl Tryz.underlying29 sz29 rfl ct (fun _ => (fun _ _ hv => hB4.fld hv)) rfl ?_
 refine rnT ?_
 refine TW.cl en22 rfl (right_c (net_step hN b4) (sd_step hd b4) hm4 (sd_step hS b4)) ?_
 rintro y w5 ⟨c5, rfl⟩
 have b5 := b4.step c5
 have hB5 := hB4.next c5
 have hm5 := se_step hm4 c5
 refine rnT ?_
 refine CW.pk [0, 1, 2, 3, 4, 5, 6, 10, 12, 13, 14, 27] rfl ?_
 refine CW.cond rfl (fun hbad => ?_) (fun hgood => ?_)
 ·refine rnT ?_
  refine ret1 Tryz.results6 rfl (⟨b5, rfl⟩)
 have hR : RightP N d (l ++ [e]) ws := dec_iff.1 (nogood hgood)
 have hne := hR.light.needs
 have ht5 := ht.below b5
 have hN5 := net_step hN b5
 have hd5 := sd_step hd b5
 have hl5 := se_step hl b5
 have hS5 := sd_step hS b5
 refine rnT ?_
 refine CW.draw mixed (by kernel_rfl) ?_
 refine rnD ?_
 refine DW.loadS _ rfl rfl Tryz.underlying29 sz29 rfl ct (fun _ => (fun _ _ hv => hB5.fld hv)) rfl ?_
 refine rnD ?_
 refine DW.call (.pr (fun u W => SPs W u (possS N d (l ++ [e]) ws t))) ?_ rfl rfl en16 rfl ct (DArgs.cons rfl id (DArgs.cons rfl id (DArgs.cons rfl id (DArgs.cons rfl id (DArgs.cons rfl id DArgs.nil))))) (fun _ w' hb' => possible_c (ht5.below hb') (net_step hN5 hb') (sd_step hd5 hb') (se_step hm5 hb') (sd_step hS5 hb') hne) ?_
 ·exact fun _ _ _ hb h => sps_step h hb
 refine DW.loadS _ rfl rfl Tryz.underlying29 sz29 rfl ct (fun _ => (fun _ _ hv => hB5.fld hv)) rfl ?_
 refine rnD ?_
 refine DW.call (.pr (fun u W => SPs W u (possS N d l ws t))) ?_ rfl rfl en16 rfl ct (DArgs.cons rfl id (DArgs.cons rfl id (DArgs.cons rfl id (DArgs.cons rfl id (DArgs.cons rfl id DArgs.nil))))) (fun _ w' hb' => possible_c (ht5.below hb') (net_step hN5 hb') (sd_step hd5 hb') (se_step hl5 hb') (sd_step hS5 hb') (fun x hx => hne x (List.mem_append_left _ hx))) ?_
 ·exact fun _ _ _ hb h => sps_step h hb
 refine DW.callP (.ex (.bool true)) (trivial) rfl rfl en24 rfl ct (PArgs.cons rfl id (PArgs.cons rfl id PArgs.nil)) (fun _ w' hb' vs hs => ?_) ?_
 ·obtain ⟨u, x, rfl, hu, hx⟩ := Sats.two hs
  have hu : SPs w' u (possS N d (l ++ [e]) ws t) := hu
  have hx : SPs w' x (possS N d l ws t) := hx
  exact (within_c hu hx).mono fun x w'' ⟨h1, h2⟩ => ⟨h1, h2.trans (by rw [decide_eq_true poss_more])⟩
 refine rnD ?_
 refine DW.fi [0, 1, 2, 3, 4, 5, 6, 10, 12, 13, 14] rfl fun w6 b6 => ?_
 refine rnT ?_
 refine ret1 Tryz.results6 rfl (⟨b5.step b6, rfl⟩)
theorem FewP.rev {d : Dist} {l : List Ev} (h : FewP d l) : FewP d l.reverse := ⟨⟨h.fd.d1, by rw [List.length_reverse]; exact h.fd.l1, h.fd.r1⟩, fun e he => h.nd e (List.mem_reverse.1 he)⟩
theorem rev_next {α : Type} {l : List α} {i : Nat} {x : α} (h : l[l.length - 1 - i]? = some x) (hi : i < l.length) : (l.reverse).take (i + 1) = (l.reverse).take i ++ [x] := by
 refine take_snoc ?_
 rw [List.getElem?_reverse hi]
 exact h
theorem order_law {w : World} {v : NV} {N : Net} {dv lv wv : Value} {d : Dist} {l : List Ev} {ws : List (List Int)} (o f t : Int) (ho : I64 o) (hf : I64 f) (ht' : I64 t) (hN : NetAt w v N) (hd : SD w dv d) (hl : SE w lv l) (hS : SD w wv ws) (ht : Tabs w) :
  Gives Tryz.prog 9 #[.agg v.cells.toArray, dv, lv, wv, .int .i64 o, .int .i64 f, .int .i64 t] w fun u w' => Below w.heap.size w w' ∧ u = .bool true := by
 obtain ⟨A, cap, rfl, _⟩ := hl.form
 obtain ⟨X, xcap, rfl, _⟩ := hS.form
 refine gv Tryz.func9 Tryz.ntmps9 ?_
 refine rnT ?_
 refine TW.box rfl rfl rfl rfl ?_
 rintro g7 w1 f1
 refine rnT ?_
 refine TW.pk [0, 1, 2, 3, 4, 5, 6, 7, 14] rfl ?_
 have hB1 := f1.blk
 refine TW.cl en11 rfl (head_c (ht.below f1.below)) ?_
 rintro y w2 ⟨c2, rfl⟩
 have b2 := f1.below.step c2
 have hB2 := hB1.next c2
 refine rnT ?_
 refine TW.pk [0, 1, 2, 3, 4, 5, 6, 7, 14, 15] rfl ?_
 refine TW.loadS _ rfl rfl Tryz.underlying29 sz29 rfl ct (fun _ => (fun _ _ hv => hB2.fld hv)) rfl ?_
 refine rnT ?_
 refine TW.cl en22 rfl (right_c (net_step hN b2) (sd_step hd b2) (se_step hl b2) (sd_step hS b2)) ?_
 rintro y w3 ⟨c3, rfl⟩
 have b3 := b2.step c3
 have hB3 := hB2.next c3
 refine rnT ?_
 refine CW.pk [0, 1, 2, 3, 4, 5, 6, 7, 14, 15, 26] rfl ?_
 refine CW.cond rfl (fun hbad => ?_) (fun hgood => ?_)
 ·refine rnT ?_
  refine ret1 Tryz.results9 rfl (⟨b3, rfl⟩)
 have hR : RightP N d l ws := dec_iff.1 (nogood hgood)
 have hne := hR.light.needs
 have hln := hR.light.len
 have hwn := hR.light.ws12
 have hl3 := se_step hl b3
 have hS3 := sd_step hS b3
 refine rnT ?_
 refine CW.pk [0, 1, 2, 3, 4, 5, 6, 7, 14, 15, 16, 17] rfl ?_
 refine CW.loopS (fun x : Nat × Value × List (List Value × Ev) => [(1, none, dv), (2, none, .slice A l.length cap), (3, none, .slice X ws.length xcap), (4, none, .int .i64 o), (5, none, .int .i64 f), (6, none, .int .i64 t), (7, none, .pointer (some ⟨g7, 0, none⟩)), (15, none, .bool true), (16, none, x.2.1), (17, none, .int .i64 ((l.length : Int) - 1 - (x.1 : Int)))])
  (fun x W => x.1 ≤ l.length ∧ Below w3.heap.size w3 W ∧ RowL evT W 50 w3.heap.size x.2.1 x.2.2 ∧ x.2.2.map (·.2) = (l.reverse).take x.1) (fun x => l.length - x.1) (0, .slice none 0 0, []) [1, 2, 3, 4, 5, 6, 7, 15, 16, 17]
  ⟨Nat.zero_le _, Below.refl _ _, RowL.nil _ _ _ _, rfl⟩ (by simp only [Int.natCast_zero, Int.sub_zero]; rfl) ?_
 rintro ⟨i, rv, ps⟩ W ⟨hi, hB, hRw, hmap⟩
 dsimp only at hi hB hRw hmap
 have hpl : ps.length = i := by
  have := congrArg List.length hmap
  simp at this
  omega
 refine rnT ?_
 refine CW.pk [1, 2, 3, 4, 5, 6, 7, 15, 16, 17, 32] rfl ?_
 refine CW.condP rfl (fun hgo => ?_) (fun hend => ?_)
 ·dsimp only at hgo
  obtain ⟨e, he, hem⟩ := getx (l := l) (k := l.length - 1 - i) (by omega)
  have hlW := se_step hl3 hB
  obtain ⟨ad, rfl⟩ := hlW.addr (by omega)
  obtain ⟨nv, hcells, i1, i2, i3, hn0⟩ := SE.get hlW he
  obtain ⟨C, ncap, rfl, _⟩ := hn0.form
  have e1 : (((l.length - 1 - i : Nat) : Int)) = (l.length : Int) - 1 - (i : Int) := by omega
  rw [e1] at hcells
  refine rnT ?_
  refine TW.loadS _ rfl rfl Tryz.underlying50 sz50 rfl ct (fun _ => (fun j u hj => hcells j u hj)) rfl ?_
  refine TW.buildSlice 50 _ rfl rfl rfl eo31 (Args.cons rfl ct Args.nil) rfl rfl rfl rfl rfl ?_
  rintro g5 w5 f5
  have hR5 := hRw.step f5.below
  have hB5 := hB.step f5.below
  refine TW.append [.int .i64 e.office, .int .i64 e.low, .int .i64 e.high, .slice C e.needs.length ncap] rfl rfl go31 rfl hR5.1 rfl rfl (fun j v hj => ⟨⟨g5, 0, none⟩, rfl, f5.blk.fld hj⟩) (fun v hv => by simp at hv; rcases hv with rfl | rfl | rfl | rfl <;> rfl) (by omega) (by omega) ?_
  rintro rv' w6 hO6 hg6 hn6
  refine rnT ?_
  have hnd : SL intT (RowF w5 rv) w5 (.slice C e.needs.length ncap) e.needs := by
   obtain ⟨nv2, hc2, _, _, _, hn2⟩ := SE.get hl3 he
   have q1 := hcells 3 _ rfl
   have q2 := (hB.cell (block_lt_of_cell (hc2 3 _ rfl))).trans (hc2 3 _ rfl)
   rw [e1] at q2
   have q3 := Option.some.inj (q1.symm.trans q2)
   subst q3
   exact ((hn2.now intT_now).below hB5).wider fun q hq => ⟨by have := hB5.size; omega, fun e => by have := hRw.2.2 q e; omega⟩
  have hR6 : RowL evT w6 50 w3.heap.size rv' (ps ++ [([.int .i64 e.office, .int .i64 e.low, .int .i64 e.high, .slice C e.needs.length ncap], e)]) := hR5.app hO6 hg6 hn6 ⟨_, rfl, i1, i2, i3, hnd⟩ hB5.size
  refine KW.round (i + 1, rv', ps ++ [([.int .i64 e.office, .int .i64 e.low, .int .i64 e.high, .slice C e.needs.length ncap], e)]) [1, 2, 3, 4, 5, 6, 7, 15, 16, 17] ?_ ⟨by show i + 1 ≤ l.length; omega, hB5.grown hg6 hB5.size hRw.2.2, hR6, ?_⟩ (by show l.length - (i + 1) < l.length - i; omega)
  ·rw [show (l.length : Int) - 1 - ((i + 1 : Nat) : Int) = (l.length : Int) - 1 - (i : Int) - 1 by omega]
   rfl
  ·show List.map Prod.snd (ps ++ [_]) = (l.reverse).take (i + 1)
   rw [List.map_append, hmap, rev_next he (by omega)]
   rfl
 have hie : i = l.length := by
  dsimp only at hend
  omega
 subst hie
 have hrev := hRw.sl (by decide)
 rw [hmap, List.take_of_length_le (by simp)] at hrev
 clear hpl
 refine rnT ?_
 refine CW.pk [1, 2, 3, 4, 5, 6, 7, 15, 16, 17, 18, 19] rfl ?_
 refine CW.loopS (fun x : Nat × Value × List (List Value × List Int) => [(1, none, dv), (2, none, .slice A l.length cap), (3, none, .slice X ws.length xcap), (4, none, .int .i64 o), (5, none, .int .i64 f), (6, none, .int .i64 t), (7, none, .pointer (some ⟨g7, 0, none⟩)), (15, none, .bool true), (16, none, rv), (18, none, x.2.1), (19, none, .int .i64 ((ws.length : Int) - 1 - (x.1 : Int)))])
  (fun x W' => x.1 ≤ ws.length ∧ Below W.heap.size W W' ∧ RowL (sliceT intT) W' 48 W.heap.size x.2.1 x.2.2 ∧ x.2.2.map (·.2) = (ws.reverse).take x.1) (fun x => ws.length - x.1) (0, .slice none 0 0, []) [1, 2, 3, 4, 5, 6, 7, 15, 16, 18, 19]
  ⟨Nat.zero_le _, Below.refl _ _, RowL.nil _ _ _ _, rfl⟩ (by simp only [Int.natCast_zero, Int.sub_zero]; rfl) ?_
 rintro ⟨i, rw', qs⟩ W' ⟨hi, hB', hRw', hmap'⟩
 dsimp only at hi hB' hRw' hmap'
 have hpl : qs.length = i := by
  have := congrArg List.length hmap'
  simp at this
  omega
 have hBW' := hB.step hB'
 refine rnT ?_
 refine CW.pk [1, 2, 3, 4, 5, 6, 7, 15, 16, 18, 19, 46] rfl ?_
 refine CW.condP rfl (fun hgo2 => ?_) (fun hend2 => ?_)
 ·dsimp only at hgo2
  obtain ⟨S, hS1, hSm⟩ := getx (l := ws) (k := ws.length - 1 - i) (by omega)
  have hSW := hS3.below hBW'
  obtain ⟨ad, rfl⟩ := hSW.addr (by omega)
  obtain ⟨sv, hcell, hrow⟩ := hSW.row hS1
  obtain ⟨C, scap, rfl, _⟩ := hrow.form
  have e1 : (((ws.length - 1 - i : Nat) : Int)) = (ws.length : Int) - 1 - (i : Int) := by omega
  rw [e1] at hcell
  refine rnT ?_
  refine TW.ld rfl (hcell) ?_
  refine TW.buildSlice 48 _ rfl rfl rfl eo30 (Args.cons rfl ct Args.nil) rfl rfl rfl rfl rfl ?_
  rintro g5 w5 f5
  have hR5 := hRw'.step f5.below
  have hB5 := hB'.step f5.below
  refine TW.append [.slice C S.length scap] rfl rfl go30 rfl hR5.1 rfl rfl (fun j v hj => ⟨⟨g5, 0, none⟩, rfl, f5.blk.fld hj⟩) (fun v hv => by simp at hv; subst hv; rfl) (by omega) (by omega) ?_
  rintro rv' w6 hO6 hg6 hn6
  refine rnT ?_
  have hR6 : RowL (sliceT intT) w6 48 W.heap.size rv' (qs ++ [([.slice C S.length scap], S)]) := hR5.app hO6 hg6 hn6 ⟨_, rfl, (hrow.below f5.below).wider fun q hq => ⟨by have := hBW'.size; have := f5.below.size; omega, fun e => by have := hRw'.2.2 q e; have := hB.size; omega⟩⟩ hB5.size
  refine KW.round (i + 1, rv', qs ++ [([.slice C S.length scap], S)]) [1, 2, 3, 4, 5, 6, 7, 15, 16, 18, 19] ?_ ⟨by show i + 1 ≤ ws.length; omega, hB5.grown hg6 hB5.size hRw'.2.2, hR6, ?_⟩ (by show ws.length - (i + 1) < ws.length - i; omega)
  ·rw [show (ws.length : Int) - 1 - ((i + 1 : Nat) : Int) = (ws.length : Int) - 1 - (i : Int) - 1 by omega]
   rfl
  ·show List.map Prod.snd (qs ++ [_]) = (ws.reverse).take (i + 1)
   rw [List.map_append, hmap', rev_next hS1 (by omega)]
   rfl
 have hie : i = ws.length := by
  dsimp only at hend2
  omega
 subst hie
 have hwrev := hRw'.sl (by decide)
 rw [hmap', List.take_of_length_le (by simp)] at hwrev
 have b8 := b3.step hBW'
 have hB8 := hB3.next hBW'
 have ht8 := ht.below b8
 have hN8 := net_step hN b8
 have hd8 := sd_step hd b8
 have hl8 := se_step hl b8
 have hS8 := sd_step hS b8
 have hr8 := se_step hrev hB'
 have hne' : ∀ e ∈ l.reverse, e.needs.length ≤ 1000000 := fun e he => hne e (List.mem_reverse.1 he)
 have hKI : Knd.OK (.at o f t) := ⟨ho, hf, ht'⟩
 refine rnT ?_
 refine CW.draw mixed (by kernel_rfl) ?_
 refine rnD ?_
 refine DW.call (.ex (.bool true)) trivial rfl rfl en27 rfl ct (DArgs.cons rfl id (DArgs.cons rfl id DArgs.nil)) (fun _ w' hb' => (rfew28_c (sd_step hd8 hb') (se_step hr8 hb')).mono fun x w'' ⟨h1, h2⟩ => ⟨h1, h2.trans (by rw [dec_pos hR.light.few.rev])⟩) ?_
 refine rnD ?_
 refine DW.loadS _ rfl rfl Tryz.underlying29 sz29 rfl ct (fun _ => (fun _ _ hv => hB8.fld hv)) rfl ?_
 refine rnD ?_
 refine DW.call (.pr (fun u W => SPs W u (possS N d l ws f))) ?_ rfl rfl en16 rfl ct (DArgs.cons rfl id (DArgs.cons rfl id (DArgs.cons rfl id (DArgs.cons rfl id (DArgs.cons rfl id DArgs.nil))))) (fun _ w' hb' => possible_c (ht8.below hb') (net_step hN8 hb') (sd_step hd8 hb') (se_step hl8 hb') (sd_step hS8 hb') hne) ?_
 ·exact fun _ _ _ hb h => sps_step h hb
 refine DW.loadS _ rfl rfl Tryz.underlying29 sz29 rfl ct (fun _ => (fun _ _ hv => hB8.fld hv)) rfl ?_
 refine rnD ?_
 refine DW.call (.pr (fun u W => SPs W u (possS N d l.reverse ws.reverse f))) ?_ rfl rfl en16 rfl ct (DArgs.cons rfl id (DArgs.cons rfl id (DArgs.cons rfl id (DArgs.cons rfl id (DArgs.cons rfl id DArgs.nil))))) (fun _ w' hb' => possible_c (ht8.below hb') (net_step hN8 hb') (sd_step hd8 hb') (se_step hr8 hb') (sd_step hwrev hb') hne') ?_
 ·exact fun _ _ _ hb h => sps_step h hb
 refine DW.callP (.ex (.bool true)) (trivial) rfl rfl en15 rfl ct (PArgs.cons rfl id (PArgs.cons rfl id PArgs.nil)) (fun _ w' hb' vs hs => ?_) ?_
 ·obtain ⟨u, x, rfl, hu, hx⟩ := Sats.two hs
  have hu : SPs w' u (possS N d l ws f) := hu
  have hx : SPs w' x (possS N d l.reverse ws.reverse f) := hx
  exact (rsameS_c hu hx).mono fun x w'' ⟨h1, h2⟩ => ⟨h1, h2.trans (by rw [poss_rev, decide_eq_true rfl])⟩
 refine rnD ?_
 refine DW.call (.ex (.bool (reachS d l ws o f t))) trivial rfl rfl en18 rfl ct (DArgs.cons rfl id (DArgs.cons rfl id (DArgs.cons rfl id (DArgs.cons rfl id (DArgs.cons rfl id (DArgs.cons rfl id DArgs.nil)))))) (fun _ w' hb' => reach_c (sd_step hd8 hb') (se_step hl8 hb') (sd_step hS8 hb') hne hKI) ?_
 refine rnD ?_
 refine DW.call (.ex (.bool (reachS d l ws o f t))) trivial rfl rfl en18 rfl ct (DArgs.cons rfl id (DArgs.cons rfl id (DArgs.cons rfl id (DArgs.cons rfl id (DArgs.cons rfl id (DArgs.cons rfl id DArgs.nil)))))) (fun _ w' hb' => (reach_c (sd_step hd8 hb') (se_step hr8 hb') (sd_step hwrev hb') hne' hKI).mono fun x w'' ⟨h1, h2⟩ => ⟨h1, h2.trans (by rw [reach_rev])⟩) ?_
 refine rnD ?_
 refine DW.call (.ex (.bool (seenS l ws o t))) trivial rfl rfl en20 rfl ct (DArgs.cons rfl id (DArgs.cons rfl id (DArgs.cons rfl id (DArgs.cons rfl id DArgs.nil)))) (fun _ w' hb' => seen_c (se_step hl8 hb') (sd_step hS8 hb') (by omega) hne) ?_
 refine rnD ?_
 refine DW.call (.ex (.bool (seenS l ws o t))) trivial rfl rfl en20 rfl ct (DArgs.cons rfl id (DArgs.cons rfl id (DArgs.cons rfl id (DArgs.cons rfl id DArgs.nil)))) (fun _ w' hb' => (seen_c (se_step hr8 hb') (sd_step hwrev hb') (by rw [List.length_reverse]; omega) hne').mono fun x w'' ⟨h1, h2⟩ => ⟨h1, h2.trans (by rw [seen_rev])⟩) ?_
 refine rnD ?_
 refine DW.fi [1, 2, 3, 4, 5, 6, 7, 14, 15, 16, 18, 19] rfl fun w9 b9 => ?_
 refine rnT ?_
 refine ret1 Tryz.results9 rfl (⟨b8.step b9, ?_⟩)
 simp
end Go.Proofs.YtnjknkgomhmlfaaGreatDoor
