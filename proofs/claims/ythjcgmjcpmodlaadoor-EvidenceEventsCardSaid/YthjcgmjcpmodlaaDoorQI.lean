/- Texts joined: Vm Vn Cpy Yf. -/
import Derived.Test.YthjcgmjcpmodlaaDoorQH
import Derived.Test.YthjcgmjcpmodlaaDoorQF
import Derived.Laws.IdiomCopy
import Derived.Test.YthjcgmjcpmodlaaDoorQG
set_option linter.unusedSimpArgs false
set_option linter.unusedVariables false

namespace Go.Proofs.YthjcgmjcpmodlaaDoor
open Go.PF Go.RowKit Go.Ord Go.Sort Go.Proofs

set_option maxRecDepth 20000 in
theorem eventsz_c {w : World} {sb bl bh n : Nat} {u v : Value} {l : List Sc} {r : List Rc} {lab : ByteArray} (hS : SrcOK w sb bl bh u v l r) (ht : Tabs w) (hn1 : 1 ≤ n) (hn4 : n ≤ 4) :
    Gives Tryd.prog 21 #[.pointer (some ⟨sb, 0, none⟩), .string lab, .int .i64 (n : Int)] w fun y w' => Below w.heap.size w w' ∧ (∀ k, y.ownBlock = some k → w.heap.size ≤ k) ∧ ∃ qs, EvRow w.heap.size w' y qs ∧ SrtE (qs.map (·.1)) ∧ ∀ e, e ∈ qs.map (·.1) ↔ Fol l r lab e ∧ e.needs.length = n := by
  have hbl : bl < w.heap.size := by obtain ⟨m, h, _⟩ := hS.lab; exact h.lt
  have hbh : bh < w.heap.size := by obtain ⟨m, h, _⟩ := hS.hold; exact h.lt
  refine gives_of (vs := [.pointer (some ⟨sb, 0, none⟩), .string lab, .int .i64 (n : Int)]) [(0, none, _), (1, none, _), (2, none, _)] Tryd.func21 rfl Tryd.ntmps21 rfl rfl ?_
  refine CW.seq (CW.region ?_)
  refine TW.box rfl rfl rfl rfl ?_
  rintro gs w1 f1
  refine TW.box rfl rfl rfl rfl ?_
  rintro gz w2 f2
  refine TW.assign rfl rfl rfl ct ?_
  refine TW.nil (KW.pick [0, 1, 2, 3, 5, 6] [(0, _, _), (1, _, _), (2, _, _), (3, _, _), (5, _, _), (6, _, _)] rfl (KW.then_ ?_))
  refine CW.seq (CW.region ?_)
  refine TW.makeMapL sK rfl rfl ?_
  rintro fb w3 hfb hw3 hb3 hM3
  refine TW.newVar1 rfl zc58 rfl sz58 rfl ?_
  rintro gf w4 f4
  refine TW.nil (KW.pick [0, 1, 2, 3, 5, 6, 7] [(0, _, _), (1, _, _), (2, _, _), (3, _, _), (5, _, _), (6, _, _), (7, _, _)] rfl (KW.then_ ?_))
  refine CW.seq (CW.region ?_)
  refine TW.alloc rfl rfl zc59 ?_
  rintro gw w5 f5
  refine TW.nil (KW.pick [0, 1, 2, 3, 5, 6, 7, 8] [(0, _, _), (1, _, _), (2, _, _), (3, _, _), (5, _, _), (6, _, _), (7, _, _), (8, _, _)] rfl (KW.then_ ?_))
  refine CW.seq (CW.region ?_)
  refine TW.makeFunc rfl rfl (Args.cons rfl ct (Args.cons rfl ct (Args.cons rfl ct (Args.cons rfl ct Args.nil)))) ?_
  have a1 := f1.at_
  have a2 := f2.at_
  have a4 := f4.at_
  have a5 := f5.at_
  have s1 := f1.size
  have s2 := f2.size
  have s4 := f4.size
  have s5 := f5.size
  have hb05 : Below w.heap.size w w5 := (((f1.below.step f2.below).step hb3).step f4.below).step f5.below
  refine TW.storeFld (j := 0) rfl sz59 rfl rfl f5.blk (by decide) rfl ?_
  rintro w6 hB6 hbut6 hsz6
  refine TW.nil (KW.pick [0, 1, 2, 3, 5, 6, 7, 8] [(0, _, _), (1, _, _), (2, _, _), (3, _, _), (5, _, _), (6, _, _), (7, _, _), (8, _, _)] rfl (KW.then_ ?_))
  refine CW.seq (CW.region ?_)
  have hb06 : Below w.heap.size w w6 := hb05.grown hbut6 hb05.size (fun q hq => by cases hq; omega)
  have hM6 : MapL sK w6 fb [] := ((hM3.below f4.below).below f5.below).but hbut6 (by omega)
  have hX : FolCtx w6 sb bl bh u v l r gz gs gf gw fb n :=
    ⟨hS.below hb06, hbut6.blk (((f2.blk.next hb3).next f4.below).next f5.below) (by omega), hbut6.blk ((((f1.blk.next f2.below).next hb3).next f4.below).next f5.below) (by omega), hbut6.blk (f4.blk.next f5.below) (by omega), hB6, ht.below hb06, by omega, by omega⟩
  have hF6 : FoundIs w.heap.size w6 fb (fun _ => False) := ⟨[], hM6, fun p hp => (by cases hp), fun e h => h.elim⟩
  refine TW.load rfl rfl one59 rfl ct (fun _ => hB6.cell 0) ?_
  refine TW.move rfl rfl rfl ct ?_
  refine TW.call0 rfl rfl en26 rfl (Args.cons rfl ct (Args.cons rfl ct Args.nil)) (follow_c (lab := lab) hn1 hn4 (min n 3) w6 [] lab (.slice none 0 0) (fun _ => False) (fun _ => False) (by simp) (by simp) .nil (SL.nil _ _ _) hX hb06.size hF6) ?_
  rintro y7 w7 ⟨hbut7, hF7⟩
  have hb07 : Below w.heap.size w w7 := hb06.grown hbut7 hb06.size (fun q hq => by cases hq; omega)
  have hX7 := hX.but hbut7 hM6
  refine TW.nil (KW.pick [0, 1, 2, 3, 5, 6, 7, 8] [(0, _, _), (1, _, _), (2, _, _), (3, _, _), (5, _, _), (6, _, _), (7, _, _), (8, _, _)] rfl (KW.then_ ?_))
  refine CW.seq (CW.region ?_)
  refine TW.load rfl rfl one58 rfl ct (fun _ => hX7.bf.cell 0) ?_
  refine TW.call0 (cap := []) rfl rfl en32 rfl (Args.cons rfl ct Args.nil) (values_c) ?_
  rintro y8 w8 ⟨hb8, gm, rfl, hBm⟩
  have hF8 : FoundIs w.heap.size w8 fb (fun e => Fol l r lab e ∧ e.needs.length = n) := (hF7.below hb8).congr fun e => by
    rw [fol_iff]
    exact ⟨fun h => h.resolve_left id, .inr⟩
  obtain ⟨c1, hc1⟩ : ∃ c1 : List Value, c1 = [.pointer (some ⟨gm, 0, none⟩)] := ⟨_, rfl⟩
  rw [← hc1]
  refine TW.call0 (cap := []) rfl rfl en31 rfl (Args.cons rfl ct (Args.cons rfl ct Args.nil)) (sortedE_c hc1 hBm hF8 (fun e h => by have := h.1.len.2; omega) (allEv_len (l := l) hS.few) (fun e h => fol_all h.1)) ?_
  rintro y9 w9 ⟨hb9, hfr9, hqs⟩
  refine TW.assign rfl rfl rfl ct ?_
  refine TW.nil (KW.pick [0, 1, 2, 3, 5, 6, 7, 8] [(0, _, _), (1, _, _), (2, _, _), (3, _, _), (5, _, _), (6, _, _), (7, _, _), (8, _, _)] rfl (KW.then_ ?_))
  refine CW.ret ?_
  refine ret1 Tryd.results21 rfl (⟨(hb07.step hb8).step hb9, fun k hk => by have := hfr9 k hk; have := (hb07.step hb8).size; omega, hqs⟩)
end Go.Proofs.YthjcgmjcpmodlaaDoor

namespace Go.Proofs.YthjcgmjcpmodlaaDoor
open Go.PF Go.RowKit Go.Ord Go.Sort Go.Proofs

noncomputable def folL (l : List Sc) (r : List Rc) (lab : ByteArray) : List Ev := (allEv l r).filter fun e => dec (Fol l r lab e)
theorem mem_folL {l : List Sc} {r : List Rc} {lab : ByteArray} {e : Ev} : e ∈ folL l r lab ↔ Fol l r lab e := by
  unfold folL
  rw [List.mem_filter, dec_iff]
  exact ⟨fun h => h.2, fun h => ⟨fol_all h, h⟩⟩
noncomputable def evsOf (l : List Sc) (r : List Rc) (lab : ByteArray) : List Ev := (canon (folL l r lab)).take 14
theorem folL_len {l : List Sc} {r : List Rc} {lab : ByteArray} : ∀ e ∈ folL l r lab, 1 ≤ e.needs.length ∧ e.needs.length ≤ 4 := fun _ h => (mem_folL.1 h).len
theorem src_of {w : World} {u v : Value} {l : List Sc} {r : List Rc} {sb bl bh lo : Nat} (hB : Blk w sb 57 [u, v, .map (some bl), .map (some bh)]) (hT : Tabs2 w l r lo bl bh r.length) (hl : SS w u l) (hr : SR w v r) (hsm : r.length ≤ 400) : SrcOK w sb bl bh u v l r := by
  obtain ⟨own, m1, m2, h1, h2⟩ := hT
  exact ⟨hB, hl, hr, LookIs.of h1 (by omega) (fun k j h => h.1) hsm, LookIs.of h2 (by omega) (fun k j h => h.1) hsm, hsm⟩
theorem evCells_one {base : Nat} {w : World} {v : Value} {qs : List (Ev × Value)} (h : EvRow base w v qs) : ∀ u ∈ qs.flatMap (fun q => evV q.1 q.2), u.oneCell' = true := fun u hu => by
  obtain ⟨q, hq, hu⟩ := List.mem_flatMap.1 hu
  obtain ⟨A, c, hv, _⟩ := (h.2 q hq).nd.form
  simp [evV] at hu
  rcases hu with rfl | rfl | rfl | rfl
  · rfl
  · rfl
  · rfl
  · rw [hv]; rfl
theorem EvRow.app {b c : Nat} {w w' : World} {ev y v' : Value} {qs qs' : List (Ev × Value)} (hcb : c ≤ b) (h : EvRow c w ev qs) (h' : EvRow b w y qs') (hev : ∀ g, ev.ownBlock = some g → g < b)
    (hO : OwnS w' 31 4 v' (qs.length + qs'.length) (qs.flatMap (fun q => evV q.1 q.2) ++ qs'.flatMap fun q => evV q.1 q.2)) (hg : w.grownBy w' ev.ownBlock) (hn : v'.ownBlock = ev.ownBlock ∨ v'.ownBlock = some w.heap.size) : EvRow c w' v' (qs ++ qs') := by
  refine ⟨by rw [List.flatMap_append, List.length_append]; exact hO, fun q hq => ?_⟩
  have hlt : ∀ g, ev.ownBlock = some g → g < w.heap.size := fun g hg => h.1.lt hg
  have up : ∀ {F : Nat → Prop}, (∀ k, F k → c ≤ k ∧ k < w.heap.size ∧ ev.ownBlock ≠ some k) → EvOK F w q.2 q.1 → EvOK (FsK c w' v') w' q.2 q.1 := fun hF a =>
    ⟨a.i1, a.i2, a.i3, (a.nd.mono (Kept.of_blocks fun k hk hlt => hg.block k hlt (fun e => (hF k hk).2.2 e.symm))).wider fun k hk => ⟨(hF k hk).1, Nat.lt_of_lt_of_le (hF k hk).2.1 hg.size, fun e => by
      rcases hn with e2 | e2
      · exact (hF k hk).2.2 (by rw [← e2]; exact e)
      · rw [e2] at e; cases e; have := (hF _ hk).2.1; omega⟩⟩
  rcases List.mem_append.1 hq with hq | hq
  · exact up (fun k hk => hk) (h.2 q hq)
  · exact up (fun k hk => ⟨Nat.le_trans hcb hk.1, hk.2.1, fun e => by have := hev k e; have := hk.1; omega⟩) (h'.2 q hq)
theorem EvRow.slN {base : Nat} {w : World} {v : Value} {qs : List (Ev × Value)} (h : EvRow base w v qs) (hb : ∀ g, v.ownBlock = some g → base ≤ g) (hn : qs.length ≤ 9223372036854775807) : SL evT (fun k => base ≤ k ∧ k < w.heap.size) w v (qs.map (·.1)) := by
  have e : (qs.map fun q => (evV q.1 q.2, q.1)).flatMap (·.1) = qs.flatMap fun q => evV q.1 q.2 := by rw [List.flatMap_map]
  have := OwnS.toSLp (T := evT) (F := fun k => base ≤ k ∧ k < w.heap.size) (e := 31) (v := v) (n := qs.length) (qs.map fun q => (evV q.1 q.2, q.1)) (fun p hp => by
    obtain ⟨q, hq, rfl⟩ := List.mem_map.1 hp
    have a := h.2 q hq
    exact ⟨q.2, rfl, a.i1, a.i2, a.i3, a.nd.wider fun k hk => ⟨hk.1, hk.2.1⟩⟩) (by decide) (by rw [e]; exact h.1) (by simp) (fun g hg => ⟨hb g hg, h.1.lt hg⟩) (by simpa using hn)
  have e2 : (qs.map fun q => (evV q.1 q.2, q.1)).map (·.2) = qs.map (·.1) := by rw [List.map_map]; rfl
  rw [e2] at this
  exact this

set_option maxRecDepth 20000 in
theorem events_n {w : World} {u v : Value} {l : List Sc} {r : List Rc} {lab : ByteArray} (hl : SS w u l) (hr : SR w v r) (hsm : r.length ≤ 400) (ht : Tabs w) :
    Gives Tryd.prog 9 #[u, v, .string lab] w fun x w' => Below w.heap.size w w' ∧ SL evT (fun k => w.heap.size ≤ k ∧ k < w'.heap.size) w' x (evsOf l r lab) := by
  obtain ⟨A, cap, hv, _⟩ := hr.form
  subst hv
  obtain ⟨B, bcap, hu, _⟩ := hl.form
  subst hu
  refine gives_of (vs := [.slice B l.length bcap, .slice A r.length cap, .string lab]) [(0, none, _), (1, none, _), (2, none, _)] Tryd.func9 rfl Tryd.ntmps9 rfl rfl ?_
  refine CW.seq (CW.region ?_)
  refine TW.assign rfl rfl rfl ct ?_
  refine TW.nil (KW.pick [0, 1, 2, 6] [(0, _, _), (1, _, _), (2, _, _), (6, _, _)] rfl (KW.then_ ?_))
  refine CW.seq (CW.seq (CW.region ?_))
  refine TW.move rfl rfl rfl ct ?_
  refine TW.lenSlice rfl rfl Tryd.underlying23 rfl ct ?_
  refine TW.gtr rfl rfl rfl ct rfl ct ?_
  refine TW.nil (KW.pick [0, 1, 2, 6, 12] [(0, _, _), (1, _, _), (2, _, _), (6, _, _), (12, _, _)] rfl (KW.then_ ?_))
  refine CW.condP rfl (fun hbig => ?_) (fun hsmall => ?_)
  · exact absurd hsm (by omega)
  refine CW.skip (KW.then_ (CW.seq (CW.region ?_)))
  refine TW.move rfl rfl rfl ct ?_
  refine TW.move rfl rfl rfl ct ?_
  refine TW.call0 (cap := []) rfl rfl en20 rfl (Args.cons rfl ct (Args.cons rfl ct Args.nil)) (read_c hl hr hsm) ?_
  rintro y1 w1 ⟨hb1, sb, bl, bh, lo, rfl, hB1, hT1⟩
  have hS1 := src_of hB1 hT1 (ss_step hl hb1) (sr_step hr hb1) hsm
  refine TW.assign rfl rfl rfl ct ?_
  refine TW.nil (KW.pick [0, 1, 2, 6, 7] [(0, _, _), (1, _, _), (2, _, _), (6, _, _), (7, _, _)] rfl (KW.then_ ?_))
  refine CW.seq (CW.region ?_)
  refine TW.assign rfl rfl rfl ct ?_
  refine TW.nil (KW.pick [0, 1, 2, 6, 7, 8] [(0, _, _), (1, _, _), (2, _, _), (6, _, _), (7, _, _), (8, _, _)] rfl (KW.then_ ?_))
  refine CW.seq (CW.seq (CW.region ?_))
  refine TW.assign rfl rfl rfl ct ?_
  refine TW.nil (KW.pick [0, 1, 2, 6, 7, 8, 9] [(0, _, _), (1, _, _), (2, _, _), (6, _, _), (7, _, _), (8, _, _), (9, _, _)] rfl (KW.then_ ?_))
  refine CW.block ?_
  refine CW.loopS (fun x : Nat × Value × List (Ev × Value) => [(2, none, .string lab), (7, none, .pointer (some ⟨sb, 0, none⟩)), (8, none, x.2.1), (9, none, .int .i64 ((x.1 : Int) + 1))])
    (fun x W => x.1 ≤ 4 ∧ Below w1.heap.size w1 W ∧ EvRow w.heap.size W x.2.1 x.2.2 ∧ (∀ g, x.2.1.ownBlock = some g → w1.heap.size ≤ g) ∧ x.2.2.map (·.1) = upTo (folL l r lab) x.1) (fun x => 4 - x.1)
    (0, .slice none 0 0, []) [2, 7, 8, 9] ⟨Nat.zero_le _, Below.refl _ _, EvRow.nil _ w1, fun g hg => (by simp [Value.ownBlock] at hg), rfl⟩ rfl ?_
  rintro ⟨k, ev, qs⟩ W ⟨hk, hB, hE, hfr, hup⟩
  dsimp only at hk hB hE hfr hup
  obtain ⟨A1, acap, hev, hcapq, _⟩ := hE.1.form
  subst hev
  have hlen : qs.length = (upTo (folL l r lab) k).length := by rw [← hup, List.length_map]
  have hSW := hS1.below hB
  have hbound : ∀ {z : List Ev}, SrtE z → (∀ e ∈ z, e ∈ allEv l r) → z.length ≤ 26000000000 := fun {z} hs ha => by
    have h1 := nodup_len (l := z.map textE) (k := (allEv l r).map textE) (List.nodup_iff_pairwise_ne.2 (List.pairwise_map.2 (hs.imp fun {a b} h1 e => by
      have := textE_inj e
      subst this
      exact ltE_irrefl h1))) (fun y hy => by
      obtain ⟨e, he, rfl⟩ := List.mem_map.1 hy
      exact List.mem_map.2 ⟨e, ha e he, rfl⟩)
    simp at h1
    exact Nat.le_trans h1 (allEv_len hsm)
  have hql : qs.length ≤ 26000000000 := by
    rw [hlen]
    exact hbound (srt_upTo _ _) fun e he => fol_all (mem_folL.1 (mem_upTo.1 he).1)
  refine CW.seq (CW.seq (CW.region ?_))
  refine TW.move rfl rfl rfl ct ?_
  refine TW.leq rfl rfl rfl ct rfl ct ?_
  refine TW.move rfl rfl rfl ct ?_
  refine TW.move rfl rfl rfl ct ?_
  refine TW.lenSlice rfl rfl Tryd.underlying26 rfl id ?_
  refine TW.lss rfl rfl rfl id rfl ct ?_
  refine TW.pickAnd rfl rfl rfl ct rfl pAnd0 ?_
  refine TW.nil (KW.pick [2, 7, 8, 9, 22] [(2, _, _), (7, _, _), (8, _, _), (9, _, _), (22, _, _)] rfl (KW.then_ ?_))
  refine CW.cond rfl (fun hin => ?_) (fun hout => ?_)
  · have hk4 : k < 4 ∧ qs.length < 14 := by
      simp at hin
      omega
    refine CW.skip (KW.then_ (CW.seq (CW.block (CW.region ?_))))
    refine TW.move rfl rfl rfl ct ?_
    refine TW.move rfl rfl rfl ct ?_
    refine TW.move rfl rfl rfl ct ?_
    refine TW.move rfl rfl rfl ct ?_
    rw [show ((k : Int) + 1) = ((k + 1 : Nat) : Int) by omega]
    refine TW.call0 (cap := []) rfl rfl en21 rfl (Args.cons rfl ct (Args.cons rfl ct (Args.cons rfl ct Args.nil))) (eventsz_c (n := k + 1) hSW ((ht.below hb1).below hB) (by omega) (by omega)) ?_
    rintro y2 w2 ⟨hb2, hfr2, qs', hE2, hsrt2, hmem2⟩
    have hE' := hE.below hb2
    have hcan : qs'.map (·.1) = canon (ofLen (folL l r lab) (k + 1)) := canon_of hsrt2 fun e => by
      rw [hmem2]
      unfold ofLen
      rw [List.mem_filter, mem_folL]
      simp
    have hql' : qs'.length ≤ 26000000000 := by
      have := hbound hsrt2 fun e he => fol_all ((hmem2 e).1 he).1
      simpa using this
    obtain ⟨Y, ycap, hy, _, _, hcells⟩ := hE2.1.form
    subst hy
    refine TW.append (qs'.flatMap fun q => evV q.1 q.2) rfl rfl go26 rfl hE'.1 rfl hE2.1.1 (fun j u hj => ?_) (evCells_one hE2) (by omega) (by omega) ?_
    · obtain ⟨g, h1, _, h3, _⟩ := hcells j u hj
      exact ⟨_, h1, by rw [addr0]; exact h3⟩
    rintro v3 w3 hO3 hg3 hn3
    have hWs := hB.size
    have hE3 := EvRow.app (Nat.le_trans hb1.size hB.size) hE' hE2 (fun g hg => hE.1.lt hg) hO3 hg3 hn3
    have hb23 := hB.step hb2
    refine TW.assign rfl rfl rfl ct ?_
    refine TW.nil (KW.pick [2, 7, 8, 9] [(2, _, _), (7, _, _), (8, _, _), (9, _, _)] rfl (KW.blockN (KW.then_ ?_)))
    refine CW.region ?_
    refine TW.move rfl rfl rfl ct ?_
    refine TW.add rfl rfl rfl ct rfl ct (fun _ => by (try dsimp only); omega) ?_
    refine TW.assign rfl rfl rfl ct ?_
    refine TW.nil (KW.pick [2, 7, 8, 9] [(2, _, _), (7, _, _), (8, _, _), (9, _, _)] rfl ?_)
    refine KW.round (k + 1, v3, qs ++ qs') [2, 7, 8, 9] rfl ⟨by omega, hb23.grown hg3 hb23.size hfr, hE3, fun g hg => ?_, ?_⟩ (by omega)
    · rcases hn3 with h | h
      · exact hfr g (by rw [← h]; exact hg)
      · rw [h] at hg; cases hg; exact hb23.size
    · rw [List.map_append, hup, hcan, upTo_succ]
  · have hk4 : k = 4 ∨ 14 ≤ qs.length := by
      simp at hout
      omega
    refine CW.exit (KW.thenX (KW.thenX (KW.blockX (KW.then_ (CW.seq (CW.region ?_))))))
    refine TW.move rfl rfl rfl ct ?_
    refine TW.move rfl rfl rfl ct ?_
    refine TW.lenSlice rfl rfl Tryd.underlying26 rfl ct ?_
    refine TW.minI rfl rfl rfl ct rfl ct ?_
    refine TW.sliceH rfl rfl Tryd.underlying26 sz31 rfl ct rfl ct (fun _ => by (try dsimp only); omega) ?_
    refine TW.assign rfl rfl rfl ct ?_
    refine TW.nil (KW.pick [2, 6, 7, 8, 9] [(2, _, _), (6, _, _), (7, _, _), (8, _, _), (9, _, _)] rfl (KW.then_ ?_))
    refine CW.ret ?_
    refine ret1 Tryd.results9 rfl (⟨hb1.step hB, ?_⟩)
    have hs := EvRow.slN hE (fun g hg => Nat.le_trans hb1.size (hfr g hg)) (by omega)
    have hsl : qs.length = (qs.map (·.1)).length := by simp
    have htk := SL.takeS hs (i := min qs.length 14) (by rw [← hsl]; omega)
    rw [show (min (qs.length : Int) 14).toNat = min qs.length 14 by omega]
    have he : (qs.map (·.1)).take (min qs.length 14) = evsOf l r lab := by
      unfold evsOf
      rw [← upTo_canon folL_len, hup]
      rcases hk4 with rfl | h14
      · rw [hlen]
        rcases Nat.le_total 14 (upTo (folL l r lab) 4).length with h | h
        · rw [Nat.min_eq_right h]
        · rw [Nat.min_eq_left h, List.take_length, List.take_of_length_le h]
      · obtain ⟨s, hs⟩ := upTo_pre (folL l r lab) hk
        rw [hs, take_pre (by omega), show min qs.length 14 = 14 by omega]
    rw [he] at htk
    exact htk
theorem events_c {w : World} {u v : Value} {l : List Sc} {r : List Rc} {lab : ByteArray} (hl : SS w u l) (hr : SR w v r) (hsm : r.length ≤ 400) (ht : Tabs w) :
    Gives Tryd.prog 9 #[u, v, .string lab] w fun x w' => Below w.heap.size w w' ∧ SE w' x (evsOf l r lab) :=
  (events_n hl hr hsm ht).mono fun x w' ⟨h1, h2⟩ => ⟨h1, h2.wider fun _ hk => hk.2⟩
end Go.Proofs.YthjcgmjcpmodlaaDoor

/- 'copy' within a row that the call owns. -/
namespace Go.PF
open Go.RowKit
section
variable {P : Program} {r : Option Nat} {Q : Exit → Act → World → Prop} {N : Nat} {ds : List Deferred} {ops rest : List Oper} {E : Env} {w : World}
variable {d : Option Tmp} {ty : TypeId} {pos : String} {af : Array Edge} {gu : Option (Nat × Bool)} {x y : Operand}
theorem splice_nil (xs : List Value) (o : Nat) : splice xs o [] = xs := by unfold splice; simp
theorem TW.copyOwn {t t2 e e' : TypeId} {sz n c g o p m dl dc ml mc : Nat} {A B : Option Addr} {xs : List Value} (hg : gu = none) (hd : okDst N d = true) (ht : P.underlying t = some (.slice e)) (hs : (P.info? e).map (·.size) = some sz)
    (hx : ev E x = some (none, .slice A dl dc)) (hy : ev E y = some (none, .slice B ml mc)) (hown : OwnS w e' sz (.slice (some ⟨g, 0, none⟩) n c) n xs) (hm : m = Nat.min ml dl) (hA : 0 < m → A = some ⟨g, o, none⟩) (hB : 0 < m → B = some ⟨g, p, none⟩) (ho : o + m * sz ≤ n * sz) (hp : p + m * sz ≤ n * sz) (h1 : ∀ u ∈ xs, u.oneCell' = true)
    (next : ∀ w', OwnS w' e' sz (.slice (some ⟨g, 0, none⟩) n c) n (splice xs o ((xs.drop p).take (m * sz))) → w.grownBy w' (some g) → w'.heap.size = w.heap.size → TW P r Q N ds ops rest (ins E d none (.int .i64 (m : Int))) w') :
    TW P r Q N ds ops (⟨d, .call ⟨.builtin .copy, #[x, y], #[t, t2]⟩, ty, pos, af, gu⟩ :: rest) E w := by
  have hlx : xs.length = n * sz := hown.1
  rcases Nat.eq_zero_or_pos m with h0 | hpos
  · have hrun : (Builtin.copy_ #[t, t2] ty #[.slice A dl dc, .slice B ml mc]).run P w = .ok (goInt 0) w := by
      cases hq : P.info? e with
      | none => simp [hq] at hs
      | some i =>
        have hn0 : Nat.min ml dl = 0 := by omega
        have hl : ∀ (z : Addr), (loadCells z 0).run P w = .ok #[] w := fun z => by simpa using run_loadCells_list (P := P) w z [] (by simp)
        cases A <;> cases B <;> simp [Builtin.copy_, run_underlying ht, Builtin.lenOf, Builtin.firstCells, sizeOf, typeInfo, hq, hn0, storeCells, hl]
    refine TW.eff (v := .int .i64 (m : Int)) (w' := w) hg hd rfl (fun a ha => ?_) (next w ?_ ⟨rfl, rfl, rfl, Nat.le_refl _, fun _ _ _ => rfl⟩ rfl)
    · simp [execOp, resolve, Go.invoke, Go.builtin, ha.eval hx trivial, ha.eval hy trivial, hrun, goInt, h0]
    · rw [h0]
      simp only [Nat.zero_mul, List.take_zero]
      rw [splice_nil]
      exact hown
  · have hA := hA hpos
    have hB := hB hpos
    subst hA
    subst hB
    obtain ⟨cs, hcs⟩ : ∃ cs, cs = (xs.drop p).take (m * sz) := ⟨_, rfl⟩
    have hcl : cs.length = m * sz := by rw [hcs]; simp; omega
    obtain ⟨A', cap, hv, _, _, hc⟩ := hown.form
    have hload : (loadCells ⟨g, p, none⟩ (m * sz)).run P w = .ok cs.toArray w := by
      rw [← hcl]
      refine run_loadCells_list (P := P) w _ cs fun j u hj => ?_
      have hjl : j < m * sz := by rw [← hcl]; exact (List.getElem?_eq_some_iff.1 hj).1
      have hj2 : xs[p + j]? = some u := by
        rw [hcs, List.getElem?_take_of_lt hjl, List.getElem?_drop] at hj
        exact hj
      obtain ⟨g', _, h3, h4, _⟩ := hc _ _ hj2
      simp [Value.ownBlock] at h3
      subst h3
      have e : (⟨g, p, none⟩ : Addr).add j = ⟨g, p + j, none⟩ := by unfold Addr.add; split <;> simp_all
      rw [e]
      exact h4
    obtain ⟨w', hr, hO, hgw, hsz⟩ := run_storeCells_own (P := P) (e := e') (sz := sz) (n := n) (v := .slice (some ⟨g, 0, none⟩) n c) (g := g) rfl cs w xs o 0 hown (by omega) (fun u hu => h1 u (by rw [hcs] at hu; exact List.mem_of_mem_drop (List.mem_of_mem_take hu)))
    have hrun : (Builtin.copy_ #[t, t2] ty #[.slice (some ⟨g, o, none⟩) dl dc, .slice (some ⟨g, p, none⟩) ml mc]).run P w = .ok (goInt m) w' := by
      cases hq : P.info? e with
      | none => simp [hq] at hs
      | some i =>
        simp [hq] at hs
        simp [Builtin.copy_, run_underlying ht, Builtin.lenOf, Builtin.firstCells, sizeOf, typeInfo, hq, hs, ← hm, hload, hr]
    refine TW.eff (v := .int .i64 (m : Int)) (w' := w') hg hd rfl (fun a ha => ?_) (next w' (by rw [← hcs]; simpa using hO) hgw hsz)
    simp [execOp, resolve, Go.invoke, Go.builtin, ha.eval hx trivial, ha.eval hy trivial, hrun, goInt]
end
end Go.PF

namespace Go.Ord
theorem insE_mem {e : Ev} : ∀ {z : List Ev}, SrtE z → e ∈ z → insE e z = z
  | [], _, h => by cases h
  | f :: z, hz, h => by
    have hz' := List.pairwise_cons.1 hz
    unfold insE
    rcases List.mem_cons.1 h with rfl | h
    · rw [cmpE_zero.2 rfl]
      simp
    · have hl : ltE f e := hz'.1 e h
      have ha := cmpE_anti e f
      unfold ltE at hl
      rw [if_neg (by omega), if_neg (by omega), insE_mem hz'.2 h]
theorem insE_split {e : Ev} {s : List Ev} (hs : ∀ f ∈ s, ltE e f) : ∀ {p : List Ev}, (∀ f ∈ p, ltE f e) → insE e (p ++ s) = p ++ e :: s
  | [], _ => by
    cases s with
    | nil => rfl
    | cons f s =>
      have := hs f (by simp)
      unfold ltE at this
      simp only [List.nil_append]
      unfold insE
      rw [if_pos this]
  | f :: p, hp => by
    have hl := hp f (by simp)
    have ha := cmpE_anti e f
    unfold ltE at hl
    simp only [List.cons_append]
    unfold insE
    rw [if_neg (by omega), if_neg (by omega), insE_split hs fun g hg => hp g (by simp [hg])]
end Go.Ord
namespace Go.PF
theorem splice_in {a b e : List Value} {n m s : Nat} (hn : n = a.length) (hs : s = e.length) (hm : m = b.length) : splice (splice (a ++ b ++ e) (n + s) (((a ++ b ++ e).drop n).take m)) n e = a ++ e ++ b := by
  have h1 : ((a ++ b ++ e).drop n).take m = b := by
    rw [List.append_assoc, hn, List.drop_left, hm, List.take_left]
  rw [h1]
  have hl : (a ++ b ++ e).length = n + s + b.length := by simp; omega
  obtain ⟨c, hc⟩ : ∃ c, c = (a ++ b ++ e).take (n + s) := ⟨_, rfl⟩
  have hcl : c.length = n + s := by rw [hc, List.length_take]; omega
  have h2 : splice (a ++ b ++ e) (n + s) b = c ++ b := by
    unfold splice
    rw [List.drop_eq_nil_of_le (by omega), List.append_nil, ← hc]
  rw [h2]
  unfold splice
  have h3 : (c ++ b).take n = a := by
    rw [List.take_append_of_le_length (by omega), hc, List.take_take, Nat.min_eq_left (by omega), List.append_assoc, hn, List.take_left]
  have h4 : (c ++ b).drop (n + e.length) = b := by
    rw [← hs, ← hcl, List.drop_left]
  rw [h3, h4]
end Go.PF
namespace Go.Proofs.YthjcgmjcpmodlaaDoor
open Go.PF Go.RowKit Go.Ord Go.Sort Go.Proofs

set_option maxRecDepth 20000 in
set_option maxHeartbeats 1000000 in
theorem rsorted_c {w : World} {v : Value} {l : List Ev} (hl : SE w v l) (hsm : l.length ≤ 100000000) (hn : ∀ e ∈ l, e.needs.length ≤ 1000000) :
    Gives Tryd.prog 23 #[v] w fun x w' => Below w.heap.size w w' ∧ ∃ qs, EvRow 0 w' x qs ∧ qs.map (·.1) = canon l ∧ ∀ g, x.ownBlock = some g → w.heap.size ≤ g := by
  obtain ⟨A, cap, hv, _⟩ := hl.form
  subst hv
  refine gives_of (vs := [.slice A l.length cap]) [(0, none, _)] Tryd.func23 rfl Tryd.ntmps23 rfl rfl ?_
  refine CW.seq (CW.region ?_)
  refine TW.assign rfl rfl rfl ct ?_
  refine TW.nil (KW.pick [0, 2] [(0, _, _), (2, _, _)] rfl (KW.then_ ?_))
  refine CW.seq (CW.region ?_)
  refine TW.assign rfl rfl rfl ct ?_
  refine TW.nil (KW.pick [0, 2, 3] [(0, _, _), (2, _, _), (3, _, _)] rfl (KW.then_ ?_))
  refine CW.seq (CW.seq (CW.region ?_))
  refine TW.assign rfl rfl rfl ct ?_
  refine TW.nil (KW.pick [0, 2, 3, 4] [(0, _, _), (2, _, _), (3, _, _), (4, _, _)] rfl (KW.then_ ?_))
  refine CW.block ?_
  refine CW.loopS (fun x : Nat × Value × List (Ev × Value) => [(0, none, .slice A l.length cap), (3, none, x.2.1), (4, none, .int .i64 (x.1 : Int))])
    (fun x W => x.1 ≤ l.length ∧ Below w.heap.size w W ∧ EvRow 0 W x.2.1 x.2.2 ∧ (∀ g, x.2.1.ownBlock = some g → w.heap.size ≤ g) ∧ x.2.2.map (·.1) = canon (l.take x.1) ∧ x.2.2.length ≤ x.1) (fun x => l.length - x.1)
    (0, .slice none 0 0, []) [0, 3, 4] ⟨Nat.zero_le _, Below.refl _ _, EvRow.nil 0 w, fun g hg => (by simp [Value.ownBlock] at hg), rfl, Nat.le_refl _⟩ rfl ?_
  rintro ⟨i, ov, qs⟩ W ⟨hi, hB, hE, hfr, hcan, hql⟩
  dsimp only at hi hB hE hfr hcan hql
  obtain ⟨O, ocap, hov, hoc, _⟩ := hE.1.form
  subst hov
  have hlW := se_step hl hB
  have hzl : qs.length = (canon (l.take i)).length := by rw [← hcan, List.length_map]
  have hsrt : SrtE (qs.map (·.1)) := by rw [hcan]; exact srt_canon _
  have hES := EvRow.sl hE (by omega)
  refine CW.seq (CW.seq (CW.region ?_))
  refine TW.move rfl rfl rfl ct ?_
  refine TW.move rfl rfl rfl ct ?_
  refine TW.lenSlice rfl rfl Tryd.underlying26 rfl ct ?_
  refine TW.lss rfl rfl rfl ct rfl ct ?_
  refine TW.nil (KW.pick [0, 3, 4, 9] [(0, _, _), (3, _, _), (4, _, _), (9, _, _)] rfl (KW.then_ ?_))
  refine CW.condP rfl (fun hlt => ?_) (fun hge => ?_)
  · obtain ⟨e, he, hem⟩ := getx (l := l) (k := i) (by omega)
    obtain ⟨ad, rfl⟩ := hlW.addr (by omega)
    obtain ⟨N1, nc, hcells, hok⟩ := SE.ok hl (ad := ad) he
    have hne := hn e hem
    have hcl : ∀ {X : World}, Below w.heap.size w X → ∀ j u, (evV e (.slice N1 e.needs.length nc))[j]? = some u → X.cell? ((ad.add ((i : Int).toNat * 4)).add j) = some u := fun hb j u hj => (hb.cell (block_lt_of_cell (hcells j u hj))).trans (hcells j u hj)
    have htk : l.take (i + 1) = l.take i ++ [e] := by rw [List.take_add_one, he]; rfl
    have hnext : canon (l.take (i + 1)) = insE e (qs.map (·.1)) := by rw [htk, hcan]; exact canonA_snoc _ _ _
    refine CW.skip (KW.then_ (CW.seq (CW.block (CW.seq (CW.region ?_)))))
    refine TW.move rfl rfl rfl ct ?_
    refine TW.lenSlice rfl rfl Tryd.underlying26 rfl ct ?_
    refine TW.assign rfl rfl rfl ct ?_
    refine TW.nil (KW.pick [0, 3, 4, 5] [(0, _, _), (3, _, _), (4, _, _), (5, _, _)] rfl (KW.then_ ?_))
    refine CW.seq (CW.block ?_)
    refine CW.joinB (fun k : Nat => [(0, none, .slice (some ad) l.length cap), (3, none, .slice O qs.length ocap), (4, none, .int .i64 (i : Int)), (5, none, .int .i64 (k : Int))])
      (fun k W' => k ≤ qs.length ∧ Below W.heap.size W W' ∧ (∀ f ∈ (qs.map (·.1)).drop k, ltE e f) ∧ ∀ f, 0 < k → (qs.map (·.1))[k - 1]? = some f → cmpE f e ≤ 0) (fun hj => ?_) (fun k W1 hJ => ?_)
    · skip
      refine CW.loopS (fun k : Nat => [(0, none, .slice (some ad) l.length cap), (3, none, .slice O qs.length ocap), (4, none, .int .i64 (i : Int)), (5, none, .int .i64 (k : Int))])
        (fun k W' => k ≤ qs.length ∧ Below W.heap.size W W' ∧ ∀ f ∈ (qs.map (·.1)).drop k, ltE e f) (fun k => k) qs.length [0, 3, 4, 5] ⟨Nat.le_refl _, Below.refl _ _, fun f hf => (by rw [List.drop_of_length_le (by simp)] at hf; cases hf)⟩ rfl ?_
      rintro k W' ⟨hk, hB', hgt⟩
      by_cases hk0 : k = 0
      · subst hk0
        refine CW.seq (CW.seq (CW.draw mixed (by kernel_rfl) ?_))
        refine DW.move rfl rfl rfl ct ?_
        refine DW.gtr rfl rfl rfl ct rfl ct ?_
        refine DW.move rfl rfl rfl ct ?_
        refine DW.dead (.bool false) rfl (by simp [Cnd]) rfl rfl ?_
        refine DW.dead (.bool false) rfl (by simp [Cnd]) rfl rfl ?_
        refine DW.dead (.bool false) rfl (by simp [Cnd]) rfl rfl ?_
        refine DW.dead (.bool false) rfl (by simp [Cnd]) rfl rfl ?_
        refine DW.dead (.bool false) rfl (by simp [Cnd]) rfl rfl ?_
        refine DW.dead (.bool false) rfl (by simp [Cnd]) rfl rfl ?_
        refine DW.dead (.bool false) rfl (by simp [Cnd]) rfl rfl ?_
        refine DW.dead (.bool false) rfl (by simp [Cnd]) rfl rfl ?_
        refine DW.dead (.bool false) rfl (by simp [Cnd]) rfl rfl ?_
        refine DW.dead (.bool false) rfl (by simp [Cnd]) rfl rfl ?_
        refine DW.dead (.bool false) rfl (by simp [Cnd]) rfl rfl ?_
        refine DW.pickAnd rfl rfl rfl ct rfl pAnd0 ?_
        refine DW.nil (DW.fin [0, 3, 4, 5, 28] [(0, _, _), (3, _, _), (4, _, _), (5, _, _), (28, _, _)] rfl (fun w2 b2 => KW.then_ ?_))
        refine CW.cond rfl (fun h1 => ?_) (fun h2 => ?_)
        · exact absurd h1 (by simp)
        · refine CW.exit (KW.thenX (KW.thenX (KW.blockX (KW.then_ ?_))))
          exact CW.pick [0, 3, 4, 5] _ rfl (hj 0 _ ⟨hk, hB'.step b2, hgt, fun f h0 => absurd h0 (by omega)⟩)
      · obtain ⟨f, hf, hfm⟩ := getx (l := qs.map (·.1)) (k := k - 1) (by rw [List.length_map]; omega)
        have hESW := se_step hES hB'
        have hlW' := (se_step hlW hB')
        obtain ⟨od, rfl⟩ := hESW.addr (by rw [List.length_map]; omega)
        obtain ⟨F1, fc, hfc, hfo⟩ := SE.ok hESW hf
        obtain ⟨N2, nc2, hec, heo⟩ := SE.ok hlW' he
        have hk1 : ((k - 1 : Nat) : Int) = (k : Int) - 1 := by omega
        rw [hk1] at hfc
        have hnf : f.needs.length ≤ 1000000 := by
          rw [hcan] at hfm
          exact hn f (List.mem_of_mem_take (mem_canon.1 hfm))
        refine CW.seq (CW.seq (CW.draw mixed (by kernel_rfl) ?_))
        refine DW.move rfl rfl rfl ct ?_
        refine DW.gtr rfl rfl rfl ct rfl ct ?_
        refine DW.move rfl rfl rfl ct ?_
        refine DW.move rfl rfl rfl ct ?_
        refine DW.move rfl rfl rfl ct ?_
        refine DW.sub rfl rfl rfl id rfl ct (fun h => by (try dsimp only); first | omega | (simp [Cnd] at h; omega)) ?_
        refine DW.indexAddr rfl rfl Tryd.underlying26 sz31 rfl id rfl id (fun h => by (try dsimp only); first | omega | (simp [Cnd] at h; omega)) ?_
        refine DW.loadS _ rfl rfl Tryd.underlying31 sz31 rfl id (fun _ => (fun j v hj => hfc j v hj)) rfl ?_
        refine DW.move rfl rfl rfl ct ?_
        refine DW.move rfl rfl rfl ct ?_
        refine DW.indexAddr rfl rfl Tryd.underlying26 sz31 rfl id rfl id (fun h => by (try dsimp only); first | omega | (simp [Cnd] at h; omega)) ?_
        refine DW.loadS _ rfl rfl Tryd.underlying31 sz31 rfl id (fun _ => (fun j v hj => hec j v hj)) rfl ?_
        refine DW.call (.ex (.int .i64 (cmpE f e))) trivial rfl rfl en10 rfl ct (DArgs.cons rfl id (DArgs.cons rfl id DArgs.nil)) (fun _ w' hb' => (rcmp_c (hfo.below hb') (heo.below hb') hnf hne).mono fun u w'' h => h) ?_
        refine DW.gtr rfl rfl rfl id rfl ct ?_
        refine DW.pickAnd rfl rfl rfl ct rfl pAnd0 ?_
        refine DW.nil (DW.fin [0, 3, 4, 5, 28] [(0, _, _), (3, _, _), (4, _, _), (5, _, _), (28, _, _)] rfl (fun w2 b2 => KW.then_ ?_))
        refine CW.cond rfl (fun h1 => ?_) (fun h2 => ?_)
        · have hc : 0 < cmpE f e := by simp at h1; omega
          refine CW.skip (KW.then_ (CW.block (CW.region ?_)))
          refine TW.move rfl rfl rfl ct ?_
          refine TW.sub rfl rfl rfl ct rfl ct (fun _ => by (try dsimp only); omega) ?_
          refine TW.assign rfl rfl rfl ct ?_
          refine TW.nil (KW.pick [0, 3, 4, 5] [(0, _, _), (3, _, _), (4, _, _), (5, _, _)] rfl (KW.blockN ?_))
          refine KW.round (k - 1) [0, 3, 4, 5] ?_ ⟨by omega, hB'.step b2, fun g hg => ?_⟩ (by omega)
          · rw [hk1]; rfl
          · have hd : (qs.map (·.1)).drop (k - 1) = f :: (qs.map (·.1)).drop k := by
              obtain ⟨h3, h4⟩ := List.getElem?_eq_some_iff.1 hf
              rw [List.drop_eq_getElem_cons h3, h4]
              congr 2
              omega
            rw [hd] at hg
            rcases List.mem_cons.1 hg with rfl | hg
            · have := cmpE_anti g e
              unfold ltE
              omega
            · exact hgt g hg
        · have hc : cmpE f e ≤ 0 := by simp at h2; omega
          refine CW.exit (KW.thenX (KW.thenX (KW.blockX (KW.then_ ?_))))
          exact CW.pick [0, 3, 4, 5] _ rfl (hj k _ ⟨hk, hB'.step b2, hgt, fun g _ hg => by rw [hf] at hg; cases hg; exact hc⟩)
    · obtain ⟨hk, hB', hgt, hpre⟩ := hJ
      have hE1 := hE.below hB'
      have hlen6 : ∀ {w6 : World} {v6 : Value} {zs : List Value}, OwnS w6 31 4 v6 (qs.length + 1) zs → ∃ g6 cap6, v6 = .slice (some ⟨g6, 0, none⟩) (qs.length + 1) cap6 ∧ qs.length + 1 ≤ cap6 := fun h => by
        rcases h.2 with ⟨_, h0⟩ | ⟨g, cap, cur, hv, _, _, h1, _⟩
        · omega
        · exact ⟨g, cap, hv, h1⟩
      by_cases hk0 : k = 0
      · skip
        refine CW.seq (CW.seq (CW.draw mixed (by kernel_rfl) ?_))
        refine DW.move rfl rfl rfl ct ?_
        refine DW.gtr rfl rfl rfl ct rfl ct ?_
        refine DW.move rfl rfl rfl ct ?_
        refine DW.dead (.bool false) rfl (by simp only [Cnd, decide_eq_true_eq]; omega) rfl rfl ?_
        refine DW.dead (.bool false) rfl (by simp only [Cnd, decide_eq_true_eq]; omega) rfl rfl ?_
        refine DW.dead (.bool false) rfl (by simp only [Cnd, decide_eq_true_eq]; omega) rfl rfl ?_
        refine DW.dead (.bool false) rfl (by simp only [Cnd, decide_eq_true_eq]; omega) rfl rfl ?_
        refine DW.dead (.bool false) rfl (by simp only [Cnd, decide_eq_true_eq]; omega) rfl rfl ?_
        refine DW.dead (.bool false) rfl (by simp only [Cnd, decide_eq_true_eq]; omega) rfl rfl ?_
        refine DW.dead (.bool false) rfl (by simp only [Cnd, decide_eq_true_eq]; omega) rfl rfl ?_
        refine DW.dead (.bool false) rfl (by simp only [Cnd, decide_eq_true_eq]; omega) rfl rfl ?_
        refine DW.dead (.bool false) rfl (by simp only [Cnd, decide_eq_true_eq]; omega) rfl rfl ?_
        refine DW.dead (.bool false) rfl (by simp only [Cnd, decide_eq_true_eq]; omega) rfl rfl ?_
        refine DW.dead (.bool false) rfl (by simp only [Cnd, decide_eq_true_eq]; omega) rfl rfl ?_
        refine DW.pickAnd rfl rfl rfl ct rfl pAnd0 ?_
        refine DW.nil (DW.fin [0, 3, 4, 5, 45] [(0, _, _), (3, _, _), (4, _, _), (5, _, _), (45, _, _)] rfl (fun w2 b2 => KW.then_ ?_))
        refine CW.cond rfl (fun h1 => ?_) (fun h2 => ?_)
        · exact absurd h1 (by simp)
        · have hlow : ∀ f ∈ (qs.map (·.1)).take k, ltE f e := fun f hf => by rw [hk0] at hf; simp at hf
          have hbw2 := (hB.step hB').step b2
          refine CW.skip (KW.then_ (CW.seq (CW.region ?_)))
          refine TW.move rfl rfl rfl ct ?_
          refine TW.move rfl rfl rfl ct ?_
          refine TW.move rfl rfl rfl ct ?_
          refine TW.indexAddr rfl rfl Tryd.underlying26 sz31 rfl ct rfl ct (fun _ => by (try dsimp only); omega) ?_
          refine TW.loadS _ rfl rfl Tryd.underlying31 sz31 rfl ct (fun _ => (fun j u hj => hcl hbw2 j u hj)) rfl ?_
          refine TW.buildSlice 31 _ rfl rfl rfl eo26 (Args.cons rfl ct Args.nil) rfl rfl rfl rfl rfl ?_
          rintro g5 w5 f5
          refine TW.append (evV e (.slice N1 e.needs.length nc)) rfl rfl go26 rfl ((hE1.1.below b2).below f5.below) rfl rfl (fun j u hj => ⟨_, rfl, f5.blk.fld hj⟩) (fun u hu => by simp [evV] at hu; rcases hu with rfl | rfl | rfl | rfl <;> rfl) (by omega) (by omega) ?_
          rintro v6 w6 hO6 hg6 hn6
          have hbw5 := hbw2.step f5.below
          have hbw6 : Below w.heap.size w w6 := hbw5.grown hg6 hbw5.size hfr
          obtain ⟨g6, cap6, hv6, hc6⟩ := hlen6 hO6
          subst hv6
          have hg6f : w.heap.size ≤ g6 := by
            rcases hn6 with h | h
            · exact hfr g6 (by rw [← h]; rfl)
            · cases h; exact hbw5.size
          refine TW.assign rfl rfl rfl ct ?_
          refine TW.nil (KW.pick [0, 3, 4, 5] [(0, _, _), (3, _, _), (4, _, _), (5, _, _)] rfl (KW.then_ ?_))
          refine CW.seq ?_
          refine CW.drawR mixed fun W7 hb7 => ?_
          refine RW.draw .weak 10 (by kernel_rfl) (by kernel_rfl) rfl rfl hb7 ?_
          refine DW.move rfl rfl rfl ct ?_
          refine DW.move rfl rfl rfl ct ?_
          refine DW.add rfl rfl rfl ct rfl ct (fun _ => by (try dsimp only); omega) ?_
          refine DW.sliceL rfl rfl Tryd.underlying26 sz31 rfl ct rfl ct (fun _ => by (try dsimp only); omega) ?_
          refine DW.move rfl rfl rfl ct ?_
          refine DW.move rfl rfl rfl ct ?_
          refine DW.move rfl rfl rfl ct ?_
          refine DW.lenSlice rfl rfl Tryd.underlying26 rfl ct ?_
          refine DW.sub rfl rfl rfl ct rfl ct (fun _ => by (try dsimp only); omega) ?_
          refine DW.sliceLH rfl rfl Tryd.underlying26 sz31 rfl ct rfl ct rfl ct (fun _ => by (try dsimp only); omega) ?_
          refine DW.nil (DW.fin [0, 3, 4, 5, 56, 62] [(0, _, _), (3, _, _), (4, _, _), (5, _, _), (56, _, _), (62, _, _)] rfl (fun w7 b7 => KW.rk' ?_))
          refine RW.one (by kernel_rfl) (by kernel_rfl) rfl ?_
          have hO7 := hO6.below b7
          have hone : ∀ u ∈ qs.flatMap (fun q => evV q.1 q.2) ++ evV e (.slice N1 e.needs.length nc), u.oneCell' = true := fun u hu => by
            rcases List.mem_append.1 hu with h | h
            · exact evCells_one hE1 u h
            · simp [evV] at h; rcases h with rfl | rfl | rfl | rfl <;> rfl
          refine TW.copyOwn (g := g6) (o := (k + 1) * 4) (p := k * 4) (m := qs.length - k) rfl rfl Tryd.underlying26 sz31 rfl rfl hO7 (by show _ = min _ _; omega) (fun h => ?_) (fun h => ?_) (by omega) (by omega) hone ?_
          · rw [if_neg (by omega)]
            show some (Addr.add ⟨g6, 0, none⟩ _) = _
            rw [addr0, show ((k : Int) + 1).toNat = k + 1 by omega]
          · rw [if_neg (by omega)]
            show some (Addr.add ⟨g6, 0, none⟩ _) = _
            rw [addr0, show (k : Int).toNat = k by omega]
          rintro w8 hO8 hg8 hsz8
          have hbw7 := hbw6.step b7
          have hbw8 : Below w.heap.size w w8 := hbw7.grown hg8 hbw7.size (fun q hq => by cases hq; exact hg6f)
          refine TW.nil (KW.pick [0, 3, 4, 5] [(0, _, _), (3, _, _), (4, _, _), (5, _, _)] rfl (KW.rk ?_))
          refine RW.end rfl (KW.pick [0, 3, 4, 5] [(0, _, _), (3, _, _), (4, _, _), (5, _, _)] rfl (KW.then_ ?_))
          refine CW.region ?_
          refine TW.move rfl rfl rfl ct ?_
          refine TW.move rfl rfl rfl ct ?_
          refine TW.move rfl rfl rfl ct ?_
          refine TW.move rfl rfl rfl ct ?_
          refine TW.indexAddr rfl rfl Tryd.underlying26 sz31 rfl ct rfl ct (fun _ => by (try dsimp only); omega) ?_
          refine TW.loadS _ rfl rfl Tryd.underlying31 sz31 rfl ct (fun _ => (fun j u hj => hcl hbw8 j u hj)) rfl ?_
          refine TW.indexAddr rfl rfl Tryd.underlying26 sz31 rfl ct rfl ct (fun _ => by (try dsimp only); omega) ?_
          refine TW.storeOwnS (i := k) (m := 4) rfl sz31 ?_ rfl hO8 (by omega) rfl rfl rfl ?_
          · rfl
          rintro w9 hO9 hg9 hsz9
          have hbw9 : Below w.heap.size w w9 := hbw8.grown hg9 hbw8.size (fun q hq => by cases hq; exact hg6f)
          refine TW.nil (KW.pick [0, 3, 4, 5] [(0, _, _), (3, _, _), (4, _, _), (5, _, _)] rfl (KW.blockN (KW.then_ ?_)))
          refine CW.region ?_
          refine TW.move rfl rfl rfl ct ?_
          refine TW.add rfl rfl rfl ct rfl ct (fun _ => by (try dsimp only); omega) ?_
          refine TW.assign rfl rfl rfl ct ?_
          refine TW.nil (KW.pick [0, 3, 4, 5] [(0, _, _), (3, _, _), (4, _, _), (5, _, _)] rfl ?_)
          have hsplit : qs.flatMap (fun q => evV q.1 q.2) = (qs.take k).flatMap (fun q => evV q.1 q.2) ++ (qs.drop k).flatMap (fun q => evV q.1 q.2) := by rw [← List.flatMap_append, List.take_append_drop]
          have hl1 : ((qs.take k).flatMap fun q => evV q.1 q.2).length = k * 4 := by rw [len_flat (fun q : Ev × Value => evV q.1 q.2) 4 _ (fun q _ => rfl), List.length_take]; omega
          have hl2 : ((qs.drop k).flatMap fun q => evV q.1 q.2).length = (qs.length - k) * 4 := by rw [len_flat (fun q : Ev × Value => evV q.1 q.2) 4 _ (fun q _ => rfl), List.length_drop]
          rw [hsplit, show (k + 1) * 4 = k * 4 + 4 by omega, splice_in (e := evV e (.slice N1 e.needs.length nc)) (s := 4) hl1.symm rfl hl2.symm] at hO9
          have hcanE : insE e (qs.map (·.1)) = (qs.map (·.1)).take k ++ e :: (qs.map (·.1)).drop k := by
            have := insE_split hgt hlow
            rwa [List.take_append_drop] at this
          refine KW.round (i + 1, .slice (some ⟨g6, 0, none⟩) (qs.length + 1) cap6, qs.take k ++ (e, .slice N1 e.needs.length nc) :: qs.drop k) [0, 3, 4] rfl ⟨by omega, hbw9, ⟨?_, fun q hq => ?_⟩, fun g hg => (by cases hg; exact hg6f), ?_, ?_⟩ (by omega)
          · have e1 : (qs.take k ++ (e, Value.slice N1 e.needs.length nc) :: qs.drop k).length = qs.length + 1 := by simp; omega
            rw [e1, List.flatMap_append, List.flatMap_cons, ← List.append_assoc]
            exact hO9
          · have hgo : ∀ j, (Value.slice (some ⟨g6, 0, none⟩) (qs.length + 1) cap6).ownBlock = some j → j = g6 := fun j h => by simp [Value.ownBlock] at h; exact h.symm
            have hold : ∀ q ∈ qs, EvOK (FsK 0 w9 (.slice (some ⟨g6, 0, none⟩) (qs.length + 1) cap6)) w9 q.2 q.1 := fun q hq => by
              have a := hE1.2 q hq
              have hg6n : ∀ j, FsK 0 W1 (.slice O qs.length ocap) j → j < W1.heap.size ∧ (Value.slice O qs.length ocap).ownBlock ≠ some j ∧ j ≠ g6 := fun j hj => ⟨hj.2.1, hj.2.2, fun e2 => by
                rcases hn6 with h | h
                · exact hj.2.2 (by rw [← h, e2]; rfl)
                · have h' : g6 = w5.heap.size := by simpa [Value.ownBlock] using h
                  have := hj.2.1
                  have := b2.size
                  have := f5.below.size
                  omega⟩
              have hkp : Kept (FsK 0 W1 (.slice O qs.length ocap)) W1 w9 := Kept.of_blocks fun j hj hlt => by
                obtain ⟨j1, j2, j3⟩ := hg6n j hj
                have s2 := b2.size
                have s5 := f5.below.size
                have s6 := hg6.size
                have s7 := b7.size
                have s8 := hg8.size
                rw [hg9.block j (by omega) (fun e2 => j3 (by cases e2; rfl)), hg8.block j (by omega) (fun e2 => j3 (by cases e2; rfl)), b7.block j (by omega), hg6.block j (by omega) (fun e2 => j2 e2.symm), f5.below.block j (by omega), b2.block j (by omega)]
              have s2 := b2.size
              have s5 := f5.below.size
              have s6 := hg6.size
              have s7 := b7.size
              have s8 := hg8.size
              have s9 := hg9.size
              exact ⟨a.i1, a.i2, a.i3, (a.nd.mono hkp).wider fun j hj => ⟨Nat.zero_le _, by have := (hg6n j hj).1; omega, fun e2 => (hg6n j hj).2.2 (hgo j e2)⟩⟩
            rcases List.mem_append.1 hq with h | h
            · exact hold q (List.mem_of_mem_take h)
            · rcases List.mem_cons.1 h with rfl | h
              · exact ⟨hok.i1, hok.i2, hok.i3, (hok.nd.mono (Kept.of_blocks fun j hj hlt => hbw9.block j hj)).wider fun j hj => ⟨Nat.zero_le _, Nat.lt_of_lt_of_le hj hbw9.size, fun e2 => by have := hgo j e2; have hj' : j < w.heap.size := hj; omega⟩⟩
              · exact hold q (List.mem_of_mem_drop h)
          · rw [hnext, hcanE, List.map_append, List.map_cons, List.map_take, List.map_drop]
          · simp; omega
      · obtain ⟨f, hf, hfm⟩ := getx (l := qs.map (·.1)) (k := k - 1) (by rw [List.length_map]; omega)
        have hESW := se_step hES hB'
        obtain ⟨od, hod⟩ := hESW.addr (by rw [List.length_map]; omega)
        subst hod
        obtain ⟨F1, fc, hfc, hfo⟩ := SE.ok hESW hf
        have hk1 : ((k - 1 : Nat) : Int) = (k : Int) - 1 := by omega
        rw [hk1] at hfc
        have hnf : f.needs.length ≤ 1000000 := by
          rw [hcan] at hfm
          exact hn f (List.mem_of_mem_take (mem_canon.1 hfm))
        have hbw1 := hB.step hB'
        refine CW.seq (CW.seq (CW.draw mixed (by kernel_rfl) ?_))
        refine DW.move rfl rfl rfl ct ?_
        refine DW.gtr rfl rfl rfl ct rfl ct ?_
        refine DW.move rfl rfl rfl ct ?_
        refine DW.move rfl rfl rfl ct ?_
        refine DW.move rfl rfl rfl ct ?_
        refine DW.sub rfl rfl rfl id rfl ct (fun h => by (try dsimp only); first | omega | (simp [Cnd] at h; omega)) ?_
        refine DW.indexAddr rfl rfl Tryd.underlying26 sz31 rfl id rfl id (fun h => by (try dsimp only); first | omega | (simp [Cnd] at h; omega)) ?_
        refine DW.loadS _ rfl rfl Tryd.underlying31 sz31 rfl id (fun _ => (fun j u hj => hfc j u hj)) rfl ?_
        refine DW.move rfl rfl rfl ct ?_
        refine DW.move rfl rfl rfl ct ?_
        refine DW.indexAddr rfl rfl Tryd.underlying26 sz31 rfl id rfl id (fun h => by (try dsimp only); first | omega | (simp [Cnd] at h; omega)) ?_
        refine DW.loadS _ rfl rfl Tryd.underlying31 sz31 rfl id (fun _ => (fun j u hj => hcl hbw1 j u hj)) rfl ?_
        refine DW.call (.ex (.int .i64 (cmpE f e))) trivial rfl rfl en10 rfl ct (DArgs.cons rfl id (DArgs.cons rfl id DArgs.nil)) (fun _ w' hb' => (rcmp_c (hfo.below hb') ((hok.below hbw1).below hb') hnf hne).mono fun u w'' h => h) ?_
        refine DW.eql rfl rfl rfl id rfl ct ?_
        refine DW.pickAnd rfl rfl rfl ct rfl pAnd0 ?_
        refine DW.nil (DW.fin [0, 3, 4, 5, 45] [(0, _, _), (3, _, _), (4, _, _), (5, _, _), (45, _, _)] rfl (fun w2 b2 => KW.then_ ?_))
        refine CW.cond rfl (fun h1 => ?_) (fun h2 => ?_)
        · have hc : f = e := cmpE_zero.1 (by simp at h1; exact h1.2)
          refine CW.exit (KW.thenX (KW.blockX (KW.then_ (CW.region ?_))))
          refine TW.move rfl rfl rfl ct ?_
          refine TW.add rfl rfl rfl ct rfl ct (fun _ => by (try dsimp only); omega) ?_
          refine TW.assign rfl rfl rfl ct ?_
          refine TW.nil (KW.pick [0, 3, 4, 5] [(0, _, _), (3, _, _), (4, _, _), (5, _, _)] rfl ?_)
          refine KW.round (i + 1, .slice (some od) qs.length ocap, qs) [0, 3, 4] rfl ⟨by omega, hbw1.step b2, hE1.below b2, hfr, ?_, by show qs.length ≤ i + 1; omega⟩ (by omega)
          rw [hnext, insE_mem hsrt (hc ▸ hfm)]
        · have hc : cmpE f e < 0 := by
            have h3 := hpre f (by omega) hf
            simp at h2
            have := h2 (by omega)
            omega
          have hlow : ∀ z ∈ (qs.map (·.1)).take k, ltE z e := fun z hz => by
            obtain ⟨j, hj, hje⟩ := List.getElem_of_mem hz
            rw [List.length_take] at hj
            rw [List.getElem_take] at hje
            obtain ⟨h3, h4⟩ := List.getElem?_eq_some_iff.1 hf
            by_cases hjk : j = k - 1
            · subst hjk
              rw [← hje, h4]
              exact hc
            · have := List.pairwise_iff_getElem.1 hsrt j (k - 1) (by omega) h3 (by omega)
              rw [hje, h4] at this
              exact ltE_trans this hc
          have hbw2 := (hB.step hB').step b2
          refine CW.skip (KW.then_ (CW.seq (CW.region ?_)))
          refine TW.move rfl rfl rfl ct ?_
          refine TW.move rfl rfl rfl ct ?_
          refine TW.move rfl rfl rfl ct ?_
          refine TW.indexAddr rfl rfl Tryd.underlying26 sz31 rfl ct rfl ct (fun _ => by (try dsimp only); omega) ?_
          refine TW.loadS _ rfl rfl Tryd.underlying31 sz31 rfl ct (fun _ => (fun j u hj => hcl hbw2 j u hj)) rfl ?_
          refine TW.buildSlice 31 _ rfl rfl rfl eo26 (Args.cons rfl ct Args.nil) rfl rfl rfl rfl rfl ?_
          rintro g5 w5 f5
          refine TW.append (evV e (.slice N1 e.needs.length nc)) rfl rfl go26 rfl ((hE1.1.below b2).below f5.below) rfl rfl (fun j u hj => ⟨_, rfl, f5.blk.fld hj⟩) (fun u hu => by simp [evV] at hu; rcases hu with rfl | rfl | rfl | rfl <;> rfl) (by omega) (by omega) ?_
          rintro v6 w6 hO6 hg6 hn6
          have hbw5 := hbw2.step f5.below
          have hbw6 : Below w.heap.size w w6 := hbw5.grown hg6 hbw5.size hfr
          obtain ⟨g6, cap6, hv6, hc6⟩ := hlen6 hO6
          subst hv6
          have hg6f : w.heap.size ≤ g6 := by
            rcases hn6 with h | h
            · exact hfr g6 (by rw [← h]; rfl)
            · cases h; exact hbw5.size
          refine TW.assign rfl rfl rfl ct ?_
          refine TW.nil (KW.pick [0, 3, 4, 5] [(0, _, _), (3, _, _), (4, _, _), (5, _, _)] rfl (KW.then_ ?_))
          refine CW.seq ?_
          refine CW.drawR mixed fun W7 hb7 => ?_
          refine RW.draw .weak 10 (by kernel_rfl) (by kernel_rfl) rfl rfl hb7 ?_
          refine DW.move rfl rfl rfl ct ?_
          refine DW.move rfl rfl rfl ct ?_
          refine DW.add rfl rfl rfl ct rfl ct (fun _ => by (try dsimp only); omega) ?_
          refine DW.sliceL rfl rfl Tryd.underlying26 sz31 rfl ct rfl ct (fun _ => by (try dsimp only); omega) ?_
          refine DW.move rfl rfl rfl ct ?_
          refine DW.move rfl rfl rfl ct ?_
          refine DW.move rfl rfl rfl ct ?_
          refine DW.lenSlice rfl rfl Tryd.underlying26 rfl ct ?_
          refine DW.sub rfl rfl rfl ct rfl ct (fun _ => by (try dsimp only); omega) ?_
          refine DW.sliceLH rfl rfl Tryd.underlying26 sz31 rfl ct rfl ct rfl ct (fun _ => by (try dsimp only); omega) ?_
          refine DW.nil (DW.fin [0, 3, 4, 5, 56, 62] [(0, _, _), (3, _, _), (4, _, _), (5, _, _), (56, _, _), (62, _, _)] rfl (fun w7 b7 => KW.rk' ?_))
          refine RW.one (by kernel_rfl) (by kernel_rfl) rfl ?_
          have hO7 := hO6.below b7
          have hone : ∀ u ∈ qs.flatMap (fun q => evV q.1 q.2) ++ evV e (.slice N1 e.needs.length nc), u.oneCell' = true := fun u hu => by
            rcases List.mem_append.1 hu with h | h
            · exact evCells_one hE1 u h
            · simp [evV] at h; rcases h with rfl | rfl | rfl | rfl <;> rfl
          refine TW.copyOwn (g := g6) (o := (k + 1) * 4) (p := k * 4) (m := qs.length - k) rfl rfl Tryd.underlying26 sz31 rfl rfl hO7 (by show _ = min _ _; omega) (fun h => ?_) (fun h => ?_) (by omega) (by omega) hone ?_
          · rw [if_neg (by omega)]
            show some (Addr.add ⟨g6, 0, none⟩ _) = _
            rw [addr0, show ((k : Int) + 1).toNat = k + 1 by omega]
          · rw [if_neg (by omega)]
            show some (Addr.add ⟨g6, 0, none⟩ _) = _
            rw [addr0, show (k : Int).toNat = k by omega]
          rintro w8 hO8 hg8 hsz8
          have hbw7 := hbw6.step b7
          have hbw8 : Below w.heap.size w w8 := hbw7.grown hg8 hbw7.size (fun q hq => by cases hq; exact hg6f)
          refine TW.nil (KW.pick [0, 3, 4, 5] [(0, _, _), (3, _, _), (4, _, _), (5, _, _)] rfl (KW.rk ?_))
          refine RW.end rfl (KW.pick [0, 3, 4, 5] [(0, _, _), (3, _, _), (4, _, _), (5, _, _)] rfl (KW.then_ ?_))
          refine CW.region ?_
          refine TW.move rfl rfl rfl ct ?_
          refine TW.move rfl rfl rfl ct ?_
          refine TW.move rfl rfl rfl ct ?_
          refine TW.move rfl rfl rfl ct ?_
          refine TW.indexAddr rfl rfl Tryd.underlying26 sz31 rfl ct rfl ct (fun _ => by (try dsimp only); omega) ?_
          refine TW.loadS _ rfl rfl Tryd.underlying31 sz31 rfl ct (fun _ => (fun j u hj => hcl hbw8 j u hj)) rfl ?_
          refine TW.indexAddr rfl rfl Tryd.underlying26 sz31 rfl ct rfl ct (fun _ => by (try dsimp only); omega) ?_
          refine TW.storeOwnS (i := k) (m := 4) rfl sz31 ?_ rfl hO8 (by omega) rfl rfl rfl ?_
          · rfl
          rintro w9 hO9 hg9 hsz9
          have hbw9 : Below w.heap.size w w9 := hbw8.grown hg9 hbw8.size (fun q hq => by cases hq; exact hg6f)
          refine TW.nil (KW.pick [0, 3, 4, 5] [(0, _, _), (3, _, _), (4, _, _), (5, _, _)] rfl (KW.blockN (KW.then_ ?_)))
          refine CW.region ?_
          refine TW.move rfl rfl rfl ct ?_
          refine TW.add rfl rfl rfl ct rfl ct (fun _ => by (try dsimp only); omega) ?_
          refine TW.assign rfl rfl rfl ct ?_
          refine TW.nil (KW.pick [0, 3, 4, 5] [(0, _, _), (3, _, _), (4, _, _), (5, _, _)] rfl ?_)
          have hsplit : qs.flatMap (fun q => evV q.1 q.2) = (qs.take k).flatMap (fun q => evV q.1 q.2) ++ (qs.drop k).flatMap (fun q => evV q.1 q.2) := by rw [← List.flatMap_append, List.take_append_drop]
          have hl1 : ((qs.take k).flatMap fun q => evV q.1 q.2).length = k * 4 := by rw [len_flat (fun q : Ev × Value => evV q.1 q.2) 4 _ (fun q _ => rfl), List.length_take]; omega
          have hl2 : ((qs.drop k).flatMap fun q => evV q.1 q.2).length = (qs.length - k) * 4 := by rw [len_flat (fun q : Ev × Value => evV q.1 q.2) 4 _ (fun q _ => rfl), List.length_drop]
          rw [hsplit, show (k + 1) * 4 = k * 4 + 4 by omega, splice_in (e := evV e (.slice N1 e.needs.length nc)) (s := 4) hl1.symm rfl hl2.symm] at hO9
          have hcanE : insE e (qs.map (·.1)) = (qs.map (·.1)).take k ++ e :: (qs.map (·.1)).drop k := by
            have := insE_split hgt hlow
            rwa [List.take_append_drop] at this
          refine KW.round (i + 1, .slice (some ⟨g6, 0, none⟩) (qs.length + 1) cap6, qs.take k ++ (e, .slice N1 e.needs.length nc) :: qs.drop k) [0, 3, 4] rfl ⟨by omega, hbw9, ⟨?_, fun q hq => ?_⟩, fun g hg => (by cases hg; exact hg6f), ?_, ?_⟩ (by omega)
          · have e1 : (qs.take k ++ (e, Value.slice N1 e.needs.length nc) :: qs.drop k).length = qs.length + 1 := by simp; omega
            rw [e1, List.flatMap_append, List.flatMap_cons, ← List.append_assoc]
            exact hO9
          · have hgo : ∀ j, (Value.slice (some ⟨g6, 0, none⟩) (qs.length + 1) cap6).ownBlock = some j → j = g6 := fun j h => by simp [Value.ownBlock] at h; exact h.symm
            have hold : ∀ q ∈ qs, EvOK (FsK 0 w9 (.slice (some ⟨g6, 0, none⟩) (qs.length + 1) cap6)) w9 q.2 q.1 := fun q hq => by
              have a := hE1.2 q hq
              have hg6n : ∀ j, FsK 0 W1 (.slice (some od) qs.length ocap) j → j < W1.heap.size ∧ (Value.slice (some od) qs.length ocap).ownBlock ≠ some j ∧ j ≠ g6 := fun j hj => ⟨hj.2.1, hj.2.2, fun e2 => by
                rcases hn6 with h | h
                · exact hj.2.2 (by rw [← h, e2]; rfl)
                · have h' : g6 = w5.heap.size := by simpa [Value.ownBlock] using h
                  have := hj.2.1
                  have := b2.size
                  have := f5.below.size
                  omega⟩
              have hkp : Kept (FsK 0 W1 (.slice (some od) qs.length ocap)) W1 w9 := Kept.of_blocks fun j hj hlt => by
                obtain ⟨j1, j2, j3⟩ := hg6n j hj
                have s2 := b2.size
                have s5 := f5.below.size
                have s6 := hg6.size
                have s7 := b7.size
                have s8 := hg8.size
                rw [hg9.block j (by omega) (fun e2 => j3 (by cases e2; rfl)), hg8.block j (by omega) (fun e2 => j3 (by cases e2; rfl)), b7.block j (by omega), hg6.block j (by omega) (fun e2 => j2 e2.symm), f5.below.block j (by omega), b2.block j (by omega)]
              have s2 := b2.size
              have s5 := f5.below.size
              have s6 := hg6.size
              have s7 := b7.size
              have s8 := hg8.size
              have s9 := hg9.size
              exact ⟨a.i1, a.i2, a.i3, (a.nd.mono hkp).wider fun j hj => ⟨Nat.zero_le _, by have := (hg6n j hj).1; omega, fun e2 => (hg6n j hj).2.2 (hgo j e2)⟩⟩
            rcases List.mem_append.1 hq with h | h
            · exact hold q (List.mem_of_mem_take h)
            · rcases List.mem_cons.1 h with rfl | h
              · exact ⟨hok.i1, hok.i2, hok.i3, (hok.nd.mono (Kept.of_blocks fun j hj hlt => hbw9.block j hj)).wider fun j hj => ⟨Nat.zero_le _, Nat.lt_of_lt_of_le hj hbw9.size, fun e2 => by have := hgo j e2; have hj' : j < w.heap.size := hj; omega⟩⟩
              · exact hold q (List.mem_of_mem_drop h)
          · rw [hnext, hcanE, List.map_append, List.map_cons, List.map_take, List.map_drop]
          · simp; omega
  · refine CW.exit (KW.thenX (KW.thenX (KW.blockX (KW.then_ (CW.seq (CW.region ?_))))))
    refine TW.move rfl rfl rfl ct ?_
    refine TW.assign rfl rfl rfl ct ?_
    refine TW.nil (KW.pick [0, 2, 3, 4] [(0, _, _), (2, _, _), (3, _, _), (4, _, _)] rfl (KW.then_ ?_))
    refine CW.ret ?_
    have hie : i = l.length := by omega
    subst hie
    rw [List.take_length] at hcan
    refine ret1 Tryd.results23 rfl (⟨hB, qs, hE, hcan, hfr⟩)
end Go.Proofs.YthjcgmjcpmodlaaDoor
