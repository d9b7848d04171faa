/- Texts of this claim, joined. -/
import Derived.Test.YtnjknkgomhmlfaaGreatDoorQN
set_option linter.unusedSimpArgs false
set_option linter.unusedVariables false
set_option maxRecDepth 100000
set_option maxHeartbeats 4000000
namespace Go.Proofs.YtnjknkgomhmlfaaGreatDoor
open Go.PF Go.RowKit Go.Ord
attribute [local irreducible] TW CW KW DW
theorem RowL.ext {α : Type} {T : Ty α} {w w' : World} {e : TypeId} {b n : Nat} {v : Value} {ps : List (List Value × α)} (h : RowL T w e b v ps) (k : ExtF n w w') : RowL T w' e b v ps :=
 ⟨h.1.ext k, fun p hp => T.wider _ _ _ _ _ (fun q hq => ⟨Nat.lt_of_lt_of_le hq.1 k.size, hq.2⟩) (T.mono _ _ _ _ _ k.kept (h.2.1 p hp)), h.2.2⟩
theorem RowL.kept {α : Type} {T : Ty α} {w w' : World} {e : TypeId} {b : Nat} {v : Value} {ps : List (List Value × α)} (h : RowL T w e b v ps) (hs : w.heap.size ≤ w'.heap.size) (g : Nat) (hg : v.ownBlock ≠ some g) (hk : ∀ k, k < w.heap.size → k ≠ g → w'.heap[k]? = w.heap[k]?) (ha : ∀ p ∈ ps, T.rep (fun k => RowF w v k ∧ k ≠ g) w p.1 p.2) : RowL T w' e b v ps :=
 ⟨h.1.kept fun q hq => hk q (h.1.lt hq) (fun e => hg (by rw [← e]; exact hq)), fun p hp => T.wider _ _ _ _ _ (fun q hq => ⟨Nat.lt_of_lt_of_le hq.1.1 hs, hq.1.2⟩) (T.mono _ _ _ _ _ (Kept.of_blocks fun k hF hlt => hk k hlt hF.2) (ha p hp)), h.2.2⟩
def RowN {α : Type} (T : Ty α) (w : World) (e : TypeId) (b : Nat) (v : Value) (ps : List (List Value × α)) : Prop := OwnS w e T.n v ps.length (ps.flatMap (·.1)) ∧ (∀ p ∈ ps, T.rep (fun k => RowF w v k ∧ b ≤ k) w p.1 p.2) ∧ ∀ g, v.ownBlock = some g → b ≤ g
section
variable {α : Type} {T : Ty α} {w w' : World} {e : TypeId} {b : Nat} {v v' : Value} {ps : List (List Value × α)}
theorem RowN.rowL (h : RowN T w e b v ps) : RowL T w e b v ps := ⟨h.1, fun p hp => T.wider _ _ _ _ _ (fun _ hk => hk.1) (h.2.1 p hp), h.2.2⟩
theorem RowN.nil (T : Ty α) (w : World) (e : TypeId) (b : Nat) : RowN T w e b (.slice none 0 0) [] := ⟨OwnS.nil _ _ _, (fun p hp => by cases hp), fun g h => by simp [Value.ownBlock] at h⟩
theorem RowN.ext {n : Nat} (h : RowN T w e b v ps) (k : ExtF n w w') : RowN T w' e b v ps :=
 ⟨h.1.ext k, fun p hp => T.wider _ _ _ _ _ (fun q hq => ⟨⟨Nat.lt_of_lt_of_le hq.1.1 k.size, hq.1.2⟩, hq.2⟩) (T.mono _ _ _ _ _ k.kept (h.2.1 p hp)), h.2.2⟩
theorem RowN.step (h : RowN T w e b v ps) (hb : Below w.heap.size w w') : RowN T w' e b v ps := h.ext (n := 0) (.of_below hb)
theorem RowN.kept (h : RowN T w e b v ps) (hs : w.heap.size ≤ w'.heap.size) (hk : ∀ k, b ≤ k → k < w.heap.size → w'.heap[k]? = w.heap[k]?) : RowN T w' e b v ps :=
 ⟨h.1.kept fun q hq => hk q (h.2.2 q hq) (h.1.lt hq), fun p hp => T.wider _ _ _ _ _ (fun q hq => ⟨⟨Nat.lt_of_lt_of_le hq.1.1 hs, hq.1.2⟩, hq.2⟩) (T.mono _ _ _ _ _ (Kept.of_blocks fun k hF hlt => hk k hF.2 hlt) (h.2.1 p hp)), h.2.2⟩
theorem RowN.setCell (h : RowN T w e b v ps) {g i : Nat} (hg : g < b) (u : Value) : RowN T (w.setCell ⟨g, i, none⟩ u) e b v ps :=
 h.kept (by simp) fun k hk _ => Below.heap_setCell _ _ _ _ (fun e => by have e : k = g := e; omega)
theorem RowN.app {cs : List Value} {x : α} (h : RowN T w e b v ps) (hO : OwnS w' e T.n v' (ps.length + 1) (ps.flatMap (·.1) ++ cs)) (hg : w.grownBy w' v.ownBlock) (hn : v'.ownBlock = v.ownBlock ∨ v'.ownBlock = some w.heap.size)
  (hr : T.rep (fun k => RowF w v k ∧ b ≤ k) w cs x) (hb : b ≤ w.heap.size) : RowN T w' e b v' (ps ++ [(cs, x)]) := by
 have hk : Kept (fun k => RowF w v k ∧ b ≤ k) w w' := Kept.of_blocks fun k hk hlt => hg.block k hlt (fun e => hk.1.2 e.symm)
 have hw : ∀ k, RowF w v k ∧ b ≤ k → RowF w' v' k ∧ b ≤ k := fun k hk => ⟨⟨Nat.lt_of_lt_of_le hk.1.1 hg.size, fun e => by
  rcases hn with h' | h'
  ·exact hk.1.2 (by rw [← h']; exact e)
  ·rw [h'] at e; cases e; exact absurd hk.1.1 (Nat.lt_irrefl _)⟩, hk.2⟩
 refine ⟨by rw [List.flatMap_append, List.length_append]; simpa using hO, fun p hp => ?_, fun q hq => ?_⟩
 ·rcases List.mem_append.1 hp with hp | hp
  ·exact T.wider _ _ _ _ _ hw (T.mono _ _ _ _ _ hk (h.2.1 p hp))
  ·rw [List.mem_singleton] at hp
   subst hp
   exact T.wider _ _ _ _ _ hw (T.mono _ _ _ _ _ hk hr)
 ·rcases hn with h' | h'
  ·exact h.2.2 q (by rw [← h']; exact hq)
  ·rw [h'] at hq; cases hq; exact hb
theorem RowN.sl (h0 : 0 < T.n) (h : RowN T w e b v ps) : SL T (fun k => b ≤ k ∧ k < w.heap.size) w v (ps.map (·.2)) :=
 OwnS.toSLp ps (fun p hp => T.wider _ _ _ _ _ (fun _ hb => ⟨hb.2, hb.1.1⟩) (h.2.1 p hp)) h0 h.1 rfl (fun g hg => ⟨h.2.2 g hg, h.1.lt hg⟩) h.rowL.big
end
noncomputable def worldsS (d : Dist) (l : List Ev) (most : Int) : List (List Int) := if dec (WfP d l) = true ∧ 0 ≤ most ∧ most ≤ 3 ∧ (recsS l).length ≤ 14 then (setsS (recsS l) (min most.toNat (recsS l).length)).filter (fun S => dec (Poss d (restS l S))) else []
noncomputable def worldsE (d : Dist) (l : List Ev) (most : Int) : Int := if dec (WfP d l) = true ∧ 0 ≤ most ∧ most ≤ 3 then (if (recsS l).length ≤ 14 then (if worldsS d l most = [] then 280 else 0) else 2) else 1
theorem restS_sub (l : List Ev) (S : List Int) : (restS l S).Sublist l := List.filter_sublist
theorem WfP.rest {d : Dist} {l : List Ev} (h : WfP d l) (S : List Int) : Fitted d (restS l S) ↔ Poss d (restS l S) :=
 ⟨fun h => h.2, fun hp => ⟨⟨h.wd, by have := (restS_sub l S).length_le; have := h.few; omega, fun e he => h.each e ((restS_sub l S).subset he)⟩, hp⟩⟩
theorem worlds_c {w : World} {dv ev : Value} {d : Dist} {l : List Ev} {most : Int} (hd : SD w dv d) (hl : SE w ev l) (hne : ∀ e ∈ l, e.needs.length ≤ 1000) :
  Gives Tryz.prog 26 #[dv, ev, .int .i64 most] w fun x w' => Below w.heap.size w w' ∧ ∃ v, x = .tuple #[v, .int .i64 (worldsE d l most)] ∧ SL (sliceT intT) (fun k => k < w'.heap.size) w' v (worldsS d l most) := by
 obtain ⟨A, cap, rfl, hcap⟩ := hd.form
 obtain ⟨B, lcap, rfl, hlcap⟩ := hl.form
 refine gvM Tryz.func26 Tryz.ntmps26 ?_
 refine rnT ?_
 refine TW.box rfl rfl rfl rfl ?_
 rintro g3 w1 f1
 refine TW.box rfl rfl rfl rfl ?_
 rintro g4 w2 f2
 refine rnT ?_
 refine TW.pk [0, 1, 2, 3, 4, 6, 7] rfl ?_
 have hb12 := f1.below.step f2.below
 refine TW.ld rfl ((f1.blk.next f2.below).cell 0) ?_
 refine TW.ld rfl (f2.blk.cell 0) ?_
 refine TW.cl en54 rfl (pwell_c (sd_step hd hb12) (se_step hl hb12)) ?_
 rintro y3 w3 ⟨hb3, rfl⟩
 have hb03 := hb12.step hb3
 refine rnT ?_
 refine CW.pk [0, 1, 2, 3, 4, 6, 7, 24] rfl ?_
 refine CW.cond rfl (fun hbad => ?_) (fun hgood => ?_)
 ·refine rnT ?_
  refine ret2M0 Tryz.results26 rfl rfl (⟨hb03, .slice none 0 0, ?_, ?_⟩)
  ·unfold worldsE
   rw [if_neg]
   rintro ⟨h1, h2, h3⟩
   rw [h1] at hbad
   simp at hbad
   omega
  ·unfold worldsS
   rw [if_neg]
   ·exact SL.nil _ _ _
   rintro ⟨h1, h2, h3, _⟩
   rw [h1] at hbad
   simp at hbad
   omega
 have hW : WfP d l := dec_iff.1 (by cases hq : dec (WfP d l) <;> simp_all)
 have hm : 0 ≤ most ∧ most ≤ 3 := by
  rw [dec_pos hW] at hgood
  simp at hgood
  omega
 have hlf := hW.few
 refine rnT ?_
 refine TW.ld rfl (((f2.blk.next hb3).cell 0)) ?_
 refine TW.cl en55 rfl (recordsOf_c (se_step hl hb03) (by omega) hne) ?_
 rintro y4 w4 ⟨hb4, o4, q4⟩
 have hb04 := hb03.step hb4
 obtain ⟨R4, c4, rfl, hc4, _⟩ := o4.form
 have hrecI : ∀ x ∈ recsS l, I64 x := fun x hx => by
  obtain ⟨e, he, hxe⟩ := mem_recsS.1 hx
  obtain ⟨i, hi, hie⟩ := List.getElem_of_mem he
  obtain ⟨ad, cs, _, _, ⟨nv, _, _, _, _, hn⟩, _⟩ := hl.at (i := i) (x := e) (by rw [← hie]; exact List.getElem?_eq_getElem hi)
  obtain ⟨j, hj, hje⟩ := List.getElem_of_mem hxe
  exact hn.rngI (i := j) (x := x) (by rw [← hje]; exact List.getElem?_eq_getElem hj)
 refine rnT ?_
 refine CW.pk [0, 1, 2, 3, 4, 6, 7, 8, 29] rfl ?_
 refine CW.condP rfl (fun hbig => ?_) (fun hsmall => ?_)
 ·refine rnT ?_
  refine ret2M0 Tryz.results26 rfl rfl (⟨hb04, .slice none 0 0, ?_, ?_⟩)
  ·unfold worldsE
   rw [if_pos ⟨dec_pos hW, hm⟩, if_neg (by omega)]
  ·unfold worldsS
   rw [if_neg (by rintro ⟨_, _, _, h⟩; omega)]
   exact SL.nil _ _ _
 have hsm : (recsS l).length ≤ 14 := by omega
 refine rnT ?_
 refine TW.alloc rfl rfl zc30 ?_
 rintro g9 w5 f5
 refine rnT ?_
 refine TW.minI rfl rfl rfl ct rfl ct ?_
 have hmin : min most ((recsS l).length : Int) = ((min most.toNat (recsS l).length : Nat) : Int) := by omega
 rw [hmin]
 refine TW.cl en56 rfl (sets_c) ?_
 rintro y6 w6 ⟨hb6, gs, gl, rfl, hgs, hgl, hgs1, hgl1⟩
 have hb05 := hb04.step f5.below
 have hb06 := hb05.step hb6
 refine rnT ?_
 refine CW.pk [0, 1, 2, 3, 4, 6, 7, 8, 9, 35] rfl ?_
 obtain ⟨n, hn⟩ : ∃ n, n = min most.toNat (recsS l).length := ⟨_, rfl⟩
 rw [← hn] at hgs
 have hsz4 := hb4.size
 have hsz3 := hb03.size
 have hsz5 := f5.below.size
 have hsz6 := hb6.size
 have hg9 := f5.at_
 have hg9s := f5.size
 have hsl : SL intT (fun k => (Value.slice R4 (recsS l).length c4).ownBlock = some k) w6 (.slice R4 (recsS l).length c4) (recsS l) := (OwnS.toInts (o4.below (f5.below.step hb6)) hrecI (fun g hg => hg) (by omega))
 have hF4 : ∀ k, (Value.slice R4 (recsS l).length c4).ownBlock = some k → k < w4.heap.size ∧ w3.heap.size ≤ k := fun k hk => ⟨o4.lt hk, q4 k hk⟩
 have hit := sets_iter n hsl (fun k hk => by have := (hF4 k hk).1; omega) (by omega) (by omega) hgs hgl
 have hg3 := f1.at_
 have hg4 := f2.at_
 have hs1 := f1.size
 have hs2 := f2.size
 have hs3 := hb3.size
 have B3 : Blk w6 g3 30 [.slice A d.length cap] := f1.blk.next (f2.below.step (hb3.step (hb4.step (f5.below.step hb6))))
 have B4 : Blk w6 g4 31 [.slice B l.length lcap] := f2.blk.next (hb3.step (hb4.step (f5.below.step hb6)))
 have B9 : Blk w6 g9 30 [.slice none 0 0] := f5.blk.next hb6
 refine CW.rangeW rfl en92 hit rfl (fun _ => rfl)
  (fun pre M W => Below w.heap.size w W ∧ w6.heap.size ≤ W.heap.size ∧ Blk W g3 30 [.slice A d.length cap] ∧ Blk W g4 31 [.slice B l.length lcap] ∧ ∃ vf ps, Blk W g9 30 [vf] ∧ RowN (sliceT intT) W 48 w6.heap.size vf ps ∧ ps.map (·.2) = (pre.map (·.2)).filter (fun S => dec (Poss d (restS l S))) ∧ M = fun k => k = g9 ∨ vf.ownBlock = some k)
  (fun c pre M W => False) (fun k => k = g9) ?_ ?_ ?_ (fun _ _ _ _ _ h _ => h) ?_ ?_ ?_ ?_
 ·rintro k rfl
  refine ⟨by omega, ?_⟩
  rintro (rfl | rfl | h)
  ·omega
  ·omega
  ·have := hF4 _ h; omega
 ·rintro k (rfl | rfl | h)
  ·exact hgs.lt
  ·exact hgl.lt
  ·have := hF4 k h; omega
 ·rintro pre M W1 W2 ⟨a1, a2, a3, a4, vf, ps, a5, a6, a7, a8⟩ hx
  exact ⟨(hx.less (by omega)).below a1 (Nat.le_refl _), Nat.le_trans a2 hx.size, a3.ext hx, a4.ext hx, vf, ps, a5.ext hx, a6.ext hx, a7, a8⟩
 ·exact ⟨hb06, Nat.le_refl _, B3, B4, .slice none 0 0, [], B9, RowN.nil _ _ _ _, rfl, by funext k; simp [Value.ownBlock]⟩
 ·rintro D L pre ⟨xv, xl⟩ M W hD hL ⟨a1, a2, a3, a4, vf, ps, a5, a6, a7, rfl⟩ ⟨⟨suf, hsuf⟩, hxs⟩ hMlt hML hMD hrec
  dsimp only at hsuf hxs
  obtain ⟨Ax, cx, rfl, _⟩ := hxs.form
  have hps : ps.length ≤ 3375 := by
   have e1 : ps.length = (ps.map (·.2)).length := by simp
   rw [e1, a7]
   have e2 := List.length_filter_le (fun S => dec (Poss d (restS l S))) (pre.map (·.2))
   have e3 := setsS_len (recsS l) n
   rw [hsuf] at e3
   simp at e3 e2
   have e4 : ((recsS l).length + 1) ^ n ≤ 15 ^ n := Nat.pow_le_pow_left (by omega) n
   have e5 : 15 ^ n ≤ 15 ^ 3 := Nat.pow_le_pow_right (by omega) (by omega)
   simp
   omega
  refine rnT ?_
  refine KW.begin hrec fun W2 hx2 hsz2 hk2 hrec2 => ?_
  have a1' : Below w.heap.size w W2 := (hx2.less (by omega)).below a1 (Nat.le_refl _)
  have a3' := a3.ext hx2
  have a4' := a4.ext hx2
  have a5' := a5.ext hx2
  have a6' := a6.ext hx2
  have hxs' := hxs.ext hx2
  refine rnT ?_
  refine CW.draw mixed (by kernel_rfl) ?_
  refine DW.ld rfl (a3'.cell 0) ?_
  refine DW.ld rfl (a4'.cell 0) ?_
  refine rnD ?_
  refine DW.call (.pr (fun u W => SE W u (restS l xl))) ?_ rfl rfl en28 rfl ct (DArgs.cons rfl ct (DArgs.cons rfl ct DArgs.nil)) (fun _ w' hb' => rest_c (se_step hl (a1'.step hb')) (hxs'.below hb') (by omega) (fun e he => by have := hne e he; omega)) ?_
  ·exact fun _ _ _ hb h => se_step h hb
  refine DW.callP (.pr fun u _ => ∃ v, u = .tuple #[v, .bool (dec (Fitted d (restS l xl)))]) (Ent.mono_pure _) rfl rfl en25 rfl ct (PArgs.cons rfl ct (PArgs.cons rfl ct (PArgs.cons rfl ct PArgs.nil))) (fun _ w' hb' vs hs => ?_) ?_
  ·obtain ⟨_, u, _, rfl, rfl, hu, rfl⟩ := Sats.three hs
   exact (fit_c (sd_step hd (a1'.step hb')) hu).mono fun x w'' ⟨h1, h2⟩ => ⟨h1, h2⟩
  refine DW.moveP rfl rfl rfl ct (Ent.mono_pure _) ?_
  refine DW.extractP (fun _ _ => True) rfl rfl rfl ct (Ent.mono_pure _) (fun u w' ⟨v', h1⟩ => ⟨_, v', h1, rfl, trivial⟩) ?_
  refine DW.extractP (fun u _ => u = .bool (dec (Fitted d (restS l xl)))) rfl rfl rfl ct (Ent.mono_pure _) (fun u w' ⟨v', h1⟩ => ⟨_, _, h1, rfl, rfl⟩) ?_
  refine DW.assignP rfl rfl rfl ct (Ent.mono_pure _) ?_
  refine DW.assignP rfl rfl rfl ct (Ent.mono_pure _) ?_
  refine DW.nil (DW.finP [9, 10, 12] rfl fun vs W3 hb3 hs3 => KW.then_ ?_)
  obtain ⟨v9, v10, v12, rfl, h9, h10, h12⟩ := Sats.three hs3
  refine rnT ?_
  refine CW.pk [9, 10, 12, 45] rfl ?_
  cases h9
  cases h10
  obtain rfl : v12 = _ := h12
  rw [dec_congr (hW.rest xl)]
  have hL2 : L < W2.heap.size := hrec2.lt
  have rec3 : W3.heap[L]? = W2.heap[L]? := hb3.block L hL2
  have s3 := hb3.size
  have a1'' := a1'.step hb3
  have a5'' := a5'.next hb3
  have a6'' := a6'.step hb3
  have hxs'' := hxs'.below hb3
  have hvlt : ∀ q, vf.ownBlock = some q → w6.heap.size ≤ q ∧ q < W2.heap.size := fun q hq => ⟨a6'.2.2 q hq, a6'.1.lt hq⟩
  have hLv : vf.ownBlock ≠ some L := fun e => hML (.inr e)
  have hDv : vf.ownBlock ≠ some D := fun e => hMD (.inr e)
  have hLg : L ≠ g9 := fun e => hML (.inl e)
  have hDg : D ≠ g9 := fun e => hMD (.inl e)
  refine CW.cond rfl (fun hyes => ?_) (fun hno => ?_)
  ·refine CW.region ?_
   refine TW.ld rfl (a5''.cell 0) ?_
   refine rnT ?_
   refine TW.buildSlice 48 _ rfl rfl rfl eo30 (Args.cons rfl ct Args.nil) rfl rfl rfl rfl rfl ?_
   rintro g48 w7 f7
   have o7 := a6''.1.below f7.below
   refine TW.append [.slice Ax xl.length cx] rfl rfl go30 rfl o7 rfl rfl (fun j v hj => ⟨⟨g48, 0, none⟩, rfl, f7.blk.fld hj⟩) (fun v hv => by simp at hv; subst hv; rfl) (by omega) (by omega) ?_
   rintro vf' w8 o8 hg8 hn8
   have s7 := f7.below.size
   have s8 := hg8.size
   have b8 : Blk w8 g9 30 [vf] := Blk.keptO (a5''.next f7.below) hg8 (fun e => by have := hvlt _ e; omega)
   obtain ⟨A8, c8, hv8, _⟩ := o8.form
   have h18 : vf'.oneCell' = true := by rw [hv8]; rfl
   refine TW.store1 rfl sz30 rfl rfl (b8.cell 0) (b8.frozen 0) h18 ?_
   refine rnT ?_
   have r8 : RowN (sliceT intT) w8 48 w6.heap.size vf' (ps ++ [([.slice Ax xl.length cx], xl)]) := by
    refine RowN.app (a6''.step f7.below) o8 hg8 hn8 ⟨_, rfl, ?_⟩ (by omega)
    refine ((hxs''.below f7.below).nb intT_nb).wider fun k hk => ⟨⟨hk.2, fun e => hk.1.2 (.inr e)⟩, hk.1.1⟩
   have r9 := r8.setCell (g := g9) (i := 0) (by omega) vf'
   have hnew : ∀ q, vf'.ownBlock = some q → vf.ownBlock = some q ∨ q = w7.heap.size := fun q hq => by
    rcases hn8 with h | h
    ·exact .inl (by rw [← h]; exact hq)
    ·rw [h] at hq; cases hq; exact .inr rfl
   have rec8 : w8.heap[L]? = W2.heap[L]? := (hg8.block L (by omega) (fun e => hLv e.symm)).trans ((f7.below.block L (by omega)).trans rec3)
   have kept8 : ∀ k, k < W.heap.size → ¬ (k = g9 ∨ vf.ownBlock = some k) → k ≠ L → w8.heap[k]? = W.heap[k]? := fun k h1 h2 h3 =>
    (hg8.block k (by omega) (fun e => h2 (.inr e.symm))).trans ((f7.below.block k (by omega)).trans ((hb3.block k (by omega)).trans (hk2 k h3)))
   have hb08 : Below w.heap.size w w8 := (a1''.step f7.below).grown hg8 (a1''.step f7.below).size (fun q hq => by have := hvlt q hq; omega)
   have b38 : Blk w8 g3 30 [.slice A d.length cap] := Blk.keptO ((a3'.next hb3).next f7.below) hg8 (fun e => by have := hvlt _ e; omega)
   have b48 : Blk w8 g4 31 [.slice B l.length lcap] := Blk.keptO ((a4'.next hb3).next f7.below) hg8 (fun e => by have := hvlt _ e; omega)
   refine KW.endN (hrec2.kept ((Below.heap_setCell _ _ _ _ (by show L ≠ g9; exact hLg)).trans rec8)) fun W9 hx9 hsz9 hk9 hrec9 => ?_
   have hs9 : W9.heap.size = w8.heap.size := by rw [hsz9]; simp
   refine ⟨by omega, fun k h1 h2 h3 => (hk9 k h3).trans ((Below.heap_setCell _ _ _ _ (fun e => h2 (.inl e))).trans (kept8 k h1 h2 h3)), fun _ => ⟨fun k => k = g9 ∨ vf'.ownBlock = some k, ⟨⟨(hx9.less (by omega)).below (hb08.setCell (by show w.heap.size ≤ g9; omega) _) (Nat.le_refl _), by omega, (b38.far (by show g3 ≠ g9; omega) vf').ext hx9, (b48.far (by show g4 ≠ g9; omega) vf').ext hx9, vf', _, (b8.set 0 vf').ext hx9, r9.ext hx9, ?_, rfl⟩, ?_, ?_, hrec9⟩, fun k hk => ?_⟩, fun h => by cases h⟩
   ·rw [List.map_append, a7, List.map_append, List.filter_append]
    simp [hyes]
   ·rintro (h | h)
    ·exact hLg h
    ·rcases hnew L h with h | h
     ·exact hLv h
     ·omega
   ·rintro (h | h)
    ·exact hDg h
    ·rcases hnew D h with h | h
     ·exact hDv h
     ·omega
   ·rcases hk with rfl | hk
    ·exact ⟨.inl (.inl rfl), by omega⟩
    ·rcases hnew k hk with h | h
     ·exact ⟨.inl (.inr h), by have := hvlt k h; omega⟩
     ·refine ⟨.inr (by omega), ?_⟩
      have := o8.lt hk
      omega
  ·refine rnT ?_
   refine KW.endN (hrec2.kept rec3) fun W8 hx8 hsz8 hk8 hrec8 => ?_
   refine ⟨by omega, fun k h1 h2 h3 => (hk8 k h3).trans ((hb3.block k (by omega)).trans (hk2 k h3)), fun _ => ⟨fun k => k = g9 ∨ vf.ownBlock = some k, ⟨⟨(hx8.less (by omega)).below a1'' (Nat.le_refl _), by omega, (a3'.next hb3).ext hx8, (a4'.next hb3).ext hx8, vf, ps, a5''.ext hx8, a6''.ext hx8, ?_, rfl⟩, hML, hMD, hrec8⟩, fun k hk => ?_⟩, fun h => by cases h⟩
   ·rw [a7]
    simp [List.filter_append, hno]
   ·refine ⟨.inl hk, ?_⟩
    rcases hk with rfl | hk
    ·omega
    ·have := hvlt k hk; omega
 ·rintro D xs M W hD hdone ⟨a1, a2, a3, a4, vf, ps, a5, a6, a7, rfl⟩ hMD hdef
  have hdone' : xs.map (·.2) = setsS (recsS l) n := hdone
  obtain ⟨Av, cv, hv⟩ := a6.rowL.form
  subst hv
  have hws : worldsS d l most = ps.map (·.2) := by
   unfold worldsS
   rw [if_pos ⟨dec_pos hW, hm.1, hm.2, hsm⟩, a7, hdone', hn]
  have hDn : D < W.heap.size := (Array.getElem?_eq_some_iff.1 hdef).1
  have hput : ExtF w6.heap.size W (W.putObj D (.deferred none)) := ExtF.putObj hdef rfl hD
  have hBp : Below w.heap.size w (W.putObj D (.deferred none)) := Below.putCtl a1 (by omega)
  refine KW.blockN (KW.then_ ?_)
  refine rnT ?_
  refine TW.ld rfl (a5.cell 0) ?_
  refine rnT ?_
  refine CW.pk [0, 1, 2, 3, 4, 6, 7, 8, 9, 52] rfl ?_
  refine CW.condP rfl (fun hz => ?_) (fun hnz => ?_)
  ·refine rnT ?_
   refine ret2M Tryz.results26 rfl rfl hdef ⟨hBp, .slice none 0 0, ?_, ?_⟩
   ·unfold worldsE
    rw [if_pos ⟨dec_pos hW, hm⟩, if_pos hsm, if_pos]
    rw [hws, List.map_eq_nil_iff, ← List.length_eq_zero_iff]
    omega
   ·rw [hws, show ps = [] from List.length_eq_zero_iff.1 (by omega)]
    exact SL.nil _ _ _
  ·refine rnT ?_
   refine TW.ld rfl (a5.cell 0) ?_
   refine rnT ?_
   refine ret2M Tryz.results26 rfl rfl hdef ⟨hBp, .slice Av ps.length cv, ?_, ?_⟩
   ·unfold worldsE
    rw [if_pos ⟨dec_pos hW, hm⟩, if_pos hsm, if_neg]
    rw [hws, List.map_eq_nil_iff, ← List.length_eq_zero_iff]
    omega
   ·rw [hws]
    exact ((a6.ext hput).sl (by show 0 < 1; omega)).wider fun _ h => h.2
 ·rintro D c pre M W hD h
  exact h.elim
end Go.Proofs.YtnjknkgomhmlfaaGreatDoor
namespace Go.Proofs.YtnjknkgomhmlfaaGreatDoor
open Go.PF Go.RowKit Go.Ord
attribute [local irreducible] TW CW KW DW
variable {k : Nat} {w : World} {v u : Value} {d : Dist} {l : List Ev}
def Upto {α : Type} (p : α → Prop) (l : List α) (k : Nat) : Prop := ∀ (i : Nat) (e : α), i < k → l[i]? = some e → p e
theorem Upto.zero {α : Type} {p : α → Prop} {l : List α} : Upto p l 0 := fun i e hi => by omega
theorem Upto.succ {α : Type} {p : α → Prop} {l : List α} {x : α} (h : Upto p l k) (hx : l[k]? = some x) (hp : p x) : Upto p l (k + 1) := fun i e hi he => by
 rcases Nat.lt_or_ge i k with h' | h'
 ·exact h i e h' he
 ·obtain rfl : i = k := by omega
  rw [hx] at he; cases he
  exact hp
theorem Upto.all {α : Type} {p : α → Prop} {l : List α} (h : Upto p l k) (hk : l.length ≤ k) : ∀ e ∈ l, p e := fun e he => by
 obtain ⟨i, hi, hie⟩ := List.getElem_of_mem he
 exact h i e (by omega) (by rw [← hie]; exact List.getElem?_eq_getElem hi)
theorem getx {α : Type} {l : List α} (h : k < l.length) : ∃ x, l[k]? = some x ∧ x ∈ l := ⟨l[k], List.getElem?_eq_getElem h, List.getElem_mem h⟩
abbrev SI (w : World) (v : Value) (l : List Int) : Prop := SL intT (fun k => k < w.heap.size) w v l
structure FewD (d : Dist) (l : List Ev) (o m : Int) : Prop where
 d1 : (d.length : Int) ≤ o
 l1 : (l.length : Int) ≤ m
 r1 : ∀ r ∈ d, (r.length : Int) ≤ o
theorem rfew27_c {F G : Nat → Prop} {o m : Int} (hd : SL (sliceT intT) F w v d) (hl : SL evT G w u l) : Gives Tryz.prog 57 #[v, u, .int .i64 o, .int .i64 m] w fun x w' => Below w.heap.size w w' ∧ x = .bool (dec (FewD d l o m)) := by
 obtain ⟨A, cap, rfl, _⟩ := hd.form
 obtain ⟨B, bcap, rfl, _⟩ := hl.form
 have hmax : d.length ≤ 9223372036854775807 := hd.len.2.2
 refine gv Tryz.func57 Tryz.ntmps57 ?_
 refine rnT ?_
 refine CW.pk [0, 1, 2, 3, 8, 19] rfl ?_
 refine CW.cond rfl (fun hbad => ?_) (fun hgood => ?_)
 ·refine rnT ?_
  refine ret1 Tryz.results57 rfl (⟨Below.refl _ _, by rw [dec_neg (fun h => by have := h.d1; have := h.l1; simp at hbad; omega)]⟩)
 have hg : (d.length : Int) ≤ o ∧ (l.length : Int) ≤ m := by simp at hgood; omega
 refine rnT ?_
 refine CW.pk [0, 1, 2, 3, 8, 9] rfl ?_
 refine CW.loopS (fun k : Nat => [(0, none, .slice A d.length cap), (2, none, .int .i64 o), (9, none, .int .i64 (k : Int))])
  (fun k W => k ≤ d.length ∧ W = w ∧ Upto (fun r : List Int => (r.length : Int) ≤ o) d k) (fun k => d.length - k) 0 [0, 2, 9] ⟨by omega, rfl, Upto.zero⟩ rfl ?_
 rintro k W ⟨hk, rfl, hup⟩
 refine rnT ?_
 refine CW.pk [0, 2, 9, 23] rfl ?_
 refine CW.condP rfl (fun hlt => ?_) (fun hge => ?_)
 ·obtain ⟨x, hx, hxm⟩ := getx (l := d) (k := k) (by omega)
  obtain ⟨ad, rfl⟩ := hd.addr (by omega)
  obtain ⟨rv, hcell, hrow⟩ := hd.row hx
  obtain ⟨C, ccap, rfl, _⟩ := hrow.form
  refine rnT ?_
  refine TW.ld rfl (hcell) ?_
  refine rnT ?_
  refine CW.pk [0, 2, 9, 32] rfl ?_
  refine CW.condP rfl (fun he => ?_) (fun hn => ?_)
  ·refine rnT ?_
   refine ret1 Tryz.results57 rfl (⟨Below.refl _ _, by rw [dec_neg (fun h => by have := h.r1 x hxm; omega)]⟩)
  refine rnT ?_
  refine KW.round (k + 1) [0, 2, 9] rfl ⟨by omega, rfl, hup.succ hx (by omega)⟩ (by omega)
 ·refine rnT ?_
  refine ret1 Tryz.results57 rfl (⟨Below.refl _ _, by rw [dec_pos ⟨hg.1, hg.2, hup.all (by omega)⟩]⟩)
structure FewP (d : Dist) (l : List Ev) : Prop where
 fd : FewD d l 5 8
 nd : ∀ e ∈ l, e.needs.length ≤ 6
theorem rfew28_c {F G : Nat → Prop} (hd : SL (sliceT intT) F w v d) (hl : SL evT G w u l) : Gives Tryz.prog 27 #[v, u] w fun x w' => Below w.heap.size w w' ∧ x = .bool (dec (FewP d l)) := by
 obtain ⟨A, cap, rfl, _⟩ := hd.form
 obtain ⟨B, bcap, rfl, _⟩ := hl.form
 have hmax : l.length ≤ 9223372036854775807 := hl.len.2.2
 refine gv Tryz.func27 Tryz.ntmps27 ?_
 refine rnT ?_
 refine CW.pk [0, 1, 4, 5] rfl ?_
 refine CW.loopS (fun k : Nat => [(0, none, .slice A d.length cap), (1, none, .slice B l.length bcap), (5, none, .int .i64 (k : Int))])
  (fun k W => k ≤ l.length ∧ W = w ∧ Upto (fun e : Ev => e.needs.length ≤ 6) l k) (fun k => l.length - k) 0 [0, 1, 5] ⟨by omega, rfl, Upto.zero⟩ rfl ?_
 rintro k W ⟨hk, rfl, hup⟩
 refine rnT ?_
 refine CW.pk [0, 1, 5, 9] rfl ?_
 refine CW.condP rfl (fun hlt => ?_) (fun hge => ?_)
 ·obtain ⟨x, hx, hxm⟩ := getx (l := l) (k := k) (by omega)
  obtain ⟨ad, rfl⟩ := hl.addr (by omega)
  obtain ⟨nx, cx, _, _, _, hnx⟩ := SE.get hl hx
  obtain ⟨C, ccap, rfl, _⟩ := hnx.form
  refine rnT ?_
  refine TW.ld rfl (cx 3 _ rfl) ?_
  refine rnT ?_
  refine CW.pk [0, 1, 5, 18] rfl ?_
  refine CW.condP rfl (fun he => ?_) (fun hn => ?_)
  ·refine rnT ?_
   refine ret1 Tryz.results27 rfl (⟨Below.refl _ _, by rw [dec_neg (fun h => by have := h.nd x hxm; omega)]⟩)
  refine rnT ?_
  refine KW.round (k + 1) [0, 1, 5] rfl ⟨by omega, rfl, hup.succ hx (by omega)⟩ (by omega)
 ·refine rnT ?_
  refine TW.cl en57 rfl (rfew27_c hd hl) ?_
  rintro y w1 ⟨hb1, rfl⟩
  refine rnT ?_
  refine ret1 Tryz.results27 rfl (⟨hb1, by rw [dec_congr (show FewD d l 5 8 ↔ FewP d l from ⟨fun h => ⟨h, hup.all (by omega)⟩, fun h => h.fd⟩)]⟩)
theorem rvalid27_c (hd : SD w v d) (hl : SE w u l) : Gives Tryz.prog 74 #[v, u, .slice none 0 0] w fun x w' => Below w.heap.size w w' ∧ x = .bool (dec (WfE d l)) := by
 obtain ⟨A, cap, rfl, _⟩ := hd.form
 obtain ⟨B, bcap, rfl, _⟩ := hl.form
 have hmax : l.length ≤ 9223372036854775807 := hl.len.2.2
 refine gv Tryz.func74 Tryz.ntmps74 ?_
 refine rnT ?_
 refine TW.cl en118 rfl (rdistances_c hd) ?_
 rintro y w1 ⟨hb1, rfl⟩
 refine rnT ?_
 refine CW.pk [0, 1, 2, 6, 18] rfl ?_
 refine CW.cond rfl (fun hbad => ?_) (fun hgood => ?_)
 ·refine rnT ?_
  refine ret1 Tryz.results74 rfl (⟨hb1, by rw [dec_neg (fun h => by simp [dec_pos h.wd] at hbad; have := h.few; omega)]⟩)
 have hwd : WfD d := dec_iff.1 (by cases hq : dec (WfD d) <;> simp_all)
 have hfew : l.length ≤ 16 := by simp [dec_pos hwd] at hgood; omega
 refine rnT ?_
 refine TW.makeSlice rfl rfl (zero1_of go116 ze4 rfl) rfl rfl (by omega) (by omega) ?_
 rintro g2 w2 f2
 refine rnT ?_
 refine CW.pk [0, 1, 2, 6, 7, 8] rfl ?_
 have hb02 := hb1.step f2.below
 refine CW.loopS (fun k : Nat => [(0, none, .slice A d.length cap), (1, none, .slice B l.length bcap), (2, none, .slice none 0 0), (8, none, .int .i64 (k : Int))])
  (fun k W => k ≤ l.length ∧ W = w2 ∧ Upto (EOK d) l k) (fun k => l.length - k) 0 [0, 1, 2, 8] ⟨by omega, rfl, Upto.zero⟩ rfl ?_
 rintro k W ⟨hk, rfl, hup⟩
 have hl2 := hl.below hb02
 refine rnT ?_
 refine CW.pk [0, 1, 2, 8, 25] rfl ?_
 refine CW.condP rfl (fun hlt => ?_) (fun hge => ?_)
 ·obtain ⟨x, hx, hxm⟩ := getx (l := l) (k := k) (by omega)
  obtain ⟨ad, rfl⟩ := hl2.addr (by omega)
  obtain ⟨nx, cx, _, _, _, hnx⟩ := SE.get hl2 hx
  refine rnT ?_
  refine TW.ld rfl (cx 0 _ rfl) ?_
  refine rnT ?_
  refine TW.ld rfl (cx 0 _ rfl) ?_
  refine rnT ?_
  refine CW.pk [0, 1, 2, 8, 43] rfl ?_
  refine CW.cond rfl (fun he => ?_) (fun hn => ?_)
  ·refine rnT ?_
   refine ret1 Tryz.results74 rfl (⟨hb02, by rw [dec_neg (fun h => by have h1 := (h.each x hxm).o1; have h2 := (h.each x hxm).o2; simp at he; omega)]⟩)
  refine rnT ?_
  refine KW.round (k + 1) [0, 1, 2, 8] rfl ⟨by omega, rfl, hup.succ hx (by simp at hn; exact ⟨by omega, by omega⟩)⟩ (by omega)
 ·refine rnT ?_
  refine CW.pk [0, 1, 2, 8, 9] rfl ?_
  refine CW.loopS (fun _ : Unit => [(2, none, .slice none 0 0), (9, none, .int .i64 0)]) (fun _ W' => W' = W) (fun k => 0) () [2, 9] rfl rfl ?_
  rintro _ W' rfl
  refine rnT ?_
  refine CW.pk [2, 9, 47] rfl ?_
  refine CW.condP rfl (fun hlt2 => ?_) (fun hge2 => ?_)
  ·exfalso
   omega
  ·refine rnT ?_
   refine ret1 Tryz.results74 rfl (⟨hb02, by rw [dec_pos ⟨hwd, hfew, hup.all (by omega)⟩]⟩)
def lexS : List Int → List Int → Bool
 | x :: a, y :: b => if x = y then lexS a b else decide (x < y)
 | _, _ => false
end Go.Proofs.YtnjknkgomhmlfaaGreatDoor
namespace Go.Proofs.YtnjknkgomhmlfaaGreatDoor
open Go.PF Go.RowKit Go.Ord
variable {d : Dist} {l r l' : List Ev} {t most o : Int} {b S : List Int} {ws : List (List Int)} {rs : List (List Ev)} {N : Net}
theorem _root_.Go.PF.SL.allI {F : Nat → Prop} {w : World} {v : Value} {l : List Int} (h : SL intT F w v l) : ∀ x ∈ l, I64 x := fun x hx => by
 obtain ⟨j, hj, hje⟩ := List.getElem_of_mem hx
 exact h.rngI (i := j) (x := x) (by rw [← hje]; exact List.getElem?_eq_getElem hj)
theorem sub_extend {α : Type} : ∀ {l t : List α}, t.Sublist l → ∀ n, t.length ≤ n → n ≤ l.length → ∃ b, t.Sublist b ∧ b.Sublist l ∧ b.length = n
 | [], t, h, n, h1, h2 => ⟨[], by simpa using h, List.Sublist.refl _, by simp at h2; simp [h2]⟩
 | x :: l, t, h, n, h1, h2 => by
  cases h with
  | cons _ h =>
   by_cases hn : n ≤ l.length
   ·obtain ⟨b, q1, q2, q3⟩ := sub_extend h n h1 hn
    exact ⟨b, q1, q2.cons x, q3⟩
   ·simp at h2
    exact ⟨x :: l, h.cons x, List.Sublist.refl _, by simp; omega⟩
  | cons_cons _ h =>
   rename_i t'
   simp at h1 h2
   obtain ⟨b, q1, q2, q3⟩ := sub_extend h (n - 1) (by omega) (by omega)
   exact ⟨x :: b, q1.cons_cons x, q2.cons_cons x, by simp; omega⟩
theorem gone_iff {e : Ev} : gone S e = true ↔ ∃ r ∈ e.needs, r ∈ S := by
 unfold gone
 simp
theorem rest_less {T : List Int} (h : ∀ e ∈ l, gone S e = true → gone T e = true) : (restS l T).Sublist (restS l S) := by
 unfold restS
 have e1 : l.filter (fun e => !gone T e) = (l.filter (fun e => !gone S e)).filter (fun e => !gone T e) := by
  rw [List.filter_filter]
  refine List.filter_congr fun e he => ?_
  cases h1 : gone S e with
  | false => simp
  | true => simp [h e he h1]
 rw [e1]
 exact List.filter_sublist
structure WOK (d : Dist) (l : List Ev) (most : Int) : Prop where
 wf : WfP d l
 m0 : 0 ≤ most
 m3 : most ≤ 3
 rl : (recsS l).length ≤ 14
theorem WOK.eq (h : WOK d l most) : worldsS d l most = (setsS (recsS l) (min most.toNat (recsS l).length)).filter (fun S => dec (Poss d (restS l S))) := by
 unfold worldsS
 rw [if_pos ⟨dec_pos h.wf, h.m0, h.m3, h.rl⟩]
theorem WOK.mem (h : WOK d l most) : b ∈ worldsS d l most ↔ b.Sublist (recsS l) ∧ b.length = min most.toNat (recsS l).length ∧ Poss d (restS l b) := by
 rw [h.eq, List.mem_filter, mem_setsS, dec_iff, and_assoc]
theorem WOK.err (h : WOK d l most) : worldsE d l most = if worldsS d l most = [] then 280 else 0 := by
 unfold worldsE
 rw [if_pos ⟨dec_pos h.wf, h.m0, h.m3⟩, if_pos h.rl]
theorem WOK.ok (h : WOK d l most) (hb : b ∈ worldsS d l most) : worldsE d l most = 0 := by
 rw [h.err, if_neg (fun e => by rw [e] at hb; cases hb)]
theorem WOK.has (h : WOK d l most) {s : List Int} (hs : (s.length : Int) ≤ most) (hp : Poss d (restS l s)) : ∃ b ∈ worldsS d l most, ∀ x ∈ s.filter (fun y => decide (y ∈ recsS l)), x ∈ b := by
 have hm := h.m0
 have hnd : (recsS l).Nodup := (recsS_inc l).nodup
 have hsub : ((recsS l).filter fun y => decide (y ∈ s)).Sublist (recsS l) := List.filter_sublist
 have hle : ((recsS l).filter fun y => decide (y ∈ s)).length ≤ s.length := nodup_len (hnd.sublist hsub) (fun x hx => by
  have := (List.mem_filter.1 hx).2
  simpa using this)
 have hle2 := hsub.length_le
 obtain ⟨b, q1, q2, q3⟩ := sub_extend hsub (min most.toNat (recsS l).length) (by omega) (by omega)
 have hin : ∀ x ∈ s, x ∈ recsS l → x ∈ b := fun x h1 h2 => q1.subset (List.mem_filter.2 ⟨h2, by simpa using h1⟩)
 refine ⟨b, h.mem.2 ⟨q2, q3, hp.sub (rest_less fun e he hg => ?_)⟩, fun x hx => ?_⟩
 ·obtain ⟨r, hr, hrs⟩ := gone_iff.1 hg
  exact gone_iff.2 ⟨r, hr, hin r hrs (mem_recsS.2 ⟨e, he, hr⟩)⟩
 ·obtain ⟨h1, h2⟩ := List.mem_filter.1 hx
  exact hin x h1 (by simpa using h2)
theorem WfP.sub (h : WfP d l) (hs : l'.Sublist l) : WfP d l' :=
 ⟨h.wd, by have := hs.length_le; have := h.few; omega, fun e he => h.each e (hs.subset he), fun e he => h.pos e (hs.subset he)⟩
theorem recs_sub (hs : l'.Sublist l) : ∀ x ∈ recsS l', x ∈ recsS l := fun x hx => by
 obtain ⟨e, he, hxe⟩ := mem_recsS.1 hx
 exact mem_recsS.2 ⟨e, hs.subset he, hxe⟩
theorem WOK.sub {d : Dist} {l l' : List Ev} {most : Int} (h : WOK d l most) (hs : l'.Sublist l) : WOK d l' most :=
 ⟨h.wf.sub hs, h.m0, h.m3, by have := nodup_len (recsS_inc l').nodup (recs_sub hs); have := h.rl; omega⟩
theorem WOK.len (h : WOK d l most) (hb : b ∈ worldsS d l most) : (b.length : Int) ≤ most := by
 have := (h.mem.1 hb).2.1
 have := h.m0
 omega
theorem WOK.more (h : WOK d l most) (h3 : most < 3) (hb : b ∈ worldsS d l most) : ∃ c ∈ worldsS d l (most + 1), ∀ x ∈ b, x ∈ c := by
 have hw : WOK d l (most + 1) := ⟨h.wf, by have := h.m0; omega, by omega, h.rl⟩
 obtain ⟨q1, q2, q3⟩ := h.mem.1 hb
 obtain ⟨c, hc, hin⟩ := hw.has (s := b) (by have := h.len hb; omega) q3
 exact ⟨c, hc, fun x hx => hin x (List.mem_filter.2 ⟨hx, by simpa using q1.subset hx⟩)⟩
theorem WOK.inc (h : WOK d l most) (hb : b ∈ worldsS d l most) : Inc b := (recsS_inc l).sublist (h.mem.1 hb).1
theorem wfe_at {f f' t' : Int} (h : WfE d (r ++ [vis o f t])) : WfE d (r ++ [vis o f' t']) :=
 ⟨h.wd, by have := h.few; simpa using this, fun e he => by
  rcases List.mem_append.1 he with he | he
  ·exact h.each e (List.mem_append_left _ he)
  ·rw [List.mem_singleton] at he
   subst he
   have := h.each (vis o f t) (by simp)
   exact ⟨this.o1, this.o2⟩⟩
def WfV (d : Dist) (r : List Ev) (o : Int) : Prop := WfE d (r ++ [vis o 0 0])
theorem at_iff {f : Int} : (Knd.at o f t).b d r = true ↔ WfV d r o ∧ ∃ τ, f ≤ τ ∧ τ ≤ t ∧ PV d r o τ := by
 show dec (Fitted d (r ++ [vis o f t])) = true ↔ _
 rw [dec_iff]
 unfold Fitted
 rw [poss_vis]
 exact ⟨fun h => ⟨wfe_at h.1, h.2⟩, fun h => ⟨wfe_at h.1, h.2⟩⟩
theorem can_iff {k : Knd} : canB d rs k = true ↔ ∃ r ∈ rs, k.b d r = true := by
 unfold canB
 rw [List.any_eq_true]
theorem bool_ext {a b : Bool} (h : a = true ↔ b = true) : a = b := by cases a <;> cases b <;> simp_all
theorem WfE.sub (h : WfE d l) (hs : l'.Sublist l) : WfE d l' := ⟨h.wd, Nat.le_trans hs.length_le h.few, fun e he => h.each e (hs.subset he)⟩
theorem mem_spots {s : Spt} : s ∈ spotsS N d rs t ↔ ∃ k, (s, k) ∈ plsS N t ∧ canB d rs k = true := by
 unfold spotsS
 rw [List.mem_map]
 constructor
 ·rintro ⟨p, hp, rfl⟩
  obtain ⟨h1, h2⟩ := List.mem_filter.1 hp
  exact ⟨p.2, h1, h2⟩
 ·rintro ⟨k, h1, h2⟩
  exact ⟨(s, k), List.mem_filter.2 ⟨h1, h2⟩, rfl⟩
theorem mem_offPl {n : Nat} {p : Spt × Knd} : p ∈ offPl n t ↔ ∃ i : Nat, i < n ∧ p = (((i : Int), -1), .at i t t) := by
 unfold offPl
 rw [List.mem_map]
 constructor
 ·rintro ⟨i, hi, rfl⟩; exact ⟨i, List.mem_range.1 hi, rfl⟩
 ·rintro ⟨i, hi, rfl⟩; exact ⟨i, List.mem_range.2 hi, rfl⟩
theorem mem_linPl {ls : List Li} {p : Spt × Knd} : p ∈ linPl ls t ↔ ∃ (i : Nat) (l : Li), ls[i]? = some l ∧ p = ((-1, (i : Int)), .on l t) := by
 unfold linPl
 rw [List.mem_mapIdx]
 constructor
 ·rintro ⟨i, hi, rfl⟩; exact ⟨i, ls[i], List.getElem?_eq_getElem hi, rfl⟩
 ·rintro ⟨i, l, hl, rfl⟩
  obtain ⟨hi, he⟩ := List.getElem?_eq_some_iff.1 hl
  exact ⟨i, hi, by rw [he]⟩
theorem spots_off (h0 : 0 ≤ o) (h1 : o < N.offs.length) : (o, -1) ∈ spotsS N d rs t ↔ canB d rs (.at o t t) = true := by
 rw [mem_spots]
 constructor
 ·rintro ⟨k, hk, hc⟩
  rcases List.mem_append.1 hk with hk | hk
  ·obtain ⟨i, hi, he⟩ := mem_offPl.1 hk
   simp only [Prod.mk.injEq] at he
   obtain ⟨⟨rfl, _⟩, rfl⟩ := he
   exact hc
  ·obtain ⟨i, l, hi, he⟩ := mem_linPl.1 hk
   simp only [Prod.mk.injEq] at he
   omega
 ·intro hc
  obtain ⟨i, rfl⟩ : ∃ i : Nat, (i : Int) = o := ⟨o.toNat, by omega⟩
  exact ⟨_, List.mem_append_left _ (mem_offPl.2 ⟨i, by omega, rfl⟩), hc⟩
structure SpOK (N : Net) (s : Spt) : Prop where
 is : (s.2 = -1 ∧ 0 ≤ s.1 ∧ s.1 < N.offs.length) ∨ (s.1 = -1 ∧ 0 ≤ s.2 ∧ s.2 < N.lines.length)
def SpLt (a b : Spt) : Prop := (b.2 = -1 ∧ a.2 = -1 ∧ a.1 < b.1) ∨ (b.1 = -1 ∧ 0 ≤ b.2 ∧ a.2 < b.2)
theorem poss_eq (h : PossOK N d l ws.length t) : possS N d l ws t = spotsS N d (restsS l ws) t := by
 unfold possS
 rw [if_pos (dec_pos h)]
theorem seen_iff : seenS l ws o t = true ↔ ws ≠ [] ∧ ∀ S ∈ ws, ∃ e ∈ restS l S, e.office = o ∧ e.high ≤ t := by
 unfold seenS
 rw [Bool.and_eq_true, List.all_eq_true, decide_eq_true_eq]
 refine and_congr ?_ ?_
 ·exact List.length_pos_iff
 ·refine forall_congr' fun S => forall_congr' fun _ => ?_
  rw [List.any_eq_true]
  refine exists_congr fun e => and_congr_right fun _ => ?_
  unfold isSeen
  simp
theorem seen_later {t' : Int} (h : seenS l ws o t = true) (ht : t ≤ t') : seenS l ws o t' = true := by
 obtain ⟨h1, h2⟩ := seen_iff.1 h
 exact seen_iff.2 ⟨h1, fun S hS => by
  obtain ⟨e, he, h3, h4⟩ := h2 S hS
  exact ⟨e, he, h3, by omega⟩⟩
theorem wfv_of (hw : WfE d r) (hl : r.length ≤ 15) (h0 : 0 ≤ o) (h1 : o < d.length) : WfV d r o := ⟨hw.wd, by simp; omega, fun e he => by
 rcases List.mem_append.1 he with he | he
 ·exact hw.each e he
 ·rw [List.mem_singleton] at he
  subst he
  exact ⟨h0, h1⟩⟩
theorem seen_reach (hf : FitW d l ws.length) (hp : ∀ S ∈ ws, Poss d (restS l S)) (h : seenS l ws o t = true) : reachS d l ws o 0 t = true := by
 obtain ⟨h1, h2⟩ := seen_iff.1 h
 obtain ⟨S, hS⟩ := List.exists_mem_of_ne_nil _ h1
 obtain ⟨e, he, rfl, h4⟩ := h2 S hS
 have hel := (restS_sub l S).subset he
 have hok := hf.each e hel
 have hrw : WfE d (restS l S) := WfE.sub hf.wfe (restS_sub l S)
 have hlen := (restS_sub l S).length_le
 have hfew := hf.few
 obtain ⟨τ, a1, a2, hpv⟩ := poss_own hf.wd hrw.each (hp S hS) he
 unfold reachS
 rw [dec_pos hf, decide_eq_true ⟨hok.o1, hok.o2⟩]
 refine can_iff.2 ⟨_, List.mem_map_of_mem hS, at_iff.2 ⟨wfv_of hrw (by omega) hok.o1 hok.o2, τ, hpv.1, by omega, hpv⟩⟩
theorem truth_at {m : List ET} {x : ET} (hf : FitW d l 0) (hW : WOK d l S.length) (hm : m.map (·.1) = restS l S) (hh : HoldsN d m) (hx : x ∈ m) : canB d (restsS l (worldsS d l S.length)) (.at x.1.office x.2 x.2) = true := by
 have hp : Poss d (restS l S) := ⟨m, hm, hh⟩
 obtain ⟨b, hb, hin⟩ := hW.has (Int.le_refl _) hp
 have hsub : (restS l b).Sublist (restS l S) := rest_less fun e he hg => by
  obtain ⟨r, hr, hrs⟩ := gone_iff.1 hg
  exact gone_iff.2 ⟨r, hr, hin r (List.mem_filter.2 ⟨hrs, by simpa using mem_recsS.2 ⟨e, he, hr⟩⟩)⟩
 have hrw : WfE d (restS l b) := WfE.sub hf.wfe (restS_sub l b)
 have hlen := (restS_sub l b).length_le
 have hfew := hf.few
 have hxm : x.1 ∈ restS l S := by rw [← hm]; exact List.mem_map_of_mem hx
 have hok := hf.each x.1 ((restS_sub l S).subset hxm)
 have hall : ∀ y ∈ m, EOK d y.1 := fun y hy => hf.each y.1 ((restS_sub l S).subset (by rw [← hm]; exact List.mem_map_of_mem hy))
 have hpv := pv_own hf.wd hall hh hx
 rw [hm] at hpv
 exact can_iff.2 ⟨_, List.mem_map_of_mem hb, at_iff.2 ⟨wfv_of hrw (by omega) hok.o1 hok.o2, x.2, Int.le_refl _, Int.le_refl _, hpv.sub hsub⟩⟩
theorem on_iff {l : Li} : (Knd.on l t).b d r = true ↔ WfE d (r ++ [lvE l t, arE l t]) ∧ PossJ d r (lvE l t) (arE l t) l.trav := by
 show dec _ = true ↔ _
 rw [dec_iff]
 exact Iff.rfl
end Go.Proofs.YtnjknkgomhmlfaaGreatDoor
namespace Go.Proofs.YtnjknkgomhmlfaaGreatDoor
open Go.PF Go.RowKit Go.Ord
attribute [local irreducible] TW CW KW DW
variable {N : Net}
theorem lines_small (h : SoundOK keys11 N) {l : Li} (hl : l ∈ N.lines) : I64 l.frm ∧ I64 l.to ∧ 0 ≤ l.trav ∧ l.trav ≤ 1000000 := by
 have ho := h.cons.lines.good l hl
 have hf := h.cons.offs.few
 have h1 := ho.f1
 have h2 := ho.f2
 have h3 := ho.t1
 have h4 := ho.t2
 have h5 := ho.r1
 have h6 := ho.r2
 exact ⟨⟨by omega, by omega⟩, ⟨by omega, by omega⟩, by omega, by omega⟩
theorem pls_knd {t : Int} (h : SoundOK keys11 N) (h0 : 0 ≤ t) (h1 : t ≤ 1000000) : ∀ p ∈ plsS N t, p.2.OK ∧ I64 p.1.1 ∧ I64 p.1.2 := fun p hp => by
 have hf := h.cons.offs.few
 have hl := h.cons.lines.few
 rcases List.mem_append.1 hp with hp | hp
 ·unfold offPl at hp
  obtain ⟨i, hi, rfl⟩ := List.mem_map.1 hp
  have := List.mem_range.1 hi
  have hI : I64 (i : Int) := ⟨by omega, by omega⟩
  exact ⟨⟨hI, ⟨by omega, by omega⟩, ⟨by omega, by omega⟩⟩, hI, ⟨by show (-9223372036854775808 : Int) ≤ -1; omega, by show (-1 : Int) ≤ 9223372036854775807; omega⟩⟩
 ·unfold linPl at hp
  obtain ⟨i, hi, rfl⟩ := List.mem_mapIdx.1 hp
  obtain ⟨q1, q2, q3, q4⟩ := lines_small h (List.getElem_mem hi)
  exact ⟨⟨q1, q2, q3, q4, h0, h1⟩, ⟨by show (-9223372036854775808 : Int) ≤ -1; omega, by show (-1 : Int) ≤ 9223372036854775807; omega⟩, ⟨by show -9223372036854775808 ≤ (i : Int); omega, by show (i : Int) ≤ _; omega⟩⟩
theorem rests_len {d : Dist} {l : List Ev} {nw : Nat} (hf : FitW d l nw) (ws : List (List Int)) : ∀ r ∈ restsS l ws, r.length ≤ 14 := fun r hr => by
 obtain ⟨S, _, rfl⟩ := List.mem_map.1 hr
 exact Nat.le_trans (restS_sub l S).length_le hf.few
theorem possible_c {w : World} {v : NV} {dv lv wv : Value} {d : Dist} {l : List Ev} {ws : List (List Int)} {t : Int} (ht : Tabs w) (hN : NetAt w v N) (hd : SD w dv d) (hl : SE w lv l) (hS : SD w wv ws) (hne : ∀ e ∈ l, e.needs.length ≤ 1000000) :
  Gives Tryz.prog 16 #[.agg v.cells.toArray, dv, lv, wv, .int .i64 t] w fun x w' => Below w.heap.size w w' ∧ SPs w' x (possS N d l ws t) := by
 have hform := NetIn.form hN
 obtain ⟨A, cap, rfl, hcap⟩ := hd.form
 obtain ⟨B, lcap, rfl, hlcap⟩ := hl.form
 obtain ⟨X, xcap, rfl, _⟩ := hS.form
 have hv : ∃ A4 c4, v.f = .slice A4 N.offs.length c4 := hform.f
 obtain ⟨vc, vn, vo, vf, vl, vk⟩ := v
 obtain ⟨A4, c4, e4⟩ := hv
 dsimp only at e4
 subst e4
 refine gvM Tryz.func16 Tryz.ntmps16 ?_
 refine rnT ?_
 refine TW.box rfl rfl rfl rfl ?_
 rintro g5 w1 f1
 refine TW.box rfl rfl rfl rfl ?_
 rintro g6 w2 f2
 refine rnT ?_
 refine TW.pk [0, 1, 2, 3, 4, 5, 6, 10] rfl ?_
 have b2 := f1.below.step f2.below
 have hB5 := f1.blk.next f2.below
 have hB6 := f2.blk
 refine TW.loadS _ rfl rfl Tryz.underlying29 sz29 rfl ct (fun _ => (fun _ _ hv => hB5.fld hv)) rfl ?_
 refine TW.cl en34 rfl (check_c (ht.below b2) (net_step hN b2)) ?_
 rintro y3 w3 ⟨c3, C3, n3, k3, rfl, hn3⟩
 have b3 := b2.step c3
 have hB53 := hB5.next c3
 have hB63 := hB6.next c3
 refine rnT ?_
 refine TW.ld rfl (hB63.cell 0) ?_
 refine rnT ?_
 refine TW.callF (cap := []) rfl rfl en35 rfl ct (Args.cons rfl id (Args.cons rfl id (Args.cons rfl id Args.nil))) (fun _ => fitting_c (sd_step hd b3) (se_step hl b3)) ?_
 rintro w4 c4'
 refine rnT ?_
 have b4 := b3.step c4'
 have hB54 := hB53.next c4'
 have hB64 := hB63.next c4'
 refine TW.ld rfl (hB64.cell 0) ?_
 refine rnT ?_
 refine TW.ld rfl (hB54.fld rfl) ?_
 refine rnT ?_
 refine CW.pk [0, 1, 2, 3, 4, 5, 6, 10, 33] rfl ?_
 have hbad' : ∀ {p : Prop}, (p → PossOK N d l ws.length t) → True := fun _ => trivial
 refine CW.cond rfl (fun hbad => ?_) (fun hgood => ?_)
 ·refine rnT ?_
  refine ret1M0 Tryz.results16 rfl (⟨b4, ?_⟩)
  have hno : ¬ PossOK N d l ws.length t := fun h => by
   have e0 : n3 = 0 := hn3.2 h.sound
   have e1 := h.same
   rw [dec_pos h.fit] at hbad
   simp [e0, e1] at hbad
  unfold possS
  rw [dec_neg hno]
  exact SL.nil _ _ _
 have hg : n3 = 0 ∧ FitW d l ws.length ∧ d.length = N.offs.length := by
  by_cases hfw : FitW d l ws.length
  ·rw [dec_pos hfw] at hgood
   simp at hgood
   exact ⟨by omega, hfw, by omega⟩
  ·rw [dec_neg hfw] at hgood
   simp at hgood
 obtain ⟨e0, hfw, hsame⟩ := hg
 have hsnd := hn3.1 e0
 refine rnT ?_
 refine CW.pk [0, 1, 2, 3, 4, 5, 6, 10, 39] rfl ?_
 refine CW.cond rfl (fun hbt => ?_) (fun hgt => ?_)
 ·refine rnT ?_
  refine ret1M0 Tryz.results16 rfl (⟨b4, ?_⟩)
  have hno : ¬ PossOK N d l ws.length t := fun h => by
   have e0 := h.t0
   have e1 := h.t1
   simp at hbt
   omega
  unfold possS
  rw [dec_neg hno]
  exact SL.nil _ _ _
 have ht01 : 0 ≤ t ∧ t ≤ 1000000 := by simp at hgt; omega
 have hok : PossOK N d l ws.length t := ⟨hsnd, hfw, hsame, ht01.1, ht01.2⟩
 have hkn := pls_knd hsnd ht01.1 ht01.2
 have hoff := hsnd.cons.offs.few
 have hlin := hsnd.cons.lines.few
 have hwl := hfw.worlds
 have hll := hfw.few
 refine rnT ?_
 refine TW.alloc rfl rfl zc39 ?_
 rintro g11 w5 f5
 refine rnT ?_
 have b5 := b4.step f5.below
 refine TW.cl en36 rfl (restsOf_c (se_step hl b5) (sd_step hS b5) (by omega) hne (by omega)) ?_
 rintro rv w6 ⟨c6, hR6⟩
 obtain ⟨R6, rc6, rfl, _⟩ := hR6.form
 have b6 := b5.step c6
 refine TW.newVar1 rfl zc75 rfl sz75 rfl ?_
 rintro g12 w7 f7
 refine rnT ?_
 refine TW.pk [0, 1, 2, 3, 4, 5, 6, 10, 11, 12] rfl ?_
 have b7 := b6.step f7.below
 have hB57 := hB54.next (f5.below.step (c6.step f7.below))
 refine TW.loadS _ rfl rfl Tryz.underlying29 sz29 rfl ct (fun _ => (fun _ _ hv => hB57.fld hv)) rfl ?_
 refine rnT ?_
 refine TW.cl en37 rfl (places_c) ?_
 rintro y8 w8 ⟨c8, gN, gT, rfl, hBN, hBT, hgN, hgT⟩
 have b8 := b7.step c8
 refine rnT ?_
 refine CW.pk [0, 1, 2, 3, 4, 5, 6, 10, 11, 12, 45] rfl ?_
 have s5 := f5.below.size
 have s4 := b4.size
 have s6 := c6.size
 have s7 := f7.below.size
 have s8 := c8.size
 have q5 := f5.at_
 have q5' := f5.size
 have q7 := f7.at_
 have q7' := f7.size
 have hB6' : Blk w8 g6 30 [.slice A d.length cap] := hB64.next (f5.below.step (c6.step (f7.below.step c8)))
 have hB11 : Blk w8 g11 39 [.slice none 0 0] := f5.blk.next (c6.step (f7.below.step c8))
 have hB12 : Blk w8 g12 75 [.slice R6 (restsS l ws).length rc6] := f7.blk.next c8
 have q6 : g6 < w4.heap.size := hB64.lt
 have q5g : w.heap.size ≤ g6 := by have := f2.at_; have := f1.below.size; omega
 have hR8 : SL (sliceT evT) (fun k => w5.heap.size ≤ k ∧ k < w6.heap.size) w8 (.slice R6 (restsS l ws).length rc6) (restsS l ws) := hR6.below (f7.below.step c8)
 have hN8 : NetIn (fun k => k < w.heap.size) w8 ⟨vc, vn, vo, .slice A4 N.offs.length c4, vl, vk⟩ N := NetIn.below hN b8
 have hit := places_iter hN8 (fun k hk => by omega) hBN hBT ⟨by omega, by omega⟩
 refine CW.rangeW rfl en69 hit rfl (fun _ => rfl)
  (fun pre M W => Below w.heap.size w W ∧ w8.heap.size ≤ W.heap.size ∧ Blk W g6 30 [.slice A d.length cap] ∧ Blk W g12 75 [.slice R6 (restsS l ws).length rc6] ∧ SL (sliceT evT) (fun k => w5.heap.size ≤ k ∧ k < w6.heap.size) W (.slice R6 (restsS l ws).length rc6) (restsS l ws) ∧ ∃ vf ps, Blk W g11 39 [vf] ∧ RowN sptT W 35 w8.heap.size vf ps ∧ ps.map (·.2) = ((pre.map (·.2)).filter (fun p => canB d (restsS l ws) p.2)).map (·.1) ∧ M = fun k => k = g11 ∨ vf.ownBlock = some k)
  (fun c pre M W => False) (fun k => k = g11) ?_ ?_ ?_ (fun _ _ _ _ _ h _ => h) ?_ ?_ ?_ ?_
 ·rintro k rfl
  refine ⟨by omega, ?_⟩
  rintro (rfl | rfl | h)
  ·omega
  ·omega
  ·omega
 ·rintro k (rfl | rfl | h)
  ·exact hBN.lt
  ·exact hBT.lt
  ·omega
 ·rintro pre M W1 W2 ⟨a1, a2, a3, a4, aR, vf, ps, a5, a6, a7, a8⟩ hx
  exact ⟨(hx.less (by omega)).below a1 (Nat.le_refl _), Nat.le_trans a2 hx.size, a3.ext hx, a4.ext hx, aR.ext hx, vf, ps, a5.ext hx, a6.ext hx, a7, a8⟩
 ·exact ⟨b8, Nat.le_refl _, hB6', hB12, hR8, .slice none 0 0, [], hB11, RowN.nil _ _ _ _, rfl, by funext k; simp [Value.ownBlock]⟩
 ·rintro D L pre ⟨fv, s, K⟩ M W hD hL ⟨a1, a2, a3, a4, aR, vf, ps, a5, a6, a7, rfl⟩ ⟨hp1, hp2, bF, hfm⟩ hMlt hML hMD hrec
  dsimp only at hp1 hp2 hfm
  have hpsl : ps.length ≤ 2000 := by
   have e1 : ps.length = (ps.map (·.2)).length := by simp
   rw [e1, a7, List.length_map]
   have e2 := List.length_filter_le (fun p => canB d (restsS l ws) p.2) (pre.map (·.2))
   have e3 : pre.length < (plsS N t).length := (List.getElem?_eq_some_iff.1 hp2).1
   rw [plsS_len] at e3
   rw [List.length_map] at e2
   omega
  obtain ⟨hKI, hs1, hs2⟩ := hkn _ (List.mem_of_getElem? hp2)
  dsimp only at hKI hs1 hs2
  refine rnT ?_
  refine TW.newVar rfl zc35 rfl sz35 rfl rfl ?_
  rintro g13 w9 f9
  refine rnT ?_
  refine KW.begin (hrec.kept (f9.below.block L hrec.lt)) fun W2 hx2 hsz2 hk2 hrec2 => ?_
  have q13 := f9.at_
  have q13' := f9.size
  have hWW2 : ExtF 0 W W2 := (ExtF.of_below f9.below).trans (hx2.less (Nat.zero_le _))
  have a1' : Below w.heap.size w W2 := (hx2.less (by omega)).below (a1.step f9.below) (Nat.le_refl _)
  have a3' := a3.ext hWW2
  have a4' := a4.ext hWW2
  have aR' := aR.ext hWW2
  have a5' := a5.ext hWW2
  have a6' := a6.ext hWW2
  have hB13 := f9.blk.ext hx2
  have hLW : L < W.heap.size := hrec.lt
  have kW2 : ∀ k, k < W.heap.size → k ≠ L → W2.heap[k]? = W.heap[k]? := fun k h1 h2 => (hk2 k h2).trans (f9.below.block k h1)
  obtain ⟨kf, caps, rfl, hen, hfo⟩ := (hfm.ext hWW2).ok hKI
  refine rnT ?_
  refine TW.ld rfl (a3'.cell 0) ?_
  refine TW.ld rfl (a4'.cell 0) ?_
  refine rnT ?_
  refine TW.cl en38 rfl (can_c (sd_step hd a1') (aR'.wider fun q hq => by omega) hen hfo hKI (rests_len hfw ws)) ?_
  rintro y3 W3 ⟨hb3, rfl⟩
  refine rnT ?_
  refine CW.pk [0, 1, 2, 3, 4, 5, 6, 10, 11, 12, 13, 14, 46, 47, 51] rfl ?_
  have hL2 : L < W2.heap.size := hrec2.lt
  have rec3 : W3.heap[L]? = W2.heap[L]? := hb3.block L hL2
  have s3 := hb3.size
  have a1'' := a1'.step hb3
  have a5'' := a5'.next hb3
  have a6'' := a6'.step hb3
  have hB13' := hB13.next hb3
  have hvlt : ∀ q, vf.ownBlock = some q → w8.heap.size ≤ q ∧ q < W.heap.size := fun q hq => ⟨a6.2.2 q hq, a6.1.lt hq⟩
  have hLv : vf.ownBlock ≠ some L := fun e => hML (.inr e)
  have hDv : vf.ownBlock ≠ some D := fun e => hMD (.inr e)
  have hLg : L ≠ g11 := fun e => hML (.inl e)
  have hDg : D ≠ g11 := fun e => hMD (.inl e)
  have hfs : ∀ (x : PlE), ((pre ++ [x]).map (·.2)).filter (fun p => canB d (restsS l ws) p.2) = (pre.map (·.2)).filter (fun p => canB d (restsS l ws) p.2) ++ if canB d (restsS l ws) x.2.2 then [x.2] else [] := fun x => by
   rw [List.map_append, List.filter_append]
   cases hq : canB d (restsS l ws) x.2.2 <;> simp [List.filter, hq]
  refine CW.cond rfl (fun hyes => ?_) (fun hno => ?_)
  ·refine CW.region ?_
   refine TW.ld rfl (a5''.cell 0) ?_
   refine TW.loadS _ rfl rfl Tryz.underlying35 sz35 rfl ct (fun _ => (fun _ _ hv => hB13'.fld hv)) rfl ?_
   refine TW.buildSlice 35 _ rfl rfl rfl eo39 (Args.cons rfl ct Args.nil) rfl rfl rfl rfl rfl ?_
   rintro g54 w10 f10
   have o10 := a6''.1.below f10.below
   refine TW.append (spV s) rfl rfl go39 rfl o10 rfl rfl (fun j v hj => ⟨⟨g54, 0, none⟩, rfl, f10.blk.fld hj⟩) (fun v hv => by simp [spV] at hv; rcases hv with rfl | rfl <;> rfl) (by omega) (by omega) ?_
   rintro vf' w11 o11 hg11 hn11
   have s10 := f10.below.size
   have s11 := hg11.size
   have b11 : Blk w11 g11 39 [vf] := Blk.keptO (a5''.next f10.below) hg11 (fun e => by have := hvlt _ e; omega)
   obtain ⟨A8, c8, hv8, _⟩ := o11.form
   have h18 : vf'.oneCell' = true := by rw [hv8]; rfl
   refine TW.store1 rfl sz39 rfl rfl (b11.cell 0) (b11.frozen 0) h18 ?_
   refine rnT ?_
   have r11 : RowN sptT w11 35 w8.heap.size vf' (ps ++ [(spV s, s)]) := RowN.app (a6''.step f10.below) o11 hg11 hn11 ⟨rfl, hs1, hs2⟩ (by omega)
   have r12 := r11.setCell (g := g11) (i := 0) (by omega) vf'
   have hnew : ∀ q, vf'.ownBlock = some q → vf.ownBlock = some q ∨ q = w10.heap.size := fun q hq => by
    rcases hn11 with h | h
    ·exact .inl (by rw [← h]; exact hq)
    ·rw [h] at hq; cases hq; exact .inr rfl
   have rec11 : w11.heap[L]? = W2.heap[L]? := (hg11.block L (by omega) (fun e => hLv e.symm)).trans ((f10.below.block L (by omega)).trans rec3)
   have kept11 : ∀ k, k < W.heap.size → ¬ (k = g11 ∨ vf.ownBlock = some k) → k ≠ L → w11.heap[k]? = W.heap[k]? := fun k h1 h2 h3 =>
    (hg11.block k (by omega) (fun e => h2 (.inr e.symm))).trans ((f10.below.block k (by omega)).trans ((hb3.block k (by omega)).trans (kW2 k h1 h3)))
   have hb11 : Below w.heap.size w w11 := (a1''.step f10.below).grown hg11 (a1''.step f10.below).size (fun q hq => by have := hvlt q hq; omega)
   have b6w : Blk w11 g6 30 [.slice A d.length cap] := Blk.keptO ((a3'.next hb3).next f10.below) hg11 (fun e => by have := hvlt _ e; omega)
   have b12w : Blk w11 g12 75 [.slice R6 (restsS l ws).length rc6] := Blk.keptO ((a4'.next hb3).next f10.below) hg11 (fun e => by have := hvlt _ e; omega)
   have aR11 : SL (sliceT evT) (fun k => w5.heap.size ≤ k ∧ k < w6.heap.size) (w11.setCell ⟨g11, 0, none⟩ vf') (.slice R6 (restsS l ws).length rc6) (restsS l ws) := ((aR'.below hb3).below f10.below).mono (Kept.of_blocks fun k hk hlt => (Below.heap_setCell _ _ _ _ (fun e => by have e : k = g11 := e; omega)).trans (hg11.block k hlt (fun e => by have := hvlt k e.symm; omega)))
   refine KW.endN (hrec2.kept ((Below.heap_setCell _ _ _ _ (by show L ≠ g11; exact hLg)).trans rec11)) fun W9 hx9 hsz9 hk9 hrec9 => ?_
   have hs9 : W9.heap.size = w11.heap.size := by rw [hsz9]; simp
   refine ⟨by omega, fun k h1 h2 h3 => (hk9 k h3).trans ((Below.heap_setCell _ _ _ _ (fun e => h2 (.inl e))).trans (kept11 k h1 h2 h3)), fun _ => ⟨fun k => k = g11 ∨ vf'.ownBlock = some k, ⟨⟨(hx9.less (by omega)).below (hb11.setCell (by show w.heap.size ≤ g11; omega) _) (Nat.le_refl _), by omega, (b6w.far (by show g6 ≠ g11; omega) vf').ext hx9, (b12w.far (by show g12 ≠ g11; omega) vf').ext hx9, aR11.ext hx9, vf', _, (b11.set 0 vf').ext hx9, r12.ext hx9, ?_, rfl⟩, ?_, ?_, hrec9⟩, fun k hk => ?_⟩, fun h => by cases h⟩
   ·rw [hfs, List.map_append, List.map_append, a7]
    simp [hyes]
   ·rintro (h | h)
    ·exact hLg h
    ·rcases hnew L h with h | h
     ·exact hLv h
     ·omega
   ·rintro (h | h)
    ·exact hDg h
    ·rcases hnew D h with h | h
     ·exact hDv h
     ·omega
   ·rcases hk with rfl | hk
    ·exact ⟨.inl (.inl rfl), by omega⟩
    ·rcases hnew k hk with h | h
     ·exact ⟨.inl (.inr h), by have := hvlt k h; omega⟩
     ·refine ⟨.inr (by omega), ?_⟩
      have := o11.lt hk
      omega
  ·refine rnT ?_
   refine KW.endN (hrec2.kept rec3) fun W8 hx8 hsz8 hk8 hrec8 => ?_
   refine ⟨by omega, fun k h1 h2 h3 => (hk8 k h3).trans ((hb3.block k (by omega)).trans (kW2 k h1 h3)), fun _ => ⟨fun k => k = g11 ∨ vf.ownBlock = some k, ⟨⟨(hx8.less (by omega)).below a1'' (Nat.le_refl _), by omega, (a3'.next hb3).ext hx8, (a4'.next hb3).ext hx8, (aR'.below hb3).ext hx8, vf, ps, a5''.ext hx8, a6''.ext hx8, ?_, rfl⟩, hML, hMD, hrec8⟩, fun k hk => ?_⟩, fun h => by cases h⟩
   ·rw [hfs, List.map_append, a7]
    simp [hno]
   ·refine ⟨.inl hk, ?_⟩
    rcases hk with rfl | hk
    ·omega
    ·have := hvlt k hk; omega
 ·rintro D xs M W hD hdone ⟨a1, a2, a3, a4, aR, vf, ps, a5, a6, a7, rfl⟩ hMD hdef
  have hdone' : xs.map (·.2) = plsS N t := hdone
  have hDn : D < W.heap.size := (Array.getElem?_eq_some_iff.1 hdef).1
  have hput : ExtF w8.heap.size W (W.putObj D (.deferred none)) := ExtF.putObj hdef rfl hD
  have hBp : Below w.heap.size w (W.putObj D (.deferred none)) := Below.putCtl a1 (by omega)
  refine KW.blockN (KW.then_ ?_)
  refine rnT ?_
  refine TW.ld rfl (a5.cell 0) ?_
  refine rnT ?_
  refine ret1M Tryz.results16 rfl hdef ⟨hBp, ?_⟩
  rw [poss_eq hok]
  unfold spotsS
  rw [← hdone', ← a7]
  exact ((a6.ext hput).sl (by show 0 < 2; omega)).wider fun _ h => h.2
 ·rintro D c pre M W hD h
  exact h.elim
end Go.Proofs.YtnjknkgomhmlfaaGreatDoor
namespace Go.PF
open Go.RowKit
section
variable {P : Program} {N : Nat} {E : Env} {w : World} {fn : Func} {R : Value → World → Prop}
theorem ret2CS {s u : Nat} {t t1 : TypeId} {fs : Array Field} {g : Nat} {cs : List Value} {v : Value} (hres : fn.results = #[.cell s t, .tmp u]) (hu : P.underlying t = some (.struct fs)) (hs : (P.info? t).map (·.size) = some cs.length) (hl : look E s = some (none, .pointer (some ⟨g, 0, none⟩))) (hv : look E u = some (none, v)) (hB : Blk w g t1 cs) (hR : R (.tuple #[.agg cs.toArray, v]) w) :
  KW N [] (bodyPost P fn (fun e w' => ∃ v, e = .returned v ∧ R v w') .ret) E w := fun a ha => by
 refine bodyPost_ret (v := .tuple #[.agg cs.toArray, v]) ?_ ha.defers ⟨_, rfl, hR⟩
 have e : a.tmps.getD s undef = .pointer (some ⟨g, 0, none⟩) := (ha.slots s none _ hl).1 trivial
 have e2 : a.tmps.getD u undef = v := (ha.slots u none _ hv).1 trivial
 simp only [Array.getD_eq_getD_getElem?] at e e2
 simp [results, hres, e, e2, asAddr, run_loadVarS hu hs (fun j v hj => hB.fld hj)]
end
end Go.PF
namespace Go.Proofs.YtnjknkgomhmlfaaGreatDoor
open Go.PF Go.RowKit Go.Ord
attribute [local irreducible] TW CW KW DW
variable {l : List Ev} {ws : List (List Int)} {t o : Int} {w : World} {lv wv : Value}
def certS : List Spt → Spt × Bool
 | [s] => (s, true)
 | _ => ((0, 0), false)
theorem certS_none {l : List Spt} (h : l.length ≠ 1) : certS l = ((0, 0), false) := by
 match l, h with
 | [], _ => rfl
 | [_], h => exact absurd rfl h
 | _ :: _ :: _, _ => rfl
theorem certain_c {v : NV} {N : Net} {dv : Value} {d : Dist} (ht : Tabs w) (hN : NetAt w v N) (hd : SD w dv d) (hl : SE w lv l) (hS : SD w wv ws) (hne : ∀ e ∈ l, e.needs.length ≤ 1000000) :
  Gives Tryz.prog 13 #[.agg v.cells.toArray, dv, lv, wv, .int .i64 t] w fun x w' => Below w.heap.size w w' ∧ x = .tuple #[.agg (spV (certS (possS N d l ws t)).1).toArray, .bool (certS (possS N d l ws t)).2] := by
 refine gv Tryz.func13 Tryz.ntmps13 ?_
 refine rnT ?_
 refine TW.box rfl rfl rfl rfl ?_
 rintro g5 w1 f1
 refine TW.alloc rfl rfl zc35 ?_
 rintro g10 w2 f2
 refine rnT ?_
 refine TW.pk [0, 1, 2, 3, 4, 5, 10, 11] rfl ?_
 have b2 := f1.below.step f2.below
 have hB5 := f1.blk.next f2.below
 refine TW.loadS _ rfl rfl Tryz.underlying29 sz29 rfl ct (fun _ => (fun _ _ hv => hB5.fld hv)) rfl ?_
 refine rnT ?_
 refine TW.cl en16 rfl (possible_c (ht.below b2) (net_step hN b2) (sd_step hd b2) (se_step hl b2) (sd_step hS b2) hne) ?_
 rintro u w3 ⟨c3, h3⟩
 have b3 := b2.step c3
 have hB10 := f2.blk.next c3
 have q10 := f2.at_
 have q1 := f1.below.size
 obtain ⟨A, cap, rfl, _⟩ := h3.form
 obtain ⟨L, hL⟩ : ∃ L, L = possS N d l ws t := ⟨_, rfl⟩
 rw [← hL] at h3 ⊢
 refine rnT ?_
 refine CW.pk [0, 1, 2, 3, 4, 5, 10, 11, 12, 21] rfl ?_
 refine CW.condP rfl (fun hne1 => ?_) (fun he1 => ?_)
 ·refine rnT ?_
  refine TW.build [] _ [.int .i64 0, .int .i64 0] rfl rfl rfl Args.nil (by kernel_rfl) ?_
  refine TW.storeBlkF rfl rfl rfl hB10 sz35 rfl rfl rfl ?_
  rintro w4 hB4 hbut4 hsz4
  refine rnT ?_
  refine ret2CS Tryz.results13 Tryz.underlying35 (by exact sz35) rfl rfl hB4 ⟨b3.grown hbut4 b3.size (fun q hq => by cases hq; omega), ?_⟩
  rw [certS_none (by omega)]
  rfl
 ·obtain ⟨s, rfl⟩ : ∃ s, L = [s] := List.length_eq_one_iff.1 (by omega)
  obtain ⟨ad, rfl⟩ := h3.addr (by simp)
  have hcells := (SPs.get h3 (i := 0) (s := s) rfl).1
  refine rnT ?_
  refine TW.loadS _ rfl rfl Tryz.underlying35 sz35 rfl ct (fun _ => (fun j u hj => hcells j u hj)) rfl ?_
  refine TW.storeBlkF rfl rfl rfl hB10 sz35 rfl rfl rfl ?_
  rintro w4 hB4 hbut4 hsz4
  refine rnT ?_
  refine ret2CS Tryz.results13 Tryz.underlying35 (by exact sz35) rfl rfl hB4 ⟨b3.grown hbut4 b3.size (fun q hq => by cases hq; omega), rfl⟩
theorem reach_c {dv : Value} {d : Dist} {f : Int} (hd : SD w dv d) (hl : SE w lv l) (hS : SD w wv ws) (hne : ∀ e ∈ l, e.needs.length ≤ 1000000) (hI : Knd.OK (.at o f t)) :
  Gives Tryz.prog 18 #[dv, lv, wv, .int .i64 o, .int .i64 f, .int .i64 t] w fun x w' => Below w.heap.size w w' ∧ x = .bool (reachS d l ws o f t) := by
 obtain ⟨A, cap, rfl, hcap⟩ := hd.form
 obtain ⟨B, lcap, rfl, hlcap⟩ := hl.form
 obtain ⟨X, xcap, rfl, _⟩ := hS.form
 refine gv Tryz.func18 Tryz.ntmps18 ?_
 refine rnT ?_
 refine TW.cl en35 rfl (fitting_c hd hl) ?_
 rintro y w1 ⟨b1, rfl⟩
 refine rnT ?_
 refine CW.pk [0, 1, 2, 3, 4, 5, 12, 27] rfl ?_
 refine CW.cond rfl (fun hbad => ?_) (fun hgood => ?_)
 ·refine rnT ?_
  refine ret1 Tryz.results18 rfl (⟨b1, ?_⟩)
  unfold reachS
  cases hf : dec (FitW d l ws.length) with
  | false => rfl
  | true =>
   rw [hf] at hbad
   simp at hbad
   rw [decide_eq_false (by omega)]
   rfl
 have hg : FitW d l ws.length ∧ 0 ≤ o ∧ o < (d.length : Int) := by
  by_cases hf : FitW d l ws.length
  ·rw [dec_pos hf] at hgood
   simp at hgood
   exact ⟨hf, by omega, by omega⟩
  ·rw [dec_neg hf] at hgood
   simp at hgood
 have hwl := hg.1.worlds
 have hll := hg.1.few
 refine rnT ?_
 refine TW.cl en36 rfl (restsOf_c (se_step hl b1) (sd_step hS b1) (by omega) hne (by omega)) ?_
 rintro rv w2 ⟨c2, h2⟩
 refine rnT ?_
 refine TW.cl en43 rfl (visit_c) ?_
 rintro fv w3 ⟨c3, h3⟩
 obtain ⟨kf, caps, rfl, hen, hfo⟩ := h3.ok hI
 have b2 := b1.step c2
 have b3 := b2.step c3
 refine TW.cl en38 rfl (can_c (sd_step hd b3) ((h2.below c3).wider fun q hq => by have := c3.size; omega) hen hfo hI (rests_len hg.1 ws)) ?_
 rintro y4 w4 ⟨c4, rfl⟩
 refine rnT ?_
 refine ret1 Tryz.results18 rfl (⟨b3.step c4, ?_⟩)
 unfold reachS
 rw [dec_pos hg.1, decide_eq_true hg.2]
 rfl
theorem seen_eq : (decide (0 < ws.length) && !(ws.any fun S => decide ((restS (l.filter (isSeen o t)) S).length = 0))) = seenS l ws o t := by
 unfold seenS
 congr 1
 rw [List.not_any_eq_all_not]
 refine bool_ext ?_
 rw [List.all_eq_true, List.all_eq_true]
 refine forall_congr' fun S => forall_congr' fun _ => ?_
 have e : restS (l.filter (isSeen o t)) S = (restS l S).filter (isSeen o t) := by
  unfold restS
  rw [List.filter_filter, List.filter_filter]
  exact List.filter_congr fun x _ => Bool.and_comm _ _
 rw [e]
 constructor
 ·intro h
  have h : ¬ ((restS l S).filter (isSeen o t)).length = 0 := by simpa using h
  obtain ⟨x, hx⟩ := List.exists_mem_of_length_pos (Nat.pos_of_ne_zero h)
  obtain ⟨h1, h2⟩ := List.mem_filter.1 hx
  exact List.any_eq_true.2 ⟨x, h1, h2⟩
 ·intro h
  obtain ⟨x, h1, h2⟩ := List.any_eq_true.1 h
  have := List.length_pos_of_mem (List.mem_filter.2 ⟨h1, h2⟩)
  rw [decide_eq_false (by omega)]
  rfl
theorem seen_c (hl : SE w lv l) (hS : SD w wv ws) (hsm : l.length ≤ 1000000) (hne : ∀ e ∈ l, e.needs.length ≤ 1000000) :
  Gives Tryz.prog 20 #[lv, wv, .int .i64 o, .int .i64 t] w fun x w' => Below w.heap.size w w' ∧ x = .bool (seenS l ws o t) := by
 obtain ⟨B, lcap, rfl, hlcap⟩ := hl.form
 obtain ⟨X, xcap, rfl, _⟩ := hS.form
 refine gv Tryz.func20 Tryz.ntmps20 ?_
 refine rnT ?_
 refine TW.pk [0, 1, 2, 3, 8] rfl ?_
 refine TW.alloc rfl rfl zc31 ?_
 rintro g9 w1 f1
 refine rnT ?_
 refine CW.pk [0, 1, 2, 3, 8, 9, 13, 14, 15] rfl ?_
 have q9 := f1.at_
 have q9' := f1.size
 refine CW.loopS (fun x : Nat × Value × List (List Value × Ev) => [(1, none, .slice X ws.length xcap), (2, none, .int .i64 o), (3, none, .int .i64 t), (9, none, .pointer (some ⟨g9, 0, none⟩)), (13, none, .slice B l.length lcap), (14, none, .int .i64 (l.length : Int)), (15, none, .int .i64 (x.1 : Int))])
  (fun x W => x.1 ≤ l.length ∧ Below w.heap.size w W ∧ w1.heap.size ≤ W.heap.size ∧ Blk W g9 31 [x.2.1] ∧ OwnS W 50 4 x.2.1 x.2.2.length (x.2.2.flatMap (·.1)) ∧ (∀ g, x.2.1.ownBlock = some g → w1.heap.size ≤ g) ∧ x.2.2.map (·.2) = (l.take x.1).filter (isSeen o t) ∧ ∀ p ∈ x.2.2, evT.rep (fun k => k < w.heap.size) w p.1 p.2) (fun x => l.length - x.1)
  (0, .slice none 0 0, []) [1, 2, 3, 9, 13, 14, 15] ⟨Nat.zero_le _, f1.below, Nat.le_refl _, f1.blk, OwnS.nil _ _ _, fun g hg => by simp [Value.ownBlock] at hg, rfl, fun p hp => by cases hp⟩ rfl ?_
 rintro ⟨i, vf, ps⟩ W ⟨hi, hB, hsW, hB9, hO, hob, hmap, hrep⟩
 dsimp only at hi hB9 hO hob hmap hrep
 have hpl : ps.length ≤ l.length := by
  have := congrArg List.length hmap
  simp only [List.length_map] at this
  have h2 := List.length_filter_le (isSeen o t) (l.take i)
  rw [List.length_take] at h2
  omega
 refine rnT ?_
 refine CW.pk [1, 2, 3, 9, 13, 14, 15, 16] rfl ?_
 refine CW.condP rfl (fun hlt => ?_) (fun hge => ?_)
 ·obtain ⟨e, he, hem⟩ := getx (l := l) (k := i) (by omega)
  obtain ⟨ad, rfl⟩ := hl.addr (by omega)
  obtain ⟨nv, hcells0, i1, i2, i3, hn0⟩ := SE.get hl he
  obtain ⟨C, ncap, rfl, _⟩ := hn0.form
  have hcells : ∀ j u, [Value.int .i64 e.office, .int .i64 e.low, .int .i64 e.high, .slice C e.needs.length ncap][j]? = some u → W.cell? ((ad.add ((i : Int).toNat * 4)).add j) = some u := fun j u hj => (hB.cell (block_lt_of_cell (hcells0 j u hj))).trans (hcells0 j u hj)
  have htk : (l.take (i + 1)).filter (isSeen o t) = (l.take i).filter (isSeen o t) ++ if isSeen o t e then [e] else [] := by
   rw [List.take_add_one, he, List.filter_append]
   cases hq : isSeen o t e <;> simp [List.filter, hq]
  refine rnT ?_
  refine TW.loadS _ rfl rfl Tryz.underlying50 sz50 rfl ct (fun _ => hcells) rfl ?_
  refine TW.newVar rfl zc50 rfl sz50 rfl rfl ?_
  rintro g11 w2 f2
  refine rnT ?_
  have hB92 := hB9.next f2.below
  refine TW.ld rfl (f2.blk.fld rfl) ?_
  refine rnT ?_
  refine TW.ld rfl (f2.blk.fld rfl) ?_
  refine rnT ?_
  refine CW.pk [1, 2, 3, 9, 11, 13, 14, 15, 28] rfl ?_
  refine CW.cond rfl (fun hyes => ?_) (fun hno => ?_)
  ·refine CW.region ?_
   refine TW.ld rfl (hB92.cell 0) ?_
   refine TW.loadS _ rfl rfl Tryz.underlying50 sz50 rfl ct (fun _ => (fun _ _ hv => f2.blk.fld hv)) rfl ?_
   refine TW.buildSlice 50 _ rfl rfl rfl eo31 (Args.cons rfl ct Args.nil) rfl rfl rfl rfl rfl ?_
   rintro g3 w3 f3
   have b3 := f2.below.step f3.below
   have hB3 := hB.step b3
   have s3 := b3.size
   refine TW.append [.int .i64 e.office, .int .i64 e.low, .int .i64 e.high, .slice C e.needs.length ncap] rfl rfl go31 rfl (hO.below b3) rfl rfl (fun j v hj => ⟨⟨g3, 0, none⟩, rfl, f3.blk.fld hj⟩) (fun v hv => by simp at hv; rcases hv with rfl | rfl | rfl | rfl <;> rfl) (by omega) (by omega) ?_
   rintro vf' w4 o4 hg4 hn4
   have s4 := hg4.size
   have hB94 : Blk w4 g9 31 [vf] := Blk.keptO (hB9.next b3) hg4 (fun e => by have := hob _ e; omega)
   obtain ⟨A8, c8, hv8, _⟩ := o4.form
   have h18 : vf'.oneCell' = true := by rw [hv8]; rfl
   refine TW.store1 rfl sz31 rfl rfl (hB94.cell 0) (hB94.frozen 0) h18 ?_
   refine rnT ?_
   have hob' : ∀ g, vf'.ownBlock = some g → w1.heap.size ≤ g := fun g hg => by
    rcases hn4 with h | h
    ·exact hob g (by rw [← h]; exact hg)
    ·rw [h] at hg; cases hg; omega
   have hB4 : Below w.heap.size w w4 := hB3.grown hg4 hB3.size (fun q hq => by have := hob q hq; omega)
   refine KW.round (i + 1, vf', ps ++ [([.int .i64 e.office, .int .i64 e.low, .int .i64 e.high, .slice C e.needs.length ncap], e)]) [1, 2, 3, 9, 13, 14, 15] rfl ⟨by show i + 1 ≤ l.length; omega, hB4.setCell (by show w.heap.size ≤ g9; omega) _, by simp; omega, hB94.set 0 vf', ?_, hob', ?_, fun p hp => ?_⟩ (by show l.length - (i + 1) < l.length - i; omega)
   ·show OwnS _ _ 4 vf' (ps ++ [_] : List (List Value × Ev)).length ((ps ++ [_] : List (List Value × Ev)).flatMap fun p => p.1)
    rw [List.flatMap_append, List.length_append]
    have := OwnS.kept o4 (w' := w4.setCell ⟨g9, 0, none⟩ vf') fun q hq => Below.heap_setCell _ _ _ _ (fun e => by have e : q = g9 := e; have := hob' q hq; omega)
    simpa using this
   ·show List.map Prod.snd (ps ++ [_]) = (l.take (i + 1)).filter (isSeen o t)
    rw [List.map_append, hmap, htk]
    have : isSeen o t e = true := by
     unfold isSeen
     simpa [and_comm] using hyes
    rw [this]
    rfl
   ·rcases List.mem_append.1 hp with h | h
    ·exact hrep p h
    ·rw [List.mem_singleton] at h
     subst h
     exact ⟨_, rfl, i1, i2, i3, hn0⟩
  ·refine rnT ?_
   refine KW.round (i + 1, vf, ps) [1, 2, 3, 9, 13, 14, 15] rfl ⟨by show i + 1 ≤ l.length; omega, hB.step f2.below, by have := f2.below.size; omega, hB92, hO.below f2.below, hob, ?_, hrep⟩ (by show l.length - (i + 1) < l.length - i; omega)
   show ps.map (·.2) = (l.take (i + 1)).filter (isSeen o t)
   have : isSeen o t e = false := by
    unfold isSeen
    cases hq : decide (e.office = o ∧ e.high ≤ t) with
    | false => rfl
    | true => exact absurd (by simpa using hq) (by simpa using hno)
   rw [hmap, htk, this]
   simp
 have hie : i = l.length := by omega
 subst hie
 rw [List.take_length] at hmap
 have hth : SE W vf (l.filter (isSeen o t)) := by
  have := OwnS.toSLn (by decide) hB hrep hO rfl (by omega)
  rw [hmap] at this
  exact this.wider fun q hq => hq.elim (fun h => by have := hB.size; omega) (fun h => hO.lt h)
 refine rnT ?_
 refine TW.makeFunc rfl rfl (Args.cons rfl ct Args.nil) ?_
 refine rnT ?_
 refine TW.callF (cap := []) rfl rfl en45 rfl ct (Args.cons rfl id (Args.cons rfl id Args.nil)) (fun _ => someRI_c (sd_step hS hB) en44 (seen1_c hB9 hth (by have := List.length_filter_le (isSeen o t) l; omega) (fun e he => hne e ((List.mem_filter (p := isSeen o t)).1 he).1))) ?_
 rintro w5 c5
 refine rnT ?_
 refine ret1 Tryz.results20 rfl (⟨hB.step c5, ?_⟩)
 rw [← seen_eq]
 simp
end Go.Proofs.YtnjknkgomhmlfaaGreatDoor
namespace Go.Ord
variable {d : Dist}
def pc : Nat → Nat
 | 0 => 0
 | n + 1 => (n + 1) % 2 + pc ((n + 1) / 2)
decreasing_by omega
theorem pc_eq (n : Nat) : pc n = n % 2 + pc (n / 2) := by
 cases n with
 | zero => simp [pc]
 | succ n => rw [pc]
theorem left_consU (u : U) (us : List U) (m : Nat) : left (u :: us) m = (if m.testBit 0 then [] else [u]) ++ left us (m / 2) := by
 unfold left
 rw [List.length_cons, List.range_succ_eq_map, List.filterMap_cons, List.filterMap_map]
 have e : ((fun i => if m.testBit i = true then none else (u :: us)[i]?) ∘ Nat.succ) = fun i => if (m / 2).testBit i = true then none else us[i]? := by
  funext i
  simp [Function.comp, Nat.testBit_succ]
 rw [e]
 by_cases h : m.testBit 0 = true
 ·simp [h]
 ·simp [h]
theorem pc_left : ∀ (us : List U) (m : Nat), m < 2 ^ us.length → pc m + (left us m).length = us.length
 | [], m, h => by
  simp at h
  subst h
  simp [pc, left]
 | u :: us, m, h => by
  have h2 : m / 2 < 2 ^ us.length := by
   rw [List.length_cons, Nat.pow_succ] at h
   omega
  have ih := pc_left us (m / 2) h2
  rw [left_consU, pc_eq, List.length_append, List.length_cons]
  by_cases hb : m.testBit 0 = true
  ·have : m % 2 = 1 := by rw [Nat.testBit_zero] at hb; simpa using hb
   simp [hb]
   omega
  ·have : m % 2 = 0 := by
    rw [Nat.testBit_zero] at hb
    have := Nat.mod_two_eq_zero_or_one m
    simp at hb
    omega
   simp [hb]
   omega
structure RS where
 time : Int
 last : Nat
 set : Nat
 frm : Int
def stOf (us : List U) (s : RS) : St := match us[s.last]? with
 | some u => (some u.exit, s.time + u.span)
 | none => (none, 0)
structure RSOK (d : Dist) (us : List U) (s : RS) : Prop where
 last : s.last < us.length
 bits : s.set < 2 ^ us.length
 way : Way d us s.set (stOf us s) (pc s.set)
 t0 : 0 ≤ s.time
 t1 : s.time ≤ 1000000
 f1 : -1 ≤ s.frm
structure DP (d : Dist) (us : List U) (r b : Nat) (L : List RS) : Prop where
 each : ∀ s ∈ L, RSOK d us s
 key : L.Pairwise fun a c => ¬ (a.set = c.set ∧ a.last = c.last)
 lo : ∀ (i : Nat) s, L[i]? = some s → i < b → pc s.set ≤ r
 hi : ∀ (i : Nat) s, L[i]? = some s → b ≤ i → pc s.set = r + 1
 back : ∀ (i : Nat) s, L[i]? = some s → s.frm < i
def Lat (b : Nat) (L L' : List RS) : Prop := b ≤ L.length ∧ L'.take b = L.take b ∧ ∀ s ∈ L, ∃ s' ∈ L', s'.set = s.set ∧ s'.last = s.last ∧ s'.time ≤ s.time
theorem Lat.refl {b : Nat} {L : List RS} (h : b ≤ L.length) : Lat b L L := ⟨h, rfl, fun s hs => ⟨s, hs, rfl, rfl, Int.le_refl _⟩⟩
theorem Lat.trans {b : Nat} {L L' L'' : List RS} (h : Lat b L L') (h' : Lat b L' L'') : Lat b L L'' := by
 refine ⟨h.1, h'.2.1.trans h.2.1, fun s hs => ?_⟩
 obtain ⟨s', h1, h2, h3, h4⟩ := h.2.2 s hs
 obtain ⟨s'', k1, k2, k3, k4⟩ := h'.2.2 s' h1
 exact ⟨s'', k1, k2.trans h2, k3.trans h3, Int.le_trans k4 h4⟩
def Has (L : List RS) (set last : Nat) (t : Int) : Prop := ∃ s ∈ L, s.set = set ∧ s.last = last ∧ s.time ≤ t
theorem DP.app {us : List U} {r b : Nat} {L : List RS} (h : DP d us r b L) {n : RS} (hn : RSOK d us n) (hr : pc n.set = r + 1) (hf : n.frm < b) (hb : b ≤ L.length) (hno : ∀ (i : Nat) s, L[i]? = some s → b ≤ i → ¬ (s.set = n.set ∧ s.last = n.last)) : DP d us r b (L ++ [n]) ∧ Lat b L (L ++ [n]) := by
 have hat : ∀ (i : Nat) s, (L ++ [n])[i]? = some s → L[i]? = some s ∨ (i = L.length ∧ s = n) := fun i s hs => by
  rcases Nat.lt_trichotomy i L.length with hi | hi | hi
  ·rw [List.getElem?_append_left hi] at hs; exact .inl hs
  ·subst hi; simp at hs; exact .inr ⟨rfl, hs.symm⟩
  ·rw [List.getElem?_eq_none (by simp; omega)] at hs; cases hs
 refine ⟨⟨fun s hs => ?_, ?_, fun i s hs hi => ?_, fun i s hs hi => ?_, fun i s hs => ?_⟩, hb, by rw [List.take_append_of_le_length hb], fun s hs => ⟨s, List.mem_append_left _ hs, rfl, rfl, Int.le_refl _⟩⟩
 ·rcases List.mem_append.1 hs with hs | hs
  ·exact h.each s hs
  ·rw [List.mem_singleton] at hs; subst hs; exact hn
 ·refine List.pairwise_append.2 ⟨h.key, List.pairwise_singleton _ _, fun a ha c hc => ?_⟩
  rw [List.mem_singleton] at hc
  subst hc
  obtain ⟨i, hi⟩ := List.mem_iff_getElem?.1 ha
  by_cases hib : i < b
  ·rintro ⟨e, _⟩
   have := h.lo i a hi hib
   rw [e] at this
   omega
  ·exact hno i a hi (by omega)
 ·rcases hat i s hs with hs | ⟨rfl, rfl⟩
  ·exact h.lo i s hs hi
  ·omega
 ·rcases hat i s hs with hs | ⟨rfl, rfl⟩
  ·exact h.hi i s hs hi
  ·exact hr
 ·rcases hat i s hs with hs | ⟨rfl, rfl⟩
  ·exact h.back i s hs
  ·omega
theorem DP.set {us : List U} {r b : Nat} {L : List RS} (h : DP d us r b L) {n o : RS} {k : Nat} (hk : L[k]? = some o) (hkb : b ≤ k) (hn : RSOK d us n) (hf : n.frm < b) (hb : b ≤ L.length) (h1 : o.set = n.set) (h2 : o.last = n.last) (ht : n.time ≤ o.time) : DP d us r b (L.set k n) ∧ Lat b L (L.set k n) := by
 have hkl := (List.getElem?_eq_some_iff.1 hk).1
 have hke := (List.getElem?_eq_some_iff.1 hk).2
 have hat : ∀ (i : Nat) s, (L.set k n)[i]? = some s → (i ≠ k ∧ L[i]? = some s) ∨ (i = k ∧ s = n) := fun i s hs => by
  by_cases hik : k = i
  ·subst hik
   rw [List.getElem?_set_self hkl] at hs
   exact .inr ⟨rfl, by cases hs; rfl⟩
  ·rw [List.getElem?_set_ne hik] at hs
   exact .inl ⟨fun e => hik e.symm, hs⟩
 have hpc := h.hi k o hk hkb
 refine ⟨⟨fun s hs => ?_, ?_, fun i s hs hi => ?_, fun i s hs hi => ?_, fun i s hs => ?_⟩, hb, ?_, fun s hs => ?_⟩
 ·rcases List.mem_or_eq_of_mem_set hs with hs | hs
  ·exact h.each s hs
  ·subst hs; exact hn
 ·rw [List.pairwise_iff_getElem]
  intro i j hi hj hij
  have hi' := List.getElem?_eq_getElem hi
  have hj' := List.getElem?_eq_getElem hj
  have key : ∀ x y, L[i]? = some x → L[j]? = some y → ¬ (x.set = y.set ∧ x.last = y.last) := fun x y hx hy => by
   obtain ⟨hx1, hx2⟩ := List.getElem?_eq_some_iff.1 hx
   obtain ⟨hy1, hy2⟩ := List.getElem?_eq_some_iff.1 hy
   have := List.pairwise_iff_getElem.1 h.key i j hx1 hy1 hij
   rw [hx2, hy2] at this
   exact this
  rcases hat i _ hi' with ⟨_, hx⟩ | ⟨rfl, hx⟩ <;> rcases hat j _ hj' with ⟨_, hy⟩ | ⟨rfl, hy⟩
  ·exact key _ _ hx hy
  ·rw [hy, ← h1, ← h2]; exact key _ _ hx hk
  ·rw [hx, ← h1, ← h2]; exact key _ _ hk hy
  ·omega
 ·rcases hat i s hs with ⟨_, hs⟩ | ⟨rfl, rfl⟩
  ·exact h.lo i s hs hi
  ·omega
 ·rcases hat i s hs with ⟨_, hs⟩ | ⟨rfl, rfl⟩
  ·exact h.hi i s hs hi
  ·rw [← h1]; exact hpc
 ·rcases hat i s hs with ⟨_, hs⟩ | ⟨rfl, rfl⟩
  ·exact h.back i s hs
  ·omega
 ·exact List.take_set_of_le hkb
 ·obtain ⟨i, hi⟩ := List.mem_iff_getElem?.1 hs
  by_cases hik : k = i
  ·subst hik
   rw [hk] at hi
   cases hi
   exact ⟨n, List.mem_iff_getElem?.2 ⟨k, List.getElem?_set_self hkl⟩, h1.symm, h2.symm, ht⟩
  ·exact ⟨s, List.mem_iff_getElem?.2 ⟨i, by rw [List.getElem?_set_ne hik]; exact hi⟩, rfl, rfl, Int.le_refl _⟩
theorem stOf_eq {us : List U} {s : RS} {u : U} (h : us[s.last]? = some u) : stOf us s = (some u.exit, s.time + u.span) := by
 unfold stOf
 rw [h]
theorem pc_or {us : List U} {m i : Nat} (hi : i < us.length) (hm : m < 2 ^ us.length) (h : m.testBit i = false) : pc (m ||| 1 <<< i) = pc m + 1 ∧ m ||| 1 <<< i < 2 ^ us.length := by
 have h1 := pc_left us m hm
 have hlt : m ||| 1 <<< i < 2 ^ us.length := Nat.or_lt_two_pow hm (by rw [Nat.one_shiftLeft]; exact Nat.pow_lt_pow_right (by decide) hi)
 have h2 := pc_left us _ hlt
 have h3 := (left_cons (m := m) h (List.getElem?_eq_getElem hi)).length_eq
 rw [List.length_cons] at h3
 exact ⟨by omega, hlt⟩
theorem RSOK.next {us : List U} (hw : ∀ u ∈ us, 0 ≤ u.low ∧ u.low ≤ u.high ∧ u.high ≤ 1000000) {s : RS} (h : RSOK d us s) {i : Nat} {u : U} (hu : us[i]? = some u) (hb : s.set.testBit i = false) (hc : CanB d (stOf us s) u) {k : Int} (hk : -1 ≤ k) :
  RSOK d us ⟨beg d (stOf us s) u, i, s.set ||| 1 <<< i, k⟩ ∧ pc (s.set ||| 1 <<< i) = pc s.set + 1 ∧ stOf us ⟨beg d (stOf us s) u, i, s.set ||| 1 <<< i, k⟩ = nxt d (stOf us s) u := by
 have hi := (List.getElem?_eq_some_iff.1 hu).1
 obtain ⟨q1, q2⟩ := pc_or hi h.bits hb
 have e : stOf us ⟨beg d (stOf us s) u, i, s.set ||| 1 <<< i, k⟩ = nxt d (stOf us s) u := stOf_eq hu
 obtain ⟨w1, w2, w3⟩ := hw u (List.mem_of_getElem? hu)
 have hb1 : beg d (stOf us s) u ≤ u.high := by unfold beg; have := hc.2; omega
 have hb0 : u.low ≤ beg d (stOf us s) u := by unfold beg; omega
 refine ⟨⟨hi, q2, ?_, by show 0 ≤ beg d (stOf us s) u; omega, by show beg d (stOf us s) u ≤ 1000000; omega, hk⟩, q1, e⟩
 rw [e]
 show Way d us (s.set ||| 1 <<< i) (nxt d (stOf us s) u) (pc (s.set ||| 1 <<< i))
 rw [q1]
 exact h.way.step hu hb hc
def OpenP (d : Dist) (us : List U) (set : Nat) (s : St) : Prop := ∀ (j : Nat) v, us[j]? = some v → set.testBit j = false → CanB d s v
def GoodR (d : Dist) (us : List U) (r : Nat) (L : List RS) : Prop := ∃ s ∈ L, pc s.set = r ∧ Feas d (stOf us s) (left us s.set)
theorem DP.few {us : List U} {r b : Nat} {L : List RS} (h : DP d us r b L) (hu : us.length ≤ 16) : L.length ≤ 1048576 := by
 have h1 : (L.map fun s => s.set * 16 + s.last).Nodup := by
  rw [List.nodup_iff_pairwise_ne, List.pairwise_map]
  refine List.Pairwise.imp_of_mem ?_ h.key
  intro a c ha hc hk e
  have h1 := (h.each a ha).last
  have h2 := (h.each c hc).last
  apply hk
  omega
 have h2 := few_of_lt 1048576 _ h1 (fun x hx => by
  obtain ⟨s, hs, rfl⟩ := List.mem_map.1 hx
  have h1 := (h.each s hs).last
  have h2 := (h.each s hs).bits
  have h3 : 2 ^ us.length ≤ 2 ^ 16 := Nat.pow_le_pow_right (by decide) hu
  have h4 : (2 : Nat) ^ 16 = 65536 := by decide
  omega)
 simpa using h2
theorem DP.round {us : List U} {r b : Nat} {L : List RS} (h : DP d us r b L) : DP d us (r + 1) L.length L := by
 refine ⟨h.each, h.key, fun i s hs hi => ?_, fun i s hs hi => ?_, h.back⟩
 ·by_cases hb : i < b
  ·have := h.lo i s hs hb; omega
  ·exact Nat.le_of_eq (h.hi i s hs (by omega))
 ·have := (List.getElem?_eq_some_iff.1 hs).1
  omega
def start1 (us : List U) (i : Nat) : RS := ⟨((us[i]?).map (·.low)).getD 0, i, 1 <<< i, -1⟩
def startL (us : List U) (k : Nat) : List RS := (List.range k).map (start1 us)
end Go.Ord
namespace Go.Proofs.YtnjknkgomhmlfaaGreatDoor
open Go.PF Go.RowKit Go.Ord
variable {d : Dist}
def Win (e : Ev) (t : Int) : Prop := 0 ≤ t ∧ t ≤ 1000000 ∧ e.low ≤ t ∧ t ≤ e.high
def Two (d : Dist) (l : List Ev) (ts : List Int) (j i : Nat) : Prop := ∀ a s b t, l[j]? = some a → ts[j]? = some s → l[i]? = some b → ts[i]? = some t → Aft d (a, s) (b, t) ∨ Aft d (b, t) (a, s)
structure HoldsI (d : Dist) (l : List Ev) (ts : List Int) : Prop where
 wf : WfE d l
 len : ts.length = l.length
 win : ∀ (i : Nat) e t, l[i]? = some e → ts[i]? = some t → Win e t
 two : ∀ j i, j < i → Two d l ts j i
theorem HoldsI.n {l : List Ev} {ts : List Int} (h : HoldsI d l ts) : HoldsN d (l.zip ts) := by
 refine ⟨fun x hx => ?_, List.pairwise_iff_getElem.2 fun i j hi hj hij => ?_⟩
 ·obtain ⟨i, hi⟩ := List.mem_iff_getElem?.1 hx
  rw [List.getElem?_zip_eq_some] at hi
  exact h.win i _ _ hi.1 hi.2
 ·have hi' := List.getElem?_eq_getElem hi
  have hj' := List.getElem?_eq_getElem hj
  rw [List.getElem?_zip_eq_some] at hi' hj'
  exact h.two i j hij _ _ _ _ hi'.1 hi'.2 hj'.1 hj'.2
theorem HoldsI.poss {l : List Ev} {ts : List Int} (h : HoldsI d l ts) : Poss d l := ⟨l.zip ts, by rw [List.map_fst_zip]; exact Nat.le_of_eq h.len.symm, h.n⟩
theorem Two.symm {d : Dist} {l : List Ev} {ts : List Int} {j i : Nat} (h : Two d l ts j i) : Two d l ts i j := fun a s b t h1 h2 h3 h4 => (h b t a s h3 h4 h1 h2).symm
def AftO (d : Dist) (a : Nat) (x : Int) (b : Nat) (y : Int) : Prop := at2 d a b ≠ -1 ∧ at2 d a b ≤ y - x
theorem aft_iff {e f : Ev} {x y : Int} : Aft d (e, x) (f, y) ↔ AftO d e.office.toNat x f.office.toNat y := Iff.rfl
end Go.Proofs.YtnjknkgomhmlfaaGreatDoor
namespace Go.Proofs.YtnjknkgomhmlfaaGreatDoor
open Go.PF Go.RowKit Go.Ord
attribute [local irreducible] TW CW KW DW
structure Nd where
 first : Int
 second : Int
 office : Int
 low : Int
 high : Int
 gap : Int
 endo : Int
def Nd.cells (x : Nd) : List Value := [.int .i64 x.first, .int .i64 x.second, .int .i64 x.office, .int .i64 x.low, .int .i64 x.high, .int .i64 x.gap, .int .i64 x.endo]
def Nd.u (x : Nd) : U := ⟨x.low, x.high, x.gap, x.office.toNat, x.endo.toNat⟩
def ndT : Ty Nd where
 n := 7
 rep := fun _ _ cs x => cs = x.cells
 len := fun _ _ _ _ h => by rw [h]; rfl
 mono := fun _ _ _ _ _ _ h => h
 wider := fun _ _ _ _ _ _ h => h
def rsCells (s : RS) : List Value := [.int .i64 s.time, .int .i64 (s.last : Int), .int .i64 (s.set : Int), .int .i64 s.frm]
def rsT : Ty RS where
 n := 4
 rep := fun _ _ cs x => cs = rsCells x
 len := fun _ _ _ _ h => by rw [h]; rfl
 mono := fun _ _ _ _ _ _ h => h
 wider := fun _ _ _ _ _ _ h => h
structure NdOK (d : Dist) (m : Nat) (x : Nd) : Prop where
 o0 : 0 ≤ x.office
 e0 : 0 ≤ x.endo
 g0 : 0 ≤ x.gap
 g1 : x.gap ≤ 1000000
 w0 : 0 ≤ x.low
 w1 : x.low ≤ x.high
 w2 : x.high ≤ 1000000
 uok : UOK d x.u
 f0 : 0 ≤ x.first
 f1 : x.first < m
 s1 : x.second < m
theorem NdOK.o1 {d : Dist} {m : Nat} {x : Nd} (h : NdOK d m x) : x.office.toNat < d.length := h.uok.e1
theorem NdOK.e1 {d : Dist} {m : Nat} {x : Nd} (h : NdOK d m x) : x.endo.toNat < d.length := h.uok.e2
abbrev usOf (ns : List Nd) : List U := ns.map Nd.u
abbrev RL (w : World) (v : Value) (L : List RS) : Prop := OwnS w 186 4 v L.length (L.flatMap rsCells)
theorem RL.sl {w : World} {v : Value} {L : List RS} (h : RL w v L) (hL : L.length ≤ 9223372036854775807) : SL rsT (fun _ => True) w v L := OwnS.toSL (T := rsT) rsCells (fun _ _ => rfl) h (fun _ _ => trivial) hL
def Done (d : Dist) (us : List U) (s : RS) (L : List RS) (i : Nat) : Prop := ∀ (j : Nat) v, j < i → us[j]? = some v → s.set.testBit j = false → CanB d (stOf us s) v → OpenP d us (s.set ||| 1 <<< j) (nxt d (stOf us s) v) → Has L (s.set ||| 1 <<< j) j (beg d (stOf us s) v)
def clipE (e : Ev) : Ev := if e.low > e.high ∨ e.low > 1000000 ∨ e.high < 0 then { e with low := 1, high := 0 } else { e with low := max e.low 0, high := min e.high 1000000 }
def evV (e : Ev) (nv : Value) : List Value := [.int .i64 e.office, .int .i64 e.low, .int .i64 e.high, nv]
def nodeAt (i : Nat) (e : Ev) : Nd := ⟨i, -1, e.office, (clipE e).low, (clipE e).high, 0, e.office⟩
def nodesTo (l : List Ev) (k : Nat) : List Nd := (l.take k).mapIdx nodeAt
abbrev NL (w : World) (v : Value) (ns : List Nd) : Prop := OwnS w 183 7 v ns.length (ns.flatMap Nd.cells)
def nodeJ (n : Nat) (a b : Ev) (g : Int) : Nd := ⟨n, n + 1, a.office, max (clipE a).low ((clipE b).low - g), min (clipE a).high ((clipE b).high - g), g, b.office⟩
structure NodesJ (d : Dist) (rest : List Ev) (a b : Ev) (g : Int) : Prop where
 leg : LegOK d a b g
 wa : lowC a ≤ highC a
 wb : lowC b ≤ highC b
 wj : (nodeJ 0 a b g).low ≤ (nodeJ 0 a b g).high
 each : ∀ e ∈ rest, lowC e ≤ highC e
end Go.Proofs.YtnjknkgomhmlfaaGreatDoor
