import Derived.Test.YthldjchogdefjaaDoorF
import Derived.Sort.OwnSorted
namespace Go.Proofs.YthldjchogdefjaaDoor
open Go.PF Go.RowKit

theorem below_putCtl {n D : Nat} {w0 w : World} {o : Obj} (h : Below n w0 w) (hD : n ≤ D) : Below n w0 (w.putObj D o) :=
  ⟨h.os, h.tape, h.output, by simpa [World.putObj] using h.size, fun i hi => (World.putObj_heap_other (by omega)).trans (h.block i hi)⟩

abbrev strV (t : ByteArray) : Value := .string t
def lst (t : ByteArray) : List UInt8 := t.data.toList
def mkB (l : List UInt8) : ByteArray := ⟨l.toArray⟩
theorem mkB_lst (t : ByteArray) : mkB (lst t) = t := by cases t; simp [mkB, lst]
theorem lst_mkB (l : List UInt8) : lst (mkB l) = l := by simp [mkB, lst]
noncomputable def misS (s : ByteArray) : List ByteArray := (((found s).map lst).mergeSort fun x y => decide (x ≤ y)).map mkB

theorem enc_lst (ts : List ByteArray) : ts.map strV = (ts.map lst).map encStr := by
  rw [List.map_map]
  refine List.map_congr_left fun t _ => ?_
  show Value.string t = encStr (lst t)
  conv => lhs; rw [← mkB_lst t]
  rfl
theorem enc_mk (ls : List (List UInt8)) : ls.map encStr = (ls.map mkB).map strV := by
  rw [List.map_map]
  exact List.map_congr_left fun l _ => rfl

theorem sortS_c {w : World} {v : Value} {ts : List ByteArray} (h : OwnS w 9 1 v ts.length (ts.map strV)) (hn : ts.length < 4611686018427387904) :
    Gives Tryd.prog 34 #[v] w fun _ w' => w.grownBy w' v.ownBlock ∧ OwnS w' 9 1 v ts.length ((((ts.map lst).mergeSort fun x y => decide (x ≤ y)).map mkB).map strV) := by
  rcases h.2 with ⟨rfl, h0⟩ | ⟨g, cap, cur, rfl, hg, hh, h1, h2, h3, h4⟩
  · have hx : ts = [] := List.eq_nil_of_length_eq_zero h0
    subst hx
    refine (Tryd.slices_Sort_string_none none 0 w).mono ?_
    rintro e w' ⟨rfl, rfl⟩
    exact ⟨_, rfl, ⟨rfl, rfl, rfl, Nat.le_refl _, fun _ _ _ => rfl⟩, by simpa using OwnS.nil w' _ 1⟩
  · rw [enc_lst] at h4
    have hH := Go.holds_of_block (ss := ts.map lst) hh (by rw [List.length_map]; rw [Nat.mul_one] at h4; exact h4)
    have hlen : (ts.map lst).length = ts.length := by simp
    have key := Tryd.slices_Sort_string g 0 cap (ts.map lst) w hH (Array.getElem?_eq_some_iff.1 hh).1 (by rw [hlen]; exact hn)
    rw [hlen] at key
    refine key.mono ?_
    rintro e w' ⟨rfl, n, os, rfl⟩
    refine ⟨_, rfl, Go.grownBy_sorted _, ?_⟩
    have := Go.ownsRow_sorted (base := 0) (n := n) (os := os) (ts := (ts.map lst).mergeSort fun x y => decide (x ≤ y)) (ss := ts.map lst) (by simp [List.length_mergeSort]) hg hh (by rw [hlen]; exact h1) h2 h3
    rw [hlen, enc_mk] at this
    exact this

/-- the valid ones among these -/
noncomputable def flt (ts : List ByteArray) : List ByteArray := ts.filter fun t => dec (Val t)
theorem flt_snoc (ts : List ByteArray) (t : ByteArray) : flt (ts ++ [t]) = flt ts ++ if dec (Val t) = true then [t] else [] := by
  unfold flt
  rw [List.filter_append]
  cases h : dec (Val t) <;> simp [h]

set_option maxRecDepth 20000 in
theorem misread_c {w : World} (s : ByteArray) (ht : Tabs w) : Gives Tryd.prog 19 #[.string s] w fun u w' => Below w.heap.size w w' ∧ ∃ ts, (¬ Shape s ∧ ts = [] ∨ Shape s ∧ ts = misS s) ∧ OwnS w' 9 1 u ts.length (ts.map strV) ∧ ∀ g, u.ownBlock = some g → w.heap.size ≤ g := by
  refine gives_ofM (vs := [.string s]) [(0, none, _)] Tryd.func19 rfl Tryd.ntmps19 rfl rfl ?_
  refine CW.seq (CW.region ?_)
  refine TW.assign rfl rfl rfl ct ?_
  refine TW.nil (KW.pick [0, 2] [(0, _, _), (2, _, _)] rfl (KW.then_ ?_))
  refine CW.seq (CW.seq (CW.region ?_))
  refine TW.move rfl rfl rfl ct ?_
  refine TW.callF (cap := []) rfl rfl en32 rfl ct (Args.cons rfl ct Args.nil) (fun _ => isShape_c _) ?_
  rintro w1 b1
  refine TW.not rfl rfl rfl ct ?_
  refine TW.nil (KW.pick [0, 2, 7] [(0, _, _), (2, _, _), (7, _, _)] rfl (KW.then_ ?_))
  refine CW.cond rfl (fun hno => ?_) (fun hyes => ?_)
  · refine CW.seq (CW.region ?_)
    refine TW.assign rfl rfl rfl ct ?_
    refine TW.nil (KW.pick [0, 2] [(0, _, _), (2, _, _)] rfl (KW.then_ ?_))
    refine CW.ret (KW.thenR ?_)
    refine ret1M0 Tryd.results19 rfl (⟨b1, [], .inl ⟨(fun h => by rw [dec_pos h] at hno; cases hno), rfl⟩, OwnS.nil _ _ _, fun g hg => by simp [Value.ownBlock] at hg⟩)
  have hsh : Shape s := dec_iff.1 (by simpa using hyes)
  have hs := hsh.size
  refine CW.skip (KW.then_ (CW.seq (CW.region ?_)))
  refine TW.alloc rfl rfl zc30 ?_
  rintro g3 w2 f2
  refine TW.nil (KW.pick [0, 2, 3] [(0, _, _), (2, _, _), (3, _, _)] rfl (KW.then_ ?_))
  refine CW.seq (CW.seq (CW.region ?_))
  refine TW.move rfl rfl rfl ct ?_
  have n3 := f2.at_
  have hb2 := b1.step f2.below
  refine TW.call0 (cap := []) rfl rfl en33 rfl (Args.cons rfl ct Args.nil) (neighbours_c s) ?_
  rintro _ w4 ⟨hb4, g1, rfl, B1, hg1⟩
  refine TW.nil (KW.pick [0, 2, 3, 9] [(0, _, _), (2, _, _), (3, _, _), (9, _, _)] rfl (KW.then_ ?_))
  refine CW.block ?_
  have b04 := hb2.step hb4
  have m3 := f2.blk.lt
  have m1 := B1.lt
  have z1 := b1.size
  have z2 := f2.below.size
  have z4 := hb4.size
  refine CW.range rfl en45 (neighbours_iter s hs g1 B1) rfl (fun _ => rfl)
    (fun pre M W => pre.length ≤ 90 ∧ Below w.heap.size w W ∧ ∃ vf, Blk W g3 30 [vf] ∧ OwnS W 9 1 vf (flt pre).length ((flt pre).map strV) ∧ (∀ g, vf.ownBlock = some g → w4.heap.size ≤ g) ∧ M = fun k => k = g3 ∨ vf.ownBlock = some k)
    (fun c pre M W => False) (fun k => k = g3 ∨ Value.ownBlock (.slice none 0 0) = some k)
    (fun k hk => by
      rcases hk with rfl | hk
      · exact ⟨by omega, fun h => by omega⟩
      · simp [Value.ownBlock] at hk) (fun k hk => hk.2)
    (fun pre M W1 W2 ⟨a0, a1, vf, a2, a3, a4, a5⟩ hx => ⟨a0, (hx.less (by omega)).below a1 (Nat.le_refl _), vf, a2.ext hx, a3.ext hx, a4, a5⟩)
    (fun c pre M W1 W2 h hx => h)
    ⟨by simp, b04, .slice none 0 0, f2.blk.next hb4, by simpa [flt] using OwnS.nil w4 _ 1, fun g hg => by simp [Value.ownBlock] at hg, rfl⟩ ?_ ?_ ?_
  · rintro D L pre p M W hD hL ⟨a0, a1, vf, a2, a3, a4, rfl⟩ ⟨suf, hpos⟩ hMlt hML hMD hrec
    have hlen : (pre ++ [p]).length ≤ 90 := by
      have := congrArg List.length hpos
      have h9 := candsTo_len s 9
      unfold cands at this
      simp at this ⊢
      omega
    refine CW.region ?_
    refine TW.assign rfl rfl rfl ct ?_
    refine TW.nil (KW.pick [0, 2, 3, 4, 10] [(0, _, _), (2, _, _), (3, _, _), (4, _, _), (10, _, _)] rfl ?_)
    refine KW.begin hrec fun W2 hx hsz hk hrec2 => ?_
    have hL2 : L < W2.heap.size := hrec2.lt
    have a1' : Below w.heap.size w W2 := (hx.less (by omega)).below a1 (Nat.le_refl _)
    have a2' := a2.ext hx
    have a3' := a3.ext hx
    have hLg : L ≠ g3 := fun e => hML (.inl e)
    have hLv : ∀ g, vf.ownBlock = some g → g ≠ L := fun g hg e => hML (.inr (by rw [← e]; exact hg))
    have hDg : D ≠ g3 := fun e => hMD (.inl e)
    have hvg : vf.ownBlock ≠ some g3 := fun e => by have := a4 g3 e; omega
    have c3 := a2.lt
    refine CW.block (CW.seq (CW.region ?_))
    refine TW.move rfl rfl rfl ct ?_
    refine TW.callF (cap := []) rfl rfl en16 rfl ct (Args.cons rfl ct Args.nil) (fun _ => valid_c p (ht.below a1')) ?_
    rintro w5 b5
    refine TW.nil (KW.pick [0, 2, 3, 4, 10, 12] [(0, _, _), (2, _, _), (3, _, _), (4, _, _), (10, _, _), (12, _, _)] rfl (KW.then_ ?_))
    have b5' := a1'.step b5
    have hrec5 := hrec2.kept (b5.block L hL2)
    have s5 := b5.size
    have a25 := a2'.next b5
    have a35 := a3'.below b5
    refine CW.cond rfl (fun hin => ?_) (fun hout => ?_)
    · have hfs : flt (pre ++ [p]) = flt pre ++ [p] := by rw [flt_snoc, if_pos hin]
      refine CW.region ?_
      refine TW.load rfl rfl one30 rfl ct (fun _ => a25.cell 0) ?_
      refine TW.move rfl rfl rfl ct ?_
      refine TW.buildSlice 9 _ rfl rfl rfl eo30 (Args.cons rfl ct Args.nil) rfl rfl rfl rfl rfl ?_
      rintro g6 w6 f6
      have s6 := f6.below.size
      have n6 := f6.at_
      have hfl : (flt pre).length ≤ 90 := Nat.le_trans (List.length_filter_le _ _) (by omega)
      refine TW.append [strV p] rfl rfl go30 rfl (a35.below f6.below) rfl rfl (fun j v hj => ⟨⟨g6, 0, none⟩, rfl, f6.blk.fld hj⟩) (fun v hv => by simp at hv; subst hv; rfl) (by omega) (by omega) ?_
      rintro vf' w7 hown7 hg7 hnew7
      have B7 : Blk w7 g3 30 [vf] := (hg7.block g3 (by omega) (fun e => hvg e.symm)).trans (a25.next f6.below)
      have ho7 : vf'.oneCell' = true := by obtain ⟨A, c, h, _⟩ := hown7.form; rw [h]; rfl
      refine TW.store1 rfl sz30 rfl rfl (B7.cell 0) (B7.frozen 0) ho7 ?_
      refine TW.nil (KW.pick [0, 2, 3, 4, 10] [(0, _, _), (2, _, _), (3, _, _), (4, _, _), (10, _, _)] rfl (KW.blockN ?_))
      have s7 := hg7.size
      have hv7 : ∀ g, vf'.ownBlock = some g → w4.heap.size ≤ g ∧ g ≠ g3 ∧ g ≠ L ∧ g ≠ D ∧ g < w7.heap.size := by
        intro g hg
        have hlt := hown7.lt hg
        rcases hnew7 with h | h
        · rw [h] at hg
          exact ⟨a4 g hg, fun e => hvg (by rw [← e]; exact hg), hLv g hg, fun e => hMD (.inr (by rw [← e]; exact hg)), hlt⟩
        · rw [hg] at h; simp at h; omega
      have hbfin : Below w.heap.size w (w7.setCell ⟨g3, 0, none⟩ vf') := by
        refine Below.setCell ?_ (by show w.heap.size ≤ g3; omega) _
        exact grown_below hg7 (b5'.step f6.below) (fun g hg => by have := a4 g hg; omega)
      have hL7 : (w7.setCell ⟨g3, 0, none⟩ vf').heap[L]? = w5.heap[L]? := by
        rw [Below.heap_setCell _ _ _ _ hLg, hg7.block L (by omega) (fun e => hLv L e.symm rfl), f6.below.block L (by omega)]
      refine KW.endN (hrec5.kept hL7) fun W3 hx3 hsz3 hk3 hrec3 => ⟨?_, ?_, fun _ => ⟨fun k => k = g3 ∨ vf'.ownBlock = some k, ⟨⟨hlen, ?_, vf', ?_, ?_, fun g hg => (hv7 g hg).1, rfl⟩, ?_, ?_, hrec3⟩, ?_⟩, (fun h => by cases h)⟩
      · have : (w7.setCell ⟨g3, 0, none⟩ vf').heap.size = w7.heap.size := by simp
        omega
      · intro k hk1 hk2 hk4
        have q1 : k ≠ g3 := fun e => hk2 (.inl e)
        have q2 : some k ≠ vf.ownBlock := fun e => hk2 (.inr e.symm)
        rw [hk3 k hk4, Below.heap_setCell _ _ _ _ q1, hg7.block k (by omega) q2, f6.below.block k (by omega), b5.block k (by omega), hk k hk4]
      · exact (hx3.less (by omega)).below hbfin (Nat.le_refl _)
      · have := (B7.set 0 vf').ext hx3
        simpa using this
      · have h8 : OwnS (w7.setCell ⟨g3, 0, none⟩ vf') 9 1 vf' (flt (pre ++ [p])).length ((flt (pre ++ [p])).map strV) := by
          refine OwnS.kept (w := w7) ?_ (fun g hg => Below.heap_setCell _ _ _ _ (hv7 g hg).2.1)
          rw [hfs]
          simpa using hown7
        exact h8.ext hx3
      · rintro (e | e)
        · exact hLg e
        · exact (hv7 L e).2.2.1 rfl
      · rintro (e | e)
        · exact hDg e
        · exact (hv7 D e).2.2.2.1 rfl
      · have hs8 : (w7.setCell ⟨g3, 0, none⟩ vf').heap.size = w7.heap.size := by simp
        rintro k (rfl | e)
        · exact ⟨.inl (.inl rfl), by omega⟩
        · refine ⟨?_, by have := (hv7 k e).2.2.2.2; omega⟩
          rcases hnew7 with h | h
          · exact .inl (.inr (by rw [← h]; exact e))
          · rw [e] at h; simp at h; exact .inr (by omega)
    · have hfs : flt (pre ++ [p]) = flt pre := by rw [flt_snoc, hout]; simp
      refine CW.skip (KW.blockN ?_)
      refine KW.endN hrec5 fun W3 hx3 hsz3 hk3 hrec3 => ⟨?_, ?_, fun _ => ⟨fun k => k = g3 ∨ vf.ownBlock = some k, ⟨⟨hlen, ?_, vf, ?_, ?_, a4, rfl⟩, hML, hMD, hrec3⟩, ?_⟩, (fun h => by cases h)⟩
      · omega
      · intro k hk1 hk2 hk4
        rw [hk3 k hk4, b5.block k (by omega), hk k hk4]
      · exact (hx3.less (by omega)).below b5' (Nat.le_refl _)
      · exact a25.ext hx3
      · rw [hfs]; exact a35.ext hx3
      · intro k hk
        exact ⟨.inl hk, by have := hMlt k hk; omega⟩
  · rintro D xs M W hD hxs ⟨a0, a1, vf, a2, a3, a4, _⟩ hdef
    have hxs' : xs = cands s := hxs
    have hfl : (flt xs).length ≤ 90 := Nat.le_trans (List.length_filter_le _ _) a0
    refine KW.blockN (KW.then_ ?_)
    refine CW.seq (CW.region ?_)
    refine TW.load rfl rfl one30 rfl ct (fun _ => a2.cell 0) ?_
    refine TW.call0 (cap := []) rfl rfl en34 rfl (Args.cons rfl ct Args.nil) (sortS_c a3 (by omega)) ?_
    rintro _ w6 ⟨hg6, hown6⟩
    have hvg : vf.ownBlock ≠ some g3 := fun e => by have := a4 g3 e; omega
    have hB6 : Blk w6 g3 30 [vf] := (hg6.block g3 a2.lt (fun e => hvg e.symm)).trans a2
    refine TW.nil (KW.pick [0, 2, 3] [(0, _, _), (2, _, _), (3, _, _)] rfl (KW.then_ ?_))
    refine CW.seq (CW.region ?_)
    refine TW.load rfl rfl one30 rfl ct (fun _ => hB6.cell 0) ?_
    refine TW.assign rfl rfl rfl ct ?_
    refine TW.nil (KW.pick [0, 2, 3] [(0, _, _), (2, _, _), (3, _, _)] rfl (KW.then_ ?_))
    refine CW.ret ?_
    have hvD : ∀ g, vf.ownBlock = some g → g ≠ D := by
      intro g hg e
      subst e
      rcases a3.2 with ⟨h, _⟩ | ⟨g', cap, cur, h, _, hh, _⟩
      · rw [h] at hg; simp [Value.ownBlock] at hg
      · rw [h] at hg; simp [Value.ownBlock] at hg; subst hg; rw [hdef] at hh; cases hh
    have hD6 : w6.heap[D]? = some (.deferred (some [])) := (hg6.block D (Array.getElem?_eq_some_iff.1 hdef).1 (fun e => hvD D e.symm rfl)).trans hdef
    have hb6 : Below w.heap.size w w6 := grown_below hg6 a1 (fun g hg => by have := a4 g hg; omega)
    refine ret1M Tryd.results19 rfl hD6 ⟨below_putCtl hb6 (by omega), misS s, .inr ⟨hsh, rfl⟩, ?_, fun g hg => by have := a4 g hg; omega⟩
    have hms : ((((flt xs).map lst).mergeSort fun x y => decide (x ≤ y)).map mkB) = misS s := by rw [hxs']; rfl
    have hml : (misS s).length = (flt xs).length := by rw [← hms]; simp [List.length_mergeSort]
    rw [hms] at hown6
    rw [hml]
    exact hown6.kept fun g hg => World.putObj_heap_other (hvD g hg)
  · rintro D c pre M W hD h hdef
    exact h.elim
end Go.Proofs.YthldjchogdefjaaDoor
