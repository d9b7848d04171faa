import Derived.Test.YtegmhdabedgloaaS
namespace Go.Proofs.Ytegmhdabedgloaa
open Go.PF Go.RowKit

theorem sort_c {w : World} {v : Value} {xs : List Int} (h : OwnS w 3 1 v xs.length (xs.map (Value.int .i64))) (hn : xs.length < 4611686018427387904) :
    Gives Try.prog 62 #[v] w fun _ w' => w.grownBy w' v.ownBlock ∧ OwnS w' 3 1 v xs.length ((xs.mergeSort fun x y => decide (x ≤ y)).map (Value.int .i64)) := by
  rcases h.2 with ⟨rfl, h0⟩ | ⟨g, cap, cur, rfl, hg, hh, h1, h2, h3, h4⟩
  · have hx : xs = [] := List.eq_nil_of_length_eq_zero h0
    subst hx
    refine (Try.slices_Sort_int_none none 0 w).mono ?_
    rintro e w' ⟨rfl, rfl⟩
    exact ⟨_, rfl, ⟨rfl, rfl, rfl, Nat.le_refl _, fun _ _ _ => rfl⟩, by simpa using OwnS.nil w' _ 1⟩
  · have hH := holds_of_blockI (ss := xs) hh (by rw [Nat.mul_one] at h4; exact h4)
    refine (Try.slices_Sort_int g 0 cap xs w hH (Array.getElem?_eq_some_iff.1 hh).1 hn).mono ?_
    rintro e w' ⟨rfl, n, os, rfl⟩
    exact ⟨_, rfl, grownBy_sortedI _, ownsRow_sortedI (by simp [List.length_mergeSort]) hg hh h1 h2 h3⟩

theorem natV_map (xs : List Nat) : xs.map natV = (xs.map fun (k : Nat) => (k : Int)).map (Value.int .i64) := by simp [natV]

set_option maxRecDepth 20000 in
theorem contents_c {F : Nat → Prop} {v : Value} {l : List Box} {w : World} (i : Nat) (hF : ∀ k, F k → k < w.heap.size) (hl : SL boxT F w v l) (hv : Valid l) (hi : i < l.length) :
    Gives Try.prog 35 #[v, .int .i64 (i : Int)] w fun u w' => Below w.heap.size w w' ∧ OwnS w' 3 1 u (inside l i).length ((inside l i).map natV) ∧ ∀ g, u.ownBlock = some g → w.heap.size ≤ g := by
  obtain ⟨A, cap, rfl, h1, h2, h3⟩ := id hl
  refine gives_of (vs := [.slice A l.length cap, .int .i64 (i : Int)]) [(0, none, _), (1, none, _)] Try.func35 rfl Try.ntmps35 rfl rfl ?_
  refine CW.seq (CW.region ?_)
  refine TW.box rfl rfl rfl rfl ?_
  rintro g2 w1 f1
  refine TW.assign rfl rfl rfl ct ?_
  refine TW.nil (KW.pick [0, 1, 2, 4] [(0, _, _), (1, _, _), (2, _, _), (4, _, _)] rfl (KW.then_ ?_))
  refine CW.seq (CW.region ?_)
  refine TW.alloc rfl rfl zc25 ?_
  rintro g5 w2 f2
  refine TW.nil (KW.pick [0, 1, 2, 4, 5] [(0, _, _), (1, _, _), (2, _, _), (4, _, _), (5, _, _)] rfl (KW.then_ ?_))
  refine CW.seq (CW.region ?_)
  refine TW.alloc rfl rfl zc59 ?_
  rintro g6 w3 f3
  refine TW.nil (KW.pick [0, 1, 2, 4, 5, 6] [(0, _, _), (1, _, _), (2, _, _), (4, _, _), (5, _, _), (6, _, _)] rfl (KW.then_ ?_))
  refine CW.seq (CW.region ?_)
  refine TW.makeFunc rfl rfl (Args.cons rfl ct (Args.cons rfl ct (Args.cons rfl ct Args.nil))) ?_
  refine TW.store1 rfl sz59 rfl rfl (f3.blk.cell 0) (f3.blk.frozen 0) rfl ?_
  have n1 := f1.at_
  have n2 := f2.at_
  have n3 := f3.at_
  have s1 := f1.below.size
  have s2 := f2.below.size
  have m1 := f1.blk.lt
  have m2 := f2.blk.lt
  have b3 := (f1.below.step f2.below).step f3.below
  have hV : VS w (.slice A l.length cap) g2 g5 g6 (w3.setCell ⟨g6, 0, none⟩ (visV g2 g5 g6)) [] := by
    refine ⟨b3.setCell (by show w.heap.size ≤ g6; omega) _, ((f1.blk.next f2.below).next f3.below).far (by show g2 ≠ g6; omega) _, f3.blk.set 0 _, .slice none 0 0, (f2.blk.next f3.below).far (by show g5 ≠ g6; omega) _, OwnS.nil _ _ _, fun g hg => by simp [Value.ownBlock] at hg⟩
  show TW _ _ _ _ _ _ _ _ (w3.setCell ⟨g6, 0, none⟩ (visV g2 g5 g6))
  generalize w3.setCell ⟨g6, 0, none⟩ (visV g2 g5 g6) = w4 at hV
  refine TW.nil (KW.pick [0, 1, 2, 4, 5, 6] [(0, _, _), (1, _, _), (2, _, _), (4, _, _), (5, _, _), (6, _, _)] rfl (KW.then_ ?_))
  refine CW.seq (CW.region ?_)
  refine TW.load rfl rfl one59 rfl ct (fun _ => hV.b6.cell 0) ?_
  refine TW.move rfl rfl rfl ct ?_
  obtain ⟨q, hq⟩ : ∃ q, l[i]? = some q := ⟨l[i], List.getElem?_eq_getElem hi⟩
  have hqk : q.kind < (4 : Nat) := by have := (hv.each i q hq).k2; omega
  have hsl := subs_len hv hi
  have hsl' : ([] : List Nat).length + (subs l 4 i).length ≤ 1000000 := by simp only [List.length_nil]; omega
  refine TW.call0 rfl rfl en61 rfl (Args.cons rfl ct Args.nil) (visit_c hF hl hv (by omega) (by omega) (by omega) (by omega) (by omega) 4 i q [] w4 hq hqk hsl' hV) ?_
  rintro _ w5 hV5
  rw [List.nil_append] at hV5
  obtain ⟨vf, hB5, hown5, hofr5⟩ := hV5.b5
  refine TW.nil (KW.pick [0, 1, 2, 4, 5, 6] [(0, _, _), (1, _, _), (2, _, _), (4, _, _), (5, _, _), (6, _, _)] rfl (KW.then_ ?_))
  refine CW.seq (CW.region ?_)
  refine TW.load rfl rfl one25 rfl ct (fun _ => hB5.cell 0) ?_
  rw [natV_map] at hown5
  have hown5' : OwnS w5 3 1 vf ((subs l 4 i).map fun (k : Nat) => (k : Int)).length (((subs l 4 i).map fun (k : Nat) => (k : Int)).map (Value.int .i64)) := by rw [List.length_map]; exact hown5
  have hsl2 : ((subs l 4 i).map fun (k : Nat) => (k : Int)).length < 4611686018427387904 := by rw [List.length_map]; omega
  refine TW.call0 (cap := []) rfl rfl en62 rfl (Args.cons rfl ct Args.nil) (sort_c hown5' hsl2) ?_
  rintro _ w6 ⟨hg6, hown6⟩
  have hB6 : Blk w6 g5 25 [vf] := (hg6.block g5 hB5.lt (fun e => (hofr5 g5 e.symm).2.2.1 rfl)).trans hB5
  refine TW.nil (KW.pick [0, 1, 2, 4, 5, 6] [(0, _, _), (1, _, _), (2, _, _), (4, _, _), (5, _, _), (6, _, _)] rfl (KW.then_ ?_))
  refine CW.seq (CW.region ?_)
  refine TW.load rfl rfl one25 rfl ct (fun _ => hB6.cell 0) ?_
  refine TW.assign rfl rfl rfl ct ?_
  refine TW.nil (KW.pick [0, 1, 2, 4, 5, 6] [(0, _, _), (1, _, _), (2, _, _), (4, _, _), (5, _, _), (6, _, _)] rfl (KW.then_ ?_))
  refine CW.ret ?_
  rw [subs_sorted hv hi, List.length_map, ← natV_map] at hown6
  have hlen := congrArg List.length (subs_sorted hv hi)
  rw [List.length_mergeSort, List.length_map, List.length_map] at hlen
  rw [hlen] at hown6
  refine ret1 Try.results35 rfl (⟨grown_below hg6 hV5.below (fun g hg => (hofr5 g hg).1), hown6, fun g hg => (hofr5 g hg).1⟩)

theorem inside_c {F : Nat → Prop} {v : Value} {l : List Box} {w : World} (box : Int) (hF : ∀ k, F k → k < w.heap.size) (hi1 : I64 box) (hl : SL boxT F w v l) :
    Gives Try.prog 12 #[v, .int .i64 box] w fun u w' => Below w.heap.size w w' ∧ SL intT (fun k => w.heap.size ≤ k) w' u ((insideI l box).map fun (k : Nat) => (k : Int)) := by
  obtain ⟨A, cap, rfl, h1, h2, h3⟩ := id hl
  refine gives_of (vs := [.slice A l.length cap, .int .i64 box]) [(0, none, _), (1, none, _)] Try.func12 rfl Try.ntmps12 rfl rfl ?_
  refine CW.seq (CW.region ?_)
  refine TW.assign rfl rfl rfl ct ?_
  refine TW.nil (KW.pick [0, 1, 4] [(0, _, _), (1, _, _), (4, _, _)] rfl (KW.then_ ?_))
  refine CW.seq (CW.seq (CW.region ?_))
  refine TW.move rfl rfl rfl ct ?_
  refine TW.move rfl rfl rfl ct ?_
  refine TW.buildSlice 3 _ rfl rfl rfl eo25 (Args.cons rfl ct Args.nil) rfl rfl rfl rfl rfl ?_
  rintro gs w0 f0
  refine TW.callF (cap := []) rfl rfl en34 rfl ct (Args.cons rfl ct (Args.cons rfl ct Args.nil)) (fun _ => has_c (hl.below f0.below) (lies_ints (is := [box]) ⟨gs, rfl, f0.blk⟩ (by simpa using hi1) (by simp))) ?_
  rintro w1 hb1
  refine TW.not rfl rfl rfl ct ?_
  refine TW.nil (KW.pick [0, 1, 4, 9] [(0, _, _), (1, _, _), (4, _, _), (9, _, _)] rfl (KW.then_ ?_))
  have hbb1 := f0.below.step hb1
  rw [bhas_dec] at *
  refine CW.cond rfl (fun hno => ?_) (fun hyes => ?_)
  · refine CW.seq (CW.region ?_)
    refine TW.assign rfl rfl rfl ct ?_
    refine TW.nil (KW.pick [0, 1, 4] [(0, _, _), (1, _, _), (4, _, _)] rfl (KW.then_ ?_))
    refine CW.ret (KW.thenR ?_)
    have : insideI l box = [] := by
      unfold insideI
      rw [if_neg]
      intro h
      rw [dec_pos h] at hno
      cases hno
    rw [this]
    refine ret1 Try.results12 rfl (⟨hbb1, SL.nil _ _ _⟩)
  · have hx : BHas l box := dec_iff.1 (by simpa using hyes)
    obtain ⟨i, rfl⟩ : ∃ i : Nat, box = i := ⟨box.toNat, by have := hx.2.1; omega⟩
    have hi : i < l.length := by have := hx.2.2; omega
    have hv := hx.1
    have hins : insideI l i = inside l i := by unfold insideI; rw [if_pos hx]; simp
    have hFw : ∀ k, F k → k < w1.heap.size := fun k hk => by have := hF k hk; have := hbb1.size; omega
    have hle : (inside l i).length ≤ l.length := by
      have : (inside l i).length ≤ (List.range l.length).length := List.length_filter_le _ _
      simpa using this
    refine CW.skip (KW.then_ (CW.seq (CW.region ?_)))
    refine TW.move rfl rfl rfl ct ?_
    refine TW.move rfl rfl rfl ct ?_
    refine TW.call0 (cap := []) rfl rfl en35 rfl (Args.cons rfl ct (Args.cons rfl ct Args.nil)) (contents_c i hFw (hl.below hbb1) hv hi) ?_
    rintro u w2 ⟨hb2, hown, hfr⟩
    refine TW.assign rfl rfl rfl ct ?_
    refine TW.nil (KW.pick [0, 1, 4] [(0, _, _), (1, _, _), (4, _, _)] rfl (KW.then_ ?_))
    refine CW.ret ?_
    rw [hins]
    refine ret1 Try.results12 rfl (⟨hbb1.step hb2, own_nats hown (fun x hx => ?_) (fun g hg => ?_) (by omega)⟩)
    · simp [inside] at hx; omega
    · have := hfr g hg; have := hbb1.size; omega
end Go.Proofs.Ytegmhdabedgloaa
