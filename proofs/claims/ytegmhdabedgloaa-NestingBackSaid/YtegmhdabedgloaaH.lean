import Derived.Test.YtegmhdabedgloaaG
namespace Go.Proofs.Ytegmhdabedgloaa
open Go.PF Go.RowKit

set_option maxRecDepth 20000 in
theorem rmove_c {F : Nat → Prop} {v : Value} {l : List Box} {w : World} (box place : Int) (hl : SL boxT F w v l) :
    Gives Try.prog 27 #[v, .int .i64 box, .int .i64 place] w (ResB w (moveS l box place)) := by
  obtain ⟨A, cap, rfl, h1, h2, h3⟩ := id hl
  refine gives_of (vs := [.slice A l.length cap, .int .i64 box, .int .i64 place]) [(0, none, _), (1, none, _), (2, none, _)] Try.func27 rfl Try.ntmps27 rfl rfl ?_
  refine CW.seq (CW.region ?_)
  refine TW.assign rfl rfl rfl ct ?_
  refine TW.assign rfl rfl rfl ct ?_
  refine TW.nil (KW.pick [0, 1, 2, 6, 7] [(0, _, _), (1, _, _), (2, _, _), (6, _, _), (7, _, _)] rfl (KW.then_ ?_))
  refine CW.seq (CW.seq (CW.region ?_))
  refine TW.move rfl rfl rfl ct ?_
  refine TW.move rfl rfl rfl ct ?_
  refine TW.callF (cap := []) rfl rfl en48 rfl ct (Args.cons rfl ct (Args.cons rfl ct Args.nil)) (fun _ => rhas_c box hl) ?_
  rintro w1 hb1
  refine TW.not rfl rfl rfl ct ?_
  refine TW.move rfl rfl rfl ct ?_
  refine TW.move rfl rfl rfl ct ?_
  refine TW.lss rfl rfl rfl id rfl ct ?_
  refine TW.pickOr rfl rfl rfl ct rfl pOr0 ?_
  refine TW.move rfl rfl rfl ct ?_
  refine TW.move rfl rfl rfl ct ?_
  refine TW.gtr rfl rfl rfl id rfl ct ?_
  refine TW.pickOr rfl rfl rfl ct rfl pOr0 ?_
  refine TW.nil (KW.pick [0, 1, 2, 6, 7, 21] [(0, _, _), (1, _, _), (2, _, _), (6, _, _), (7, _, _), (21, _, _)] rfl (KW.then_ ?_))
  have hl1 := hl.below hb1
  refine CW.cond rfl (fun hno => ?_) (fun hyes => ?_)
  · refine CW.seq (CW.region ?_)
    refine TW.assign rfl rfl rfl ct ?_
    refine TW.assign rfl rfl rfl ct ?_
    refine TW.nil (KW.pick [0, 1, 2, 6, 7] [(0, _, _), (1, _, _), (2, _, _), (6, _, _), (7, _, _)] rfl (KW.then_ ?_))
    refine CW.ret (KW.thenR ?_)
    refine ret2 Try.results27 rfl rfl (ResB.err ?_ hb1)
    unfold moveS
    rw [if_pos]
    rintro ⟨h1, h2⟩
    rw [dec_pos h1] at hno
    simp at hno
    omega
  · simp only [Bool.or_eq_false_iff, Bool.not_eq_false', decide_eq_false_iff_not] at hyes
    have hx := dec_iff.1 hyes.1.1
    have hpl : 0 ≤ place ∧ place ≤ 11 := by omega
    obtain ⟨i, rfl⟩ : ∃ i : Nat, box = i := ⟨box.toNat, by have := hx.2.1; omega⟩
    have hil : i < l.length := by have := hx.2.2; omega
    have hv := hx.1
    have hfew := hv.few
    obtain ⟨b, hb⟩ : ∃ b, l[i]? = some b := ⟨l[i], List.getElem?_eq_getElem hil⟩
    obtain ⟨ad, rfl, _, hcellb, _⟩ := box_at hl1 hb
    have hput : moveS l i place = if 0 ≤ b.parent then ([], 150) else (moved l i place l.length, 0) := by
      unfold moveS
      rw [if_neg (by simp [hx, hpl])]
      simp [hb]
    refine CW.skip (KW.then_ (CW.seq (CW.seq (CW.region ?_))))
    refine TW.move rfl rfl rfl ct ?_
    refine TW.move rfl rfl rfl ct ?_
    refine TW.indexAddr rfl rfl Try.underlying22 sz28 rfl ct rfl ct (fun _ => by (try dsimp only); omega) ?_
    refine TW.fieldAddr rfl rfl fo28_2 rfl ct ?_
    refine TW.load rfl rfl one3 rfl ct (fun _ => box_cell hl1 hb rfl) ?_
    refine TW.geq rfl rfl rfl ct rfl ct ?_
    refine TW.nil (KW.pick [0, 1, 2, 6, 7, 27] [(0, _, _), (1, _, _), (2, _, _), (6, _, _), (7, _, _), (27, _, _)] rfl (KW.then_ ?_))
    refine CW.condP rfl (fun hpar => ?_) (fun hnp => ?_)
    · refine CW.seq (CW.region ?_)
      refine TW.assign rfl rfl rfl ct ?_
      refine TW.assign rfl rfl rfl ct ?_
      refine TW.nil (KW.pick [0, 1, 2, 6, 7] [(0, _, _), (1, _, _), (2, _, _), (6, _, _), (7, _, _)] rfl (KW.then_ ?_))
      refine CW.ret (KW.thenR ?_)
      refine ret2 Try.results27 rfl rfl (ResB.err ?_ hb1)
      rw [hput, if_pos hpar]
    · refine CW.skip (KW.then_ (CW.seq (CW.region ?_)))
      refine TW.buildSlice0 28 rfl rfl eo22 ?_
      rintro g2 w2 f2
      refine TW.move rfl rfl rfl ct ?_
      have hb2 := hb1.step f2.below
      refine TW.append (l.flatMap boxCells) rfl rfl go22 rfl (OwnS.of_blk (sz := 5) (n := 0) f2.blk rfl (by omega)) rfl (flat_len _ _ _ (boxes_len l)) (SL.cells (T := boxT) boxCells (fun _ _ _ _ h => h.1) (by decide) (hl.below hb2) (boxes_len l)) (boxes_one l) (by omega) (by omega) ?_
      rintro o w3 hown3 hg3 hnew3
      have hge2 : w.heap.size ≤ g2 := by have := f2.at_; have := hb1.size; omega
      have hb3 : Below w.heap.size w w3 := hb2.grown hg3 hb2.size (fun k hk => by simp [Value.ownBlock] at hk; omega)
      have hfr3 := new_own hnew3 (n0 := w.heap.size) (fun k hk => by simp [Value.ownBlock] at hk; omega) hb2.size
      rw [Nat.zero_add, List.nil_append] at hown3
      obtain ⟨A3, cap3, rfl, _, _, hc3⟩ := hown3.form
      have h0 : ∃ u, (l.flatMap boxCells)[i * 5 + 0]? = some u := ⟨_, (flat_at boxCells 5 l (boxes_len l) i 0 l[i] (List.getElem?_eq_getElem hil) (by omega)).trans rfl⟩
      obtain ⟨u, hu⟩ := h0
      obtain ⟨g3, rfl, hg3', _, _⟩ := hc3 _ _ hu
      refine TW.assign rfl rfl rfl ct ?_
      refine TW.nil (KW.pick [0, 1, 2, 6, 7, 8] [(0, _, _), (1, _, _), (2, _, _), (6, _, _), (7, _, _), (8, _, _)] rfl (KW.then_ ?_))
      refine CW.seq (CW.seq (CW.region ?_))
      refine TW.assign rfl rfl rfl ct ?_
      refine TW.nil (KW.pick [0, 1, 2, 6, 7, 8, 9] [(0, _, _), (1, _, _), (2, _, _), (6, _, _), (7, _, _), (8, _, _), (9, _, _)] rfl (KW.then_ ?_))
      refine CW.block ?_
      refine CW.loopS (fun k : Nat => [(0, none, .slice (some ad) l.length cap), (1, none, .int .i64 (i : Int)), (2, none, .int .i64 place), (8, none, .slice (some ⟨g3, 0, none⟩) l.length cap3), (9, none, .int .i64 (k : Int))])
        (fun k W => k ≤ l.length ∧ Below w.heap.size w W ∧ OwnS W 28 5 (.slice (some ⟨g3, 0, none⟩) l.length cap3) l.length ((moved l i place k).flatMap boxCells))
        (fun k => l.length - k) 0 [0, 1, 2, 8, 9] ⟨by omega, hb3, by rw [moved_zero]; exact hown3⟩ rfl ?_
      rintro k W ⟨hk, hbW, hown⟩
      have hlW := hl.below hbW
      refine CW.seq (CW.seq (CW.region ?_))
      refine TW.move rfl rfl rfl ct ?_
      refine TW.move rfl rfl rfl ct ?_
      refine TW.lenSlice rfl rfl Try.underlying22 rfl ct ?_
      refine TW.lss rfl rfl rfl ct rfl ct ?_
      refine TW.nil (KW.pick [0, 1, 2, 8, 9, 34] [(0, _, _), (1, _, _), (2, _, _), (8, _, _), (9, _, _), (34, _, _)] rfl (KW.then_ ?_))
      refine CW.condP rfl (fun hlt => ?_) (fun hge => ?_)
      · have hkl : k < l.length := by omega
        obtain ⟨c, hc⟩ : ∃ c, l[k]? = some c := ⟨l[k], List.getElem?_eq_getElem hkl⟩
        have hkh : BHas l k := ⟨hv, by omega, by omega⟩
        have hroot : rootI l k = (root l k : Int) := by unfold rootI; rw [if_pos hkh]; simp
        refine CW.skip (KW.then_ (CW.seq (CW.block (CW.seq (CW.region ?_)))))
        refine TW.move rfl rfl rfl ct ?_
        refine TW.move rfl rfl rfl ct ?_
        refine TW.callF (cap := []) rfl rfl en30 rfl ct (Args.cons rfl ct (Args.cons rfl ct Args.nil)) (fun _ => rroot_c (k : Int) hlW) ?_
        rintro W1 hb1'
        refine TW.move rfl rfl rfl ct ?_
        refine TW.eql rfl rfl rfl ct rfl ct ?_
        refine TW.nil (KW.pick [0, 1, 2, 8, 9, 41] [(0, _, _), (1, _, _), (2, _, _), (8, _, _), (9, _, _), (41, _, _)] rfl (KW.then_ ?_))
        have hbW1 := hbW.step hb1'
        have hown1 := hown.below hb1'
        refine CW.condP rfl (fun heq => ?_) (fun hne => ?_)
        · have hr : root l k = i := by rw [hroot] at heq; omega
          refine CW.region ?_
          refine TW.move rfl rfl rfl ct ?_
          refine TW.move rfl rfl rfl ct ?_
          refine TW.move rfl rfl rfl ct ?_
          refine TW.indexAddr rfl rfl Try.underlying22 sz28 rfl ct rfl ct (fun _ => by (try dsimp only); omega) ?_
          refine TW.fieldAddr rfl rfl fo28_3 rfl ct ?_
          refine TW.storeOwn1 (i := k) (f := 3) rfl sz3 rfl rfl hown1 hkl (by omega) rfl ?_
          rintro W2 hown2 hg2 hs2
          rw [set_flat boxCells 5 (moved l i place k) (boxes_len _) k 3 c { c with place := place } (.int .i64 place) (by rw [moved_get l i place k k c hc]; simp) (by omega) rfl, ← moved_yes l i place k c hc hr] at hown2
          have hbW2 : Below w.heap.size w W2 := hbW1.grown hg2 hbW1.size (fun k hk => by cases hk; exact hfr3 _ rfl)
          refine TW.nil (KW.pick [0, 1, 2, 8, 9] [(0, _, _), (1, _, _), (2, _, _), (8, _, _), (9, _, _)] rfl (KW.blockN (KW.then_ ?_)))
          refine CW.region ?_
          refine TW.move rfl rfl rfl ct ?_
          refine TW.add rfl rfl rfl ct rfl ct (fun _ => by (try dsimp only); omega) ?_
          refine TW.assign rfl rfl rfl ct ?_
          refine TW.nil (KW.pick [0, 1, 2, 8, 9] [(0, _, _), (1, _, _), (2, _, _), (8, _, _), (9, _, _)] rfl ?_)
          refine KW.round (k + 1) [0, 1, 2, 8, 9] rfl ⟨by omega, hbW2, hown2⟩ (by omega)
        · have hr : root l k ≠ i := by rw [hroot] at hne; omega
          refine CW.skip (KW.blockN (KW.then_ (CW.region ?_)))
          refine TW.move rfl rfl rfl ct ?_
          refine TW.add rfl rfl rfl ct rfl ct (fun _ => by (try dsimp only); omega) ?_
          refine TW.assign rfl rfl rfl ct ?_
          refine TW.nil (KW.pick [0, 1, 2, 8, 9] [(0, _, _), (1, _, _), (2, _, _), (8, _, _), (9, _, _)] rfl ?_)
          refine KW.round (k + 1) [0, 1, 2, 8, 9] rfl ⟨by omega, hbW1, by rw [moved_no l i place k hr]; exact hown1⟩ (by omega)
      · refine CW.exit (KW.thenX (KW.thenX (KW.blockX (KW.then_ (CW.seq (CW.region ?_))))))
        refine TW.move rfl rfl rfl ct ?_
        refine TW.assign rfl rfl rfl ct ?_
        refine TW.assign rfl rfl rfl ct ?_
        refine TW.nil (KW.pick [0, 1, 2, 6, 7, 8, 9] [(0, _, _), (1, _, _), (2, _, _), (6, _, _), (7, _, _), (8, _, _), (9, _, _)] rfl (KW.then_ ?_))
        refine CW.ret ?_
        have hkl : k = l.length := by omega
        subst hkl
        rw [if_neg hnp] at hput
        refine ret2 Try.results27 rfl rfl (⟨_, by rw [hput], ?_, hbW⟩)
        rw [hput]
        exact own_boxes (by rw [moved_len]; exact hown) (moved_R l i place l.length hpl (sl_boxR hl)) (fun g hg => hfr3 g hg) (by rw [moved_len]; omega)

theorem has_c {F F' : Nat → Prop} {v v' : Value} {l : List Box} {is : List Int} {w : World} (hl : SL boxT F w v l) (hi : SL intT F' w v' is) :
    Gives Try.prog 34 #[v, v'] w fun u w' => Below w.heap.size w w' ∧ u = .bool (dec (Valid l ∧ ∀ i ∈ is, 0 ≤ i ∧ i < l.length)) := by
  obtain ⟨A, cap, rfl, h1, h2, h3⟩ := id hl
  obtain ⟨A', cap', rfl, h1', h2', h3'⟩ := id hi
  refine gives_of (vs := [.slice A l.length cap, .slice A' is.length cap']) [(0, none, _), (1, none, _)] Try.func34 rfl Try.ntmps34 rfl rfl ?_
  refine CW.seq (CW.region ?_)
  refine TW.assign rfl rfl rfl ct ?_
  refine TW.nil (KW.pick [0, 1, 4] [(0, _, _), (1, _, _), (4, _, _)] rfl (KW.then_ ?_))
  refine CW.seq (CW.seq (CW.region ?_))
  refine TW.move rfl rfl rfl ct ?_
  refine TW.lenSlice rfl rfl Try.underlying25 rfl ct ?_
  refine TW.move rfl rfl rfl ct ?_
  refine TW.nil (KW.pick [0, 1, 4, 7, 8, 9] [(0, _, _), (1, _, _), (4, _, _), (7, _, _), (8, _, _), (9, _, _)] rfl (KW.then_ ?_))
  refine CW.block ?_
  refine CW.loopS (fun k : Nat => [(0, none, .slice A l.length cap), (7, none, .slice A' is.length cap'), (8, none, .int .i64 (is.length : Int)), (9, none, .int .i64 (k : Int))]) (fun k W => W = w ∧ k ≤ is.length ∧ ∀ (j : Nat) (x : Int), j < k → is[j]? = some x → 0 ≤ x ∧ x < l.length) (fun k => is.length - k) 0 [0, 7, 8, 9] ⟨rfl, by omega, fun j x hj => by omega⟩ rfl ?_
  rintro k W ⟨rfl, hk, hall⟩
  refine CW.seq (CW.region ?_)
  refine TW.lss rfl rfl rfl ct rfl ct ?_
  refine TW.nil (KW.pick [0, 7, 8, 9, 10] [(0, _, _), (7, _, _), (8, _, _), (9, _, _), (10, _, _)] rfl (KW.then_ ?_))
  refine CW.seq ?_
  refine CW.condP rfl (fun hlt => ?_) (fun hge => ?_)
  · obtain ⟨x, hx⟩ : ∃ x, is[k]? = some x := ⟨is[k], List.getElem?_eq_getElem (by omega)⟩
    obtain ⟨a, rfl, hcell, _⟩ := hi.int hx
    refine CW.skip (KW.then_ (CW.seq (CW.block (CW.seq (CW.region ?_)))))
    refine TW.indexAddr rfl rfl Try.underlying25 sz3 rfl ct rfl ct (fun _ => by (try dsimp only); omega) ?_
    refine TW.load rfl rfl one3 rfl ct (fun _ => hcell) ?_
    refine TW.assign rfl rfl rfl ct ?_
    refine TW.nil (KW.pick [0, 6, 7, 8, 9] [(0, _, _), (6, _, _), (7, _, _), (8, _, _), (9, _, _)] rfl (KW.then_ ?_))
    refine CW.seq (CW.region ?_)
    refine TW.move rfl rfl rfl ct ?_
    refine TW.lss rfl rfl rfl ct rfl ct ?_
    refine TW.move rfl rfl rfl ct ?_
    refine TW.move rfl rfl rfl ct ?_
    refine TW.move rfl rfl rfl ct ?_
    refine TW.lenSlice rfl rfl Try.underlying22 rfl id ?_
    refine TW.geq rfl rfl rfl id rfl id ?_
    refine TW.pickOr rfl rfl rfl ct rfl pOr0 ?_
    refine TW.nil (KW.pick [0, 6, 7, 8, 9, 20] [(0, _, _), (6, _, _), (7, _, _), (8, _, _), (9, _, _), (20, _, _)] rfl (KW.then_ ?_))
    refine CW.cond rfl (fun hbad => ?_) (fun hgood => ?_)
    · refine CW.seq (CW.region ?_)
      refine TW.assign rfl rfl rfl ct ?_
      refine TW.nil (KW.pick [0, 4, 6, 7, 8, 9] [(0, _, _), (4, _, _), (6, _, _), (7, _, _), (8, _, _), (9, _, _)] rfl (KW.then_ ?_))
      refine CW.ret (KW.blockR (KW.thenR (KW.thenR (KW.blockR (KW.thenR ?_)))))
      refine ret1 Try.results34 rfl (⟨Below.refl _ _, ?_⟩)
      rw [dec_neg]
      rintro ⟨_, h⟩
      have := h x (List.mem_of_getElem? hx)
      simp only [Bool.or_eq_true, decide_eq_true_eq] at hbad
      omega
    · simp only [Bool.or_eq_false_iff, decide_eq_false_iff_not] at hgood
      refine CW.skip (KW.blockN (KW.then_ (CW.region ?_)))
      refine TW.add rfl rfl rfl ct rfl ct (fun _ => by (try dsimp only); omega) ?_
      refine TW.move rfl rfl rfl ct ?_
      refine TW.nil (KW.pick [0, 6, 7, 8, 9] [(0, _, _), (6, _, _), (7, _, _), (8, _, _), (9, _, _)] rfl ?_)
      refine KW.round (k + 1) [0, 7, 8, 9] rfl ⟨rfl, by omega, fun j y hj hy => ?_⟩ (by omega)
      by_cases h : j = k
      · subst h
        rw [hx] at hy
        simp only [Option.some.injEq] at hy
        subst hy
        omega
      · exact hall j y (by omega) hy
  · refine CW.exit (KW.thenX (KW.thenX (KW.blockX (KW.then_ (CW.seq (CW.region ?_))))))
    refine TW.move rfl rfl rfl ct ?_
    refine TW.callF (cap := []) rfl rfl en28 rfl ct (Args.cons rfl ct Args.nil) (fun _ => valid_c hl) ?_
    rintro w1 hb1
    refine TW.assign rfl rfl rfl ct ?_
    refine TW.nil (KW.pick [0, 4, 7, 8, 9] [(0, _, _), (4, _, _), (7, _, _), (8, _, _), (9, _, _)] rfl (KW.then_ ?_))
    refine CW.ret ?_
    refine ret1 Try.results34 rfl (⟨hb1, ?_⟩)
    congr 1
    apply dec_congr
    refine ⟨fun h => ⟨h, fun x hx => ?_⟩, fun h => h.1⟩
    obtain ⟨j, hj, e⟩ := List.getElem_of_mem hx
    exact hall j x (by omega) (by rw [List.getElem?_eq_getElem hj, e])
end Go.Proofs.Ytegmhdabedgloaa
