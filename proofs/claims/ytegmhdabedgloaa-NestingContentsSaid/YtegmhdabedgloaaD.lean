import Derived.Test.YtegmhdabedgloaaC
namespace Go.Proofs.Ytegmhdabedgloaa
open Go.PF Go.RowKit

theorem rchanged_c {F : Nat → Prop} {v : Value} {l : List Box} {w : World} (i : Nat) (b : Box) (hl : SL boxT F w v l) (hi : i < l.length) (hn : l.length ≤ 200) :
    Gives Try.prog 50 #[v, .int .i64 (i : Int), .agg (boxCells b).toArray] w fun u w' => Below w.heap.size w w' ∧ OwnS w' 28 5 u (l.set i b).length ((l.set i b).flatMap boxCells) ∧ ∀ g, u.ownBlock = some g → w.heap.size ≤ g := by
  obtain ⟨A, cap, rfl, h1, h2, h3⟩ := id hl
  refine gives_of (vs := [.slice A l.length cap, .int .i64 (i : Int), .agg (boxCells b).toArray]) [(0, none, _), (1, none, _), (2, none, _)] Try.func50 rfl Try.ntmps50 rfl rfl ?_
  refine CW.seq (CW.region ?_)
  refine TW.box rfl rfl rfl rfl ?_
  rintro g w1 f1
  refine TW.assign rfl rfl rfl ct ?_
  refine TW.nil (KW.pick [0, 1, 2, 5, 6] [(0, _, _), (1, _, _), (2, _, _), (5, _, _), (6, _, _)] rfl (KW.then_ ?_))
  refine CW.seq (CW.region ?_)
  refine TW.buildSlice0 28 rfl rfl eo22 ?_
  rintro g2 w2 f2
  refine TW.move rfl rfl rfl ct ?_
  have hb2 := f1.below.step f2.below
  refine TW.append (l.flatMap boxCells) rfl rfl go22 rfl (OwnS.of_blk (sz := 5) (n := 0) f2.blk rfl (by omega)) rfl (flat_len _ _ _ (boxes_len l)) (SL.cells (T := boxT) boxCells (fun _ _ _ _ h => h.1) (by decide) (hl.below hb2) (boxes_len l)) (boxes_one l) (by omega) (by omega) ?_
  rintro o w3 hown3 hg3 hnew3
  have hge2 : w.heap.size ≤ g2 := by have := f2.at_; have := f1.below.size; omega
  have hb3 : Below w.heap.size w w3 := hb2.grown hg3 hb2.size (fun k hk => by simp [Value.ownBlock] at hk; omega)
  have hB3 : Blk w3 g 28 (boxCells b) := (hg3.block g (by have := f1.blk.lt; have := f2.below.size; omega) (by simp [Value.ownBlock]; have := f2.at_; have := f1.blk.lt; omega)).trans (f1.blk.next f2.below)
  have hfr3 := new_own hnew3 (n0 := w.heap.size) (fun k hk => by simp [Value.ownBlock] at hk; omega) hb2.size
  rw [Nat.zero_add, List.nil_append] at hown3
  obtain ⟨A3, cap3, rfl, _, _, hc3⟩ := hown3.form
  have h0 : ∃ u, (l.flatMap boxCells)[i * 5 + 0]? = some u := ⟨_, (flat_at boxCells 5 l (boxes_len l) i 0 l[i] (List.getElem?_eq_getElem hi) (by omega)).trans rfl⟩
  obtain ⟨u, hu⟩ := h0
  obtain ⟨g3, rfl, hg3', _, _⟩ := hc3 _ _ hu
  refine TW.assign rfl rfl rfl ct ?_
  refine TW.nil (KW.pick [0, 1, 2, 5, 6, 7] [(0, _, _), (1, _, _), (2, _, _), (5, _, _), (6, _, _), (7, _, _)] rfl (KW.then_ ?_))
  refine CW.seq (CW.region ?_)
  refine TW.move rfl rfl rfl ct ?_
  refine TW.move rfl rfl rfl ct ?_
  refine TW.loadS _ rfl rfl Try.underlying28 sz28 rfl ct (fun _ j v hj => hB3.fld hj) rfl ?_
  refine TW.indexAddr rfl rfl Try.underlying22 sz28 rfl ct rfl ct (fun _ => by (try dsimp only); omega) ?_
  refine TW.storeOwnS (i := i) rfl sz28 rfl rfl hown3 hi rfl rfl rfl ?_
  rintro w4 hown4 hg4 hs4
  rw [splice_flat boxCells 5 l (boxes_len l) i b hi rfl] at hown4
  refine TW.nil (KW.pick [0, 1, 2, 5, 6, 7] [(0, _, _), (1, _, _), (2, _, _), (5, _, _), (6, _, _), (7, _, _)] rfl (KW.then_ ?_))
  refine CW.seq (CW.region ?_)
  refine TW.move rfl rfl rfl ct ?_
  refine TW.assign rfl rfl rfl ct ?_
  refine TW.nil (KW.pick [0, 1, 2, 5, 6, 7] [(0, _, _), (1, _, _), (2, _, _), (5, _, _), (6, _, _), (7, _, _)] rfl (KW.then_ ?_))
  refine CW.ret ?_
  refine ret1 Try.results50 rfl (⟨hb3.grown hg4 hb3.size (fun k hk => by cases hk; exact hfr3 _ rfl), by simpa using hown4, hfr3⟩)

set_option maxRecDepth 20000 in
theorem rput_c {F : Nat → Prop} {v : Value} {l : List Box} {w : World} (box into : Int) (hl : SL boxT F w v l) :
    Gives Try.prog 19 #[v, .int .i64 box, .int .i64 into] w (ResB w (putS l box into)) := by
  obtain ⟨A, cap, rfl, h1, h2, h3⟩ := id hl
  refine gives_of (vs := [.slice A l.length cap, .int .i64 box, .int .i64 into]) [(0, none, _), (1, none, _), (2, none, _)] Try.func19 rfl Try.ntmps19 rfl rfl ?_
  refine CW.seq (CW.region ?_)
  refine TW.assign rfl rfl rfl ct ?_
  refine TW.assign rfl rfl rfl ct ?_
  refine TW.nil (KW.pick [0, 1, 2, 6, 7] [(0, _, _), (1, _, _), (2, _, _), (6, _, _), (7, _, _)] rfl (KW.then_ ?_))
  refine CW.seq (CW.seq (CW.region ?_))
  refine TW.move rfl rfl rfl ct ?_
  refine TW.move rfl rfl rfl ct ?_
  refine TW.callF (cap := []) rfl rfl en48 rfl ct (Args.cons rfl ct (Args.cons rfl ct Args.nil)) (fun _ => rhas_c box hl) ?_
  rintro w1 hb1
  refine TW.not rfl rfl rfl ct ?_
  refine TW.move rfl rfl rfl ct ?_
  refine TW.move rfl rfl rfl ct ?_
  refine TW.move rfl rfl rfl ct ?_
  have hl1 := hl.below hb1
  refine TW.callF (cap := []) rfl rfl en48 rfl ct (Args.cons rfl id (Args.cons rfl id Args.nil)) (fun _ => rhas_c into hl1) ?_
  rintro w2 hb2
  refine TW.not rfl rfl rfl id ?_
  refine TW.pickOr rfl rfl rfl ct rfl pOr0 ?_
  refine TW.nil (KW.pick [0, 1, 2, 6, 7, 19] [(0, _, _), (1, _, _), (2, _, _), (6, _, _), (7, _, _), (19, _, _)] rfl (KW.then_ ?_))
  have hbb2 := hb1.step hb2
  have hl2 := hl.below hbb2
  refine CW.cond rfl (fun hno => ?_) (fun hyes => ?_)
  · refine CW.seq (CW.region ?_)
    refine TW.assign rfl rfl rfl ct ?_
    refine TW.assign rfl rfl rfl ct ?_
    refine TW.nil (KW.pick [0, 1, 2, 6, 7] [(0, _, _), (1, _, _), (2, _, _), (6, _, _), (7, _, _)] rfl (KW.then_ ?_))
    refine CW.ret (KW.thenR ?_)
    refine ret2 Try.results19 rfl rfl (ResB.err ?_ hbb2)
    unfold putS
    rw [if_pos]
    rintro ⟨h1, h2⟩
    rw [dec_pos h1, dec_pos h2] at hno
    cases hno
  · simp only [Bool.or_eq_false_iff, Bool.not_eq_false'] at hyes
    have hx := dec_iff.1 hyes.1
    have hy := dec_iff.1 hyes.2
    obtain ⟨i, rfl⟩ : ∃ i : Nat, box = i := ⟨box.toNat, by have := hx.2.1; omega⟩
    obtain ⟨j, rfl⟩ : ∃ j : Nat, into = j := ⟨into.toNat, by have := hy.2.1; omega⟩
    have hil : i < l.length := by have := hx.2.2; omega
    have hjl : j < l.length := by have := hy.2.2; omega
    have hv := hx.1
    have hfew := hv.few
    obtain ⟨b, hb⟩ : ∃ b, l[i]? = some b := ⟨l[i], List.getElem?_eq_getElem hil⟩
    obtain ⟨c, hc⟩ : ∃ c, l[j]? = some c := ⟨l[j], List.getElem?_eq_getElem hjl⟩
    obtain ⟨ad, rfl, _, hcellb, _⟩ := box_at hl2 hb
    obtain ⟨_, ha2, _, hcellc, _⟩ := box_at hl2 hc
    simp only [Option.some.injEq] at ha2
    subst ha2
    have hput : putS l i j = if 0 ≤ b.parent then ([], 4) else if c.kind ≤ b.kind ∨ c.place ≠ b.place ∨ c.closed = true ∨ locked l j = true then ([], 150) else (l.set i { b with parent := (j : Int) }, 0) := by
      unfold putS
      rw [if_neg (by simp [hx, hy])]
      simp [hb, hc]
    refine CW.skip (KW.then_ (CW.seq (CW.region ?_)))
    refine TW.move rfl rfl rfl ct ?_
    refine TW.move rfl rfl rfl ct ?_
    refine TW.indexAddr rfl rfl Try.underlying22 sz28 rfl ct rfl ct (fun _ => by (try dsimp only); omega) ?_
    refine TW.loadS _ rfl rfl Try.underlying28 sz28 rfl ct (fun _ => hcellb) rfl ?_
    refine TW.newVar rfl zc28 rfl sz28 rfl rfl ?_
    rintro gb w3 f3
    refine TW.nil (KW.pick [0, 1, 2, 6, 7, 8] [(0, _, _), (1, _, _), (2, _, _), (6, _, _), (7, _, _), (8, _, _)] rfl (KW.then_ ?_))
    refine CW.seq (CW.region ?_)
    refine TW.move rfl rfl rfl ct ?_
    refine TW.move rfl rfl rfl ct ?_
    refine TW.indexAddr rfl rfl Try.underlying22 sz28 rfl ct rfl ct (fun _ => by (try dsimp only); omega) ?_
    have hl3 := hl2.below f3.below
    refine TW.loadS _ rfl rfl Try.underlying28 sz28 rfl ct (fun _ k v hk => box_cell hl3 hc hk) rfl ?_
    refine TW.newVar rfl zc28 rfl sz28 rfl rfl ?_
    rintro gc w4 f4
    refine TW.nil (KW.pick [0, 1, 2, 6, 7, 8, 9] [(0, _, _), (1, _, _), (2, _, _), (6, _, _), (7, _, _), (8, _, _), (9, _, _)] rfl (KW.then_ ?_))
    refine CW.seq (CW.seq (CW.region ?_))
    refine TW.fieldAddr rfl rfl fo28_2 rfl ct ?_
    have hbb4 := (hbb2.step f3.below).step f4.below
    have hl4 := hl.below hbb4
    have hB := f3.blk.next f4.below
    have hC := f4.blk
    refine TW.load rfl rfl one3 rfl ct (fun _ => hB.fld rfl) ?_
    refine TW.geq rfl rfl rfl ct rfl ct ?_
    refine TW.nil (KW.pick [0, 1, 2, 6, 7, 8, 9, 30] [(0, _, _), (1, _, _), (2, _, _), (6, _, _), (7, _, _), (8, _, _), (9, _, _), (30, _, _)] rfl (KW.then_ ?_))
    refine CW.condP rfl (fun hpar => ?_) (fun hnp => ?_)
    · refine CW.seq (CW.region ?_)
      refine TW.assign rfl rfl rfl ct ?_
      refine TW.assign rfl rfl rfl ct ?_
      refine TW.nil (KW.pick [0, 1, 2, 6, 7, 8, 9] [(0, _, _), (1, _, _), (2, _, _), (6, _, _), (7, _, _), (8, _, _), (9, _, _)] rfl (KW.then_ ?_))
      refine CW.ret (KW.thenR ?_)
      refine ret2 Try.results19 rfl rfl (ResB.err ?_ hbb4)
      rw [hput, if_pos hpar]
    · refine CW.skip (KW.then_ (CW.seq (CW.seq (CW.region ?_))))
      refine TW.fieldAddr rfl rfl fo28_1 rfl ct ?_
      refine TW.load rfl rfl one3 rfl ct (fun _ => hC.fld rfl) ?_
      refine TW.fieldAddr rfl rfl fo28_1 rfl ct ?_
      refine TW.load rfl rfl one3 rfl ct (fun _ => hB.fld rfl) ?_
      refine TW.leq rfl rfl rfl ct rfl ct ?_
      refine TW.move rfl rfl rfl ct ?_
      refine TW.fieldAddr rfl rfl fo28_3 rfl ct ?_
      refine TW.load rfl rfl one3 rfl id (fun _ => hC.fld rfl) ?_
      refine TW.fieldAddr rfl rfl fo28_3 rfl ct ?_
      refine TW.load rfl rfl one3 rfl id (fun _ => hB.fld rfl) ?_
      refine TW.neq rfl rfl rfl id rfl id ?_
      refine TW.pickOr rfl rfl rfl ct rfl pOr0 ?_
      refine TW.move rfl rfl rfl ct ?_
      refine TW.fieldAddr rfl rfl fo28_4 rfl ct ?_
      refine TW.load rfl rfl one4 rfl id (fun _ => hC.fld rfl) ?_
      refine TW.pickOr rfl rfl rfl ct rfl pOr0 ?_
      refine TW.move rfl rfl rfl ct ?_
      refine TW.move rfl rfl rfl ct ?_
      refine TW.move rfl rfl rfl ct ?_
      refine TW.callF (cap := []) rfl rfl en49 rfl ct (Args.cons rfl id (Args.cons rfl id Args.nil)) (fun _ => rlocked_c j hl4 hv hjl) ?_
      rintro w5 hb5
      refine TW.pickOr rfl rfl rfl ct rfl pOr0 ?_
      refine TW.nil (KW.pick [0, 1, 2, 6, 7, 8, 9, 51] [(0, _, _), (1, _, _), (2, _, _), (6, _, _), (7, _, _), (8, _, _), (9, _, _), (51, _, _)] rfl (KW.then_ ?_))
      have hbb5 := hbb4.step hb5
      have hl5 := hl.below hbb5
      have hB5 := hB.next hb5
      refine CW.cond rfl (fun hbad => ?_) (fun hgood => ?_)
      · refine CW.seq (CW.region ?_)
        refine TW.assign rfl rfl rfl ct ?_
        refine TW.assign rfl rfl rfl ct ?_
        refine TW.nil (KW.pick [0, 1, 2, 6, 7, 8, 9] [(0, _, _), (1, _, _), (2, _, _), (6, _, _), (7, _, _), (8, _, _), (9, _, _)] rfl (KW.then_ ?_))
        refine CW.ret (KW.thenR ?_)
        refine ret2 Try.results19 rfl rfl (ResB.err ?_ hbb5)
        rw [hput, if_neg hnp, if_pos]
        simp only [Bool.or_eq_true, decide_eq_true_eq] at hbad
        rcases hbad with ((h | h) | h) | h
        · exact .inl h
        · exact .inr (.inl h)
        · exact .inr (.inr (.inl h))
        · exact .inr (.inr (.inr h))
      · simp only [Bool.or_eq_false_iff, decide_eq_false_iff_not] at hgood
        refine CW.skip (KW.then_ (CW.seq (CW.region ?_)))
        refine TW.move rfl rfl rfl ct ?_
        refine TW.fieldAddr rfl rfl fo28_2 rfl ct ?_
        refine TW.store1 rfl sz3 rfl rfl (hB5.fld rfl) (by rw [addr0]; exact hB5.frozen _) rfl ?_
        rw [addr0]
        have hB6 := hB5.set 2 (.int .i64 (j : Int))
        have hb6 : Below w.heap.size w (w5.setCell ⟨gb, 2, none⟩ (.int .i64 (j : Int))) := hbb5.setCell (p := ⟨gb, 2, none⟩) (by have := f3.at_; have := hbb2.size; simp; omega) _
        generalize w5.setCell ⟨gb, 2, none⟩ (.int .i64 (j : Int)) = w6 at hB6 hb6
        have hl6 := hl.below hb6
        refine TW.nil (KW.pick [0, 1, 2, 6, 7, 8, 9] [(0, _, _), (1, _, _), (2, _, _), (6, _, _), (7, _, _), (8, _, _), (9, _, _)] rfl (KW.then_ ?_))
        refine CW.seq (CW.region ?_)
        refine TW.move rfl rfl rfl ct ?_
        refine TW.move rfl rfl rfl ct ?_
        refine TW.loadS _ rfl rfl Try.underlying28 sz28 rfl ct (fun _ k v hk => hB6.fld hk) rfl ?_
        refine TW.call0 (cap := []) rfl rfl en50 rfl (Args.cons rfl ct (Args.cons rfl ct (Args.cons rfl ct Args.nil))) (rchanged_c i { b with parent := (j : Int) } hl6 hil (by omega)) ?_
        rintro u w7 ⟨hb7, hown7, hfr7⟩
        refine TW.assign rfl rfl rfl ct ?_
        refine TW.assign rfl rfl rfl ct ?_
        refine TW.nil (KW.pick [0, 1, 2, 6, 7, 8, 9] [(0, _, _), (1, _, _), (2, _, _), (6, _, _), (7, _, _), (8, _, _), (9, _, _)] rfl (KW.then_ ?_))
        refine CW.ret ?_
        refine ret2 Try.results19 rfl rfl (⟨u, ?_, ?_, hb6.step hb7⟩)
        · rw [hput, if_neg hnp, if_neg]
          rintro (h | h | h | h)
          · exact hgood.1.1.1 h
          · exact hgood.1.1.2 h
          · rw [h] at hgood; simp at hgood
          · rw [h] at hgood; simp at hgood
        · rw [hput, if_neg hnp, if_neg]
          · refine own_boxes hown7 (fun x hx => ?_) (fun g hg => Nat.le_trans hb6.size (hfr7 g hg)) (by simp; omega)
            rcases List.mem_or_eq_of_mem_set hx with hx | rfl
            · exact sl_boxR hl x hx
            · have := sl_boxR hl b (List.mem_of_getElem? hb)
              exact ⟨this.1, this.2.1, ⟨by show (-9223372036854775808 : Int) ≤ (j : Int); omega, by show (j : Int) ≤ 9223372036854775807; omega⟩, this.2.2.2⟩
          · rintro (h | h | h | h)
            · exact hgood.1.1.1 h
            · exact hgood.1.1.2 h
            · rw [h] at hgood; simp at hgood
            · rw [h] at hgood; simp at hgood
end Go.Proofs.Ytegmhdabedgloaa
