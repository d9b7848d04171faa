import Derived.Test.YtegmhdabedgloaaD
namespace Go.Proofs.Ytegmhdabedgloaa
open Go.PF Go.RowKit

set_option maxRecDepth 20000 in
theorem rtake_c {F : Nat → Prop} {v : Value} {l : List Box} {w : World} (box : Int) (hl : SL boxT F w v l) :
    Gives Try.prog 22 #[v, .int .i64 box] w (ResB w (takeS l box)) := by
  obtain ⟨A, cap, rfl, h1, h2, h3⟩ := id hl
  refine gives_of (vs := [.slice A l.length cap, .int .i64 box]) [(0, none, _), (1, none, _)] Try.func22 rfl Try.ntmps22 rfl rfl ?_
  refine CW.seq (CW.region ?_)
  refine TW.assign rfl rfl rfl ct ?_
  refine TW.assign rfl rfl rfl ct ?_
  refine TW.nil (KW.pick [0, 1, 4, 5] [(0, _, _), (1, _, _), (4, _, _), (5, _, _)] rfl (KW.then_ ?_))
  refine CW.seq (CW.seq (CW.region ?_))
  refine TW.move rfl rfl rfl ct ?_
  refine TW.move rfl rfl rfl ct ?_
  refine TW.callF (cap := []) rfl rfl en48 rfl ct (Args.cons rfl ct (Args.cons rfl ct Args.nil)) (fun _ => rhas_c box hl) ?_
  rintro w2 hbb2
  refine TW.not rfl rfl rfl ct ?_
  refine TW.nil (KW.pick [0, 1, 4, 5, 10] [(0, _, _), (1, _, _), (4, _, _), (5, _, _), (10, _, _)] rfl (KW.then_ ?_))
  have hl2 := hl.below hbb2
  refine CW.cond rfl (fun hno => ?_) (fun hyes => ?_)
  · refine CW.seq (CW.region ?_)
    refine TW.assign rfl rfl rfl ct ?_
    refine TW.assign rfl rfl rfl ct ?_
    refine TW.nil (KW.pick [0, 1, 4, 5] [(0, _, _), (1, _, _), (4, _, _), (5, _, _)] rfl (KW.then_ ?_))
    refine CW.ret (KW.thenR ?_)
    refine ret2 Try.results22 rfl rfl (ResB.err ?_ hbb2)
    unfold takeS
    rw [if_pos]
    intro h1
    rw [dec_pos h1] at hno
    cases hno
  · have hx := dec_iff.1 (by simpa using hyes)
    obtain ⟨i, rfl⟩ : ∃ i : Nat, box = i := ⟨box.toNat, by have := hx.2.1; omega⟩
    have hil : i < l.length := by have := hx.2.2; omega
    have hv := hx.1
    have hfew := hv.few
    obtain ⟨b, hb⟩ : ∃ b, l[i]? = some b := ⟨l[i], List.getElem?_eq_getElem hil⟩
    obtain ⟨ad, rfl, _, hcellb, _⟩ := box_at hl2 hb
    have hput : takeS l i = if b.parent < 0 then ([], 3) else if locked l i = true then ([], 150) else (l.set i { b with parent := -1 }, 0) := by
      unfold takeS
      rw [if_neg (by simp [hx])]
      simp [hb]
    refine CW.skip (KW.then_ (CW.seq (CW.region ?_)))
    refine TW.move rfl rfl rfl ct ?_
    refine TW.move rfl rfl rfl ct ?_
    refine TW.indexAddr rfl rfl Try.underlying22 sz28 rfl ct rfl ct (fun _ => by (try dsimp only); omega) ?_
    refine TW.loadS _ rfl rfl Try.underlying28 sz28 rfl ct (fun _ => hcellb) rfl ?_
    refine TW.newVar rfl zc28 rfl sz28 rfl rfl ?_
    rintro gb w3 f3
    refine TW.nil (KW.pick [0, 1, 4, 5, 6] [(0, _, _), (1, _, _), (4, _, _), (5, _, _), (6, _, _)] rfl (KW.then_ ?_))
    refine CW.seq (CW.seq (CW.region ?_))
    refine TW.fieldAddr rfl rfl fo28_2 rfl ct ?_
    have hbb3 := hbb2.step f3.below
    have hl3 := hl.below hbb3
    have hB := f3.blk
    refine TW.load rfl rfl one3 rfl ct (fun _ => hB.fld rfl) ?_
    refine TW.lss rfl rfl rfl ct rfl ct ?_
    refine TW.nil (KW.pick [0, 1, 4, 5, 6, 17] [(0, _, _), (1, _, _), (4, _, _), (5, _, _), (6, _, _), (17, _, _)] rfl (KW.then_ ?_))
    refine CW.condP rfl (fun hpar => ?_) (fun hnp => ?_)
    · refine CW.seq (CW.region ?_)
      refine TW.assign rfl rfl rfl ct ?_
      refine TW.assign rfl rfl rfl ct ?_
      refine TW.nil (KW.pick [0, 1, 4, 5, 6] [(0, _, _), (1, _, _), (4, _, _), (5, _, _), (6, _, _)] rfl (KW.then_ ?_))
      refine CW.ret (KW.thenR ?_)
      refine ret2 Try.results22 rfl rfl (ResB.err ?_ hbb3)
      rw [hput, if_pos hpar]
    · refine CW.skip (KW.then_ (CW.seq (CW.seq (CW.region ?_))))
      refine TW.move rfl rfl rfl ct ?_
      refine TW.move rfl rfl rfl ct ?_
      refine TW.callF (cap := []) rfl rfl en49 rfl ct (Args.cons rfl ct (Args.cons rfl ct Args.nil)) (fun _ => rlocked_c i hl3 hv hil) ?_
      rintro w5 hb5
      refine TW.nil (KW.pick [0, 1, 4, 5, 6, 20] [(0, _, _), (1, _, _), (4, _, _), (5, _, _), (6, _, _), (20, _, _)] rfl (KW.then_ ?_))
      have hbb5 := hbb3.step hb5
      have hB5 := hB.next hb5
      refine CW.cond rfl (fun hbad => ?_) (fun hgood => ?_)
      · refine CW.seq (CW.region ?_)
        refine TW.assign rfl rfl rfl ct ?_
        refine TW.assign rfl rfl rfl ct ?_
        refine TW.nil (KW.pick [0, 1, 4, 5, 6] [(0, _, _), (1, _, _), (4, _, _), (5, _, _), (6, _, _)] rfl (KW.then_ ?_))
        refine CW.ret (KW.thenR ?_)
        refine ret2 Try.results22 rfl rfl (ResB.err ?_ hbb5)
        rw [hput, if_neg hnp, if_pos hbad]
      · refine CW.skip (KW.then_ (CW.seq (CW.region ?_)))
        refine TW.fieldAddr rfl rfl fo28_2 rfl ct ?_
        refine TW.store1 rfl sz3 rfl rfl (hB5.fld rfl) (by rw [addr0]; exact hB5.frozen _) rfl ?_
        rw [addr0]
        have hB6 := hB5.set 2 (.int .i64 (-1))
        have hb6 : Below w.heap.size w (w5.setCell ⟨gb, 2, none⟩ (.int .i64 (-1))) := hbb5.setCell (p := ⟨gb, 2, none⟩) (by have := f3.at_; have := hbb2.size; simp; omega) _
        generalize w5.setCell ⟨gb, 2, none⟩ (.int .i64 (-1)) = w6 at hB6 hb6
        have hl6 := hl.below hb6
        refine TW.nil (KW.pick [0, 1, 4, 5, 6] [(0, _, _), (1, _, _), (4, _, _), (5, _, _), (6, _, _)] rfl (KW.then_ ?_))
        refine CW.seq (CW.region ?_)
        refine TW.move rfl rfl rfl ct ?_
        refine TW.move rfl rfl rfl ct ?_
        refine TW.loadS _ rfl rfl Try.underlying28 sz28 rfl ct (fun _ k v hk => hB6.fld hk) rfl ?_
        refine TW.call0 (cap := []) rfl rfl en50 rfl (Args.cons rfl ct (Args.cons rfl ct (Args.cons rfl ct Args.nil))) (rchanged_c i { b with parent := -1 } hl6 hil (by omega)) ?_
        rintro u w7 ⟨hb7, hown7, hfr7⟩
        refine TW.assign rfl rfl rfl ct ?_
        refine TW.assign rfl rfl rfl ct ?_
        refine TW.nil (KW.pick [0, 1, 4, 5, 6] [(0, _, _), (1, _, _), (4, _, _), (5, _, _), (6, _, _)] rfl (KW.then_ ?_))
        refine CW.ret ?_
        rw [if_neg hnp, if_neg (by simp [hgood])] at hput
        refine ret2 Try.results22 rfl rfl (⟨u, by rw [hput], ?_, hb6.step hb7⟩)
        rw [hput]
        refine own_boxes hown7 (fun x hx => ?_) (fun g hg => Nat.le_trans hb6.size (hfr7 g hg)) (by simp; omega)
        rcases List.mem_or_eq_of_mem_set hx with hx | rfl
        · exact sl_boxR hl x hx
        · have := sl_boxR hl b (List.mem_of_getElem? hb)
          exact ⟨this.1, this.2.1, ⟨by show (-9223372036854775808 : Int) ≤ -1; omega, by show (-1 : Int) ≤ 9223372036854775807; omega⟩, this.2.2.2⟩

set_option maxRecDepth 20000 in
theorem rclose_c {F : Nat → Prop} {v : Value} {l : List Box} {w : World} (box : Int) (hl : SL boxT F w v l) :
    Gives Try.prog 24 #[v, .int .i64 box] w (ResB w (closeS l box)) := by
  obtain ⟨A, cap, rfl, h1, h2, h3⟩ := id hl
  refine gives_of (vs := [.slice A l.length cap, .int .i64 box]) [(0, none, _), (1, none, _)] Try.func24 rfl Try.ntmps24 rfl rfl ?_
  refine CW.seq (CW.region ?_)
  refine TW.assign rfl rfl rfl ct ?_
  refine TW.assign rfl rfl rfl ct ?_
  refine TW.nil (KW.pick [0, 1, 4, 5] [(0, _, _), (1, _, _), (4, _, _), (5, _, _)] rfl (KW.then_ ?_))
  refine CW.seq (CW.seq (CW.region ?_))
  refine TW.move rfl rfl rfl ct ?_
  refine TW.move rfl rfl rfl ct ?_
  refine TW.callF (cap := []) rfl rfl en48 rfl ct (Args.cons rfl ct (Args.cons rfl ct Args.nil)) (fun _ => rhas_c box hl) ?_
  rintro w2 hbb2
  refine TW.not rfl rfl rfl ct ?_
  refine TW.nil (KW.pick [0, 1, 4, 5, 10] [(0, _, _), (1, _, _), (4, _, _), (5, _, _), (10, _, _)] rfl (KW.then_ ?_))
  have hl2 := hl.below hbb2
  refine CW.cond rfl (fun hno => ?_) (fun hyes => ?_)
  · refine CW.seq (CW.region ?_)
    refine TW.assign rfl rfl rfl ct ?_
    refine TW.assign rfl rfl rfl ct ?_
    refine TW.nil (KW.pick [0, 1, 4, 5] [(0, _, _), (1, _, _), (4, _, _), (5, _, _)] rfl (KW.then_ ?_))
    refine CW.ret (KW.thenR ?_)
    refine ret2 Try.results24 rfl rfl (ResB.err ?_ hbb2)
    unfold closeS
    rw [if_pos]
    intro h1
    rw [dec_pos h1] at hno
    cases hno
  · have hx := dec_iff.1 (by simpa using hyes)
    obtain ⟨i, rfl⟩ : ∃ i : Nat, box = i := ⟨box.toNat, by have := hx.2.1; omega⟩
    have hil : i < l.length := by have := hx.2.2; omega
    have hv := hx.1
    have hfew := hv.few
    obtain ⟨b, hb⟩ : ∃ b, l[i]? = some b := ⟨l[i], List.getElem?_eq_getElem hil⟩
    obtain ⟨ad, rfl, _, hcellb, _⟩ := box_at hl2 hb
    have hput : closeS l i = if b.kind = 0 ∨ locked l i = true then ([], 150) else if b.closed = true then ([], 4) else (l.set i { b with closed := true }, 0) := by
      unfold closeS
      rw [if_neg (by simp [hx])]
      simp [hb]
    refine CW.skip (KW.then_ (CW.seq (CW.region ?_)))
    refine TW.move rfl rfl rfl ct ?_
    refine TW.move rfl rfl rfl ct ?_
    refine TW.indexAddr rfl rfl Try.underlying22 sz28 rfl ct rfl ct (fun _ => by (try dsimp only); omega) ?_
    refine TW.loadS _ rfl rfl Try.underlying28 sz28 rfl ct (fun _ => hcellb) rfl ?_
    refine TW.newVar rfl zc28 rfl sz28 rfl rfl ?_
    rintro gb w3 f3
    refine TW.nil (KW.pick [0, 1, 4, 5, 6] [(0, _, _), (1, _, _), (4, _, _), (5, _, _), (6, _, _)] rfl (KW.then_ ?_))
    refine CW.seq (CW.seq (CW.region ?_))
    refine TW.fieldAddr rfl rfl fo28_1 rfl ct ?_
    have hbb3 := hbb2.step f3.below
    have hl3 := hl.below hbb3
    have hB := f3.blk
    refine TW.load rfl rfl one3 rfl ct (fun _ => hB.fld rfl) ?_
    refine TW.eql rfl rfl rfl ct rfl ct ?_
    refine TW.move rfl rfl rfl ct ?_
    refine TW.move rfl rfl rfl ct ?_
    refine TW.move rfl rfl rfl ct ?_
    refine TW.callF (cap := []) rfl rfl en49 rfl ct (Args.cons rfl id (Args.cons rfl id Args.nil)) (fun _ => rlocked_c i hl3 hv hil) ?_
    rintro w5 hb5
    refine TW.pickOr rfl rfl rfl ct rfl pOr0 ?_
    refine TW.nil (KW.pick [0, 1, 4, 5, 6, 22] [(0, _, _), (1, _, _), (4, _, _), (5, _, _), (6, _, _), (22, _, _)] rfl (KW.then_ ?_))
    have hbb5 := hbb3.step hb5
    have hB5 := hB.next hb5
    refine CW.cond rfl (fun hbad => ?_) (fun hgood => ?_)
    · refine CW.seq (CW.region ?_)
      refine TW.assign rfl rfl rfl ct ?_
      refine TW.assign rfl rfl rfl ct ?_
      refine TW.nil (KW.pick [0, 1, 4, 5, 6] [(0, _, _), (1, _, _), (4, _, _), (5, _, _), (6, _, _)] rfl (KW.then_ ?_))
      refine CW.ret (KW.thenR ?_)
      refine ret2 Try.results24 rfl rfl (ResB.err ?_ hbb5)
      rw [hput, if_pos]
      simpa using hbad
    · have hgood' : ¬ (b.kind = 0 ∨ locked l i = true) := by
        simp only [Bool.or_eq_false_iff, decide_eq_false_iff_not] at hgood
        rintro (h | h)
        · exact hgood.1 h
        · rw [h] at hgood; cases hgood.2
      refine CW.skip (KW.then_ (CW.seq (CW.seq (CW.region ?_))))
      refine TW.fieldAddr rfl rfl fo28_4 rfl ct ?_
      refine TW.load rfl rfl one4 rfl ct (fun _ => hB5.fld rfl) ?_
      refine TW.nil (KW.pick [0, 1, 4, 5, 6, 24] [(0, _, _), (1, _, _), (4, _, _), (5, _, _), (6, _, _), (24, _, _)] rfl (KW.then_ ?_))
      refine CW.cond rfl (fun hcl => ?_) (fun hop => ?_)
      · refine CW.seq (CW.region ?_)
        refine TW.assign rfl rfl rfl ct ?_
        refine TW.assign rfl rfl rfl ct ?_
        refine TW.nil (KW.pick [0, 1, 4, 5, 6] [(0, _, _), (1, _, _), (4, _, _), (5, _, _), (6, _, _)] rfl (KW.then_ ?_))
        refine CW.ret (KW.thenR ?_)
        refine ret2 Try.results24 rfl rfl (ResB.err ?_ hbb5)
        rw [hput, if_neg hgood', if_pos (by simpa using hcl)]
      · refine CW.skip (KW.then_ (CW.seq (CW.region ?_)))
        refine TW.fieldAddr rfl rfl fo28_4 rfl ct ?_
        refine TW.store1 rfl sz4 rfl rfl (hB5.fld rfl) (by rw [addr0]; exact hB5.frozen _) rfl ?_
        rw [addr0]
        have hB6 := hB5.set 4 (.bool true)
        have hb6 : Below w.heap.size w (w5.setCell ⟨gb, 4, none⟩ (.bool true)) := hbb5.setCell (p := ⟨gb, 4, none⟩) (by have := f3.at_; have := hbb2.size; simp; omega) _
        generalize w5.setCell ⟨gb, 4, none⟩ (.bool true) = w6 at hB6 hb6
        have hl6 := hl.below hb6
        refine TW.nil (KW.pick [0, 1, 4, 5, 6] [(0, _, _), (1, _, _), (4, _, _), (5, _, _), (6, _, _)] rfl (KW.then_ ?_))
        refine CW.seq (CW.region ?_)
        refine TW.move rfl rfl rfl ct ?_
        refine TW.move rfl rfl rfl ct ?_
        refine TW.loadS _ rfl rfl Try.underlying28 sz28 rfl ct (fun _ k v hk => hB6.fld hk) rfl ?_
        refine TW.call0 (cap := []) rfl rfl en50 rfl (Args.cons rfl ct (Args.cons rfl ct (Args.cons rfl ct Args.nil))) (rchanged_c i { b with closed := true } hl6 hil (by omega)) ?_
        rintro u w7 ⟨hb7, hown7, hfr7⟩
        refine TW.assign rfl rfl rfl ct ?_
        refine TW.assign rfl rfl rfl ct ?_
        refine TW.nil (KW.pick [0, 1, 4, 5, 6] [(0, _, _), (1, _, _), (4, _, _), (5, _, _), (6, _, _)] rfl (KW.then_ ?_))
        refine CW.ret ?_
        rw [if_neg hgood', if_neg (by simpa using hop)] at hput
        refine ret2 Try.results24 rfl rfl (⟨u, by rw [hput], ?_, hb6.step hb7⟩)
        rw [hput]
        refine own_boxes hown7 (fun x hx => ?_) (fun g hg => Nat.le_trans hb6.size (hfr7 g hg)) (by simp; omega)
        rcases List.mem_or_eq_of_mem_set hx with hx | rfl
        · exact sl_boxR hl x hx
        · have := sl_boxR hl b (List.mem_of_getElem? hb)
          exact this

set_option maxRecDepth 20000 in
theorem rreopen_c {F : Nat → Prop} {v : Value} {l : List Box} {w : World} (box : Int) (hl : SL boxT F w v l) :
    Gives Try.prog 26 #[v, .int .i64 box] w (ResB w (reopenS l box)) := by
  obtain ⟨A, cap, rfl, h1, h2, h3⟩ := id hl
  refine gives_of (vs := [.slice A l.length cap, .int .i64 box]) [(0, none, _), (1, none, _)] Try.func26 rfl Try.ntmps26 rfl rfl ?_
  refine CW.seq (CW.region ?_)
  refine TW.assign rfl rfl rfl ct ?_
  refine TW.assign rfl rfl rfl ct ?_
  refine TW.nil (KW.pick [0, 1, 4, 5] [(0, _, _), (1, _, _), (4, _, _), (5, _, _)] rfl (KW.then_ ?_))
  refine CW.seq (CW.seq (CW.region ?_))
  refine TW.move rfl rfl rfl ct ?_
  refine TW.move rfl rfl rfl ct ?_
  refine TW.callF (cap := []) rfl rfl en48 rfl ct (Args.cons rfl ct (Args.cons rfl ct Args.nil)) (fun _ => rhas_c box hl) ?_
  rintro w2 hbb2
  refine TW.not rfl rfl rfl ct ?_
  refine TW.nil (KW.pick [0, 1, 4, 5, 10] [(0, _, _), (1, _, _), (4, _, _), (5, _, _), (10, _, _)] rfl (KW.then_ ?_))
  have hl2 := hl.below hbb2
  refine CW.cond rfl (fun hno => ?_) (fun hyes => ?_)
  · refine CW.seq (CW.region ?_)
    refine TW.assign rfl rfl rfl ct ?_
    refine TW.assign rfl rfl rfl ct ?_
    refine TW.nil (KW.pick [0, 1, 4, 5] [(0, _, _), (1, _, _), (4, _, _), (5, _, _)] rfl (KW.then_ ?_))
    refine CW.ret (KW.thenR ?_)
    refine ret2 Try.results26 rfl rfl (ResB.err ?_ hbb2)
    unfold reopenS
    rw [if_pos]
    intro h1
    rw [dec_pos h1] at hno
    cases hno
  · have hx := dec_iff.1 (by simpa using hyes)
    obtain ⟨i, rfl⟩ : ∃ i : Nat, box = i := ⟨box.toNat, by have := hx.2.1; omega⟩
    have hil : i < l.length := by have := hx.2.2; omega
    have hv := hx.1
    have hfew := hv.few
    obtain ⟨b, hb⟩ : ∃ b, l[i]? = some b := ⟨l[i], List.getElem?_eq_getElem hil⟩
    obtain ⟨ad, rfl, _, hcellb, _⟩ := box_at hl2 hb
    have hput : reopenS l i = if b.kind = 0 ∨ locked l i = true then ([], 150) else if b.closed = false then ([], 3) else (l.set i { b with closed := false }, 0) := by
      unfold reopenS
      rw [if_neg (by simp [hx])]
      simp [hb]
    refine CW.skip (KW.then_ (CW.seq (CW.region ?_)))
    refine TW.move rfl rfl rfl ct ?_
    refine TW.move rfl rfl rfl ct ?_
    refine TW.indexAddr rfl rfl Try.underlying22 sz28 rfl ct rfl ct (fun _ => by (try dsimp only); omega) ?_
    refine TW.loadS _ rfl rfl Try.underlying28 sz28 rfl ct (fun _ => hcellb) rfl ?_
    refine TW.newVar rfl zc28 rfl sz28 rfl rfl ?_
    rintro gb w3 f3
    refine TW.nil (KW.pick [0, 1, 4, 5, 6] [(0, _, _), (1, _, _), (4, _, _), (5, _, _), (6, _, _)] rfl (KW.then_ ?_))
    refine CW.seq (CW.seq (CW.region ?_))
    refine TW.fieldAddr rfl rfl fo28_1 rfl ct ?_
    have hbb3 := hbb2.step f3.below
    have hl3 := hl.below hbb3
    have hB := f3.blk
    refine TW.load rfl rfl one3 rfl ct (fun _ => hB.fld rfl) ?_
    refine TW.eql rfl rfl rfl ct rfl ct ?_
    refine TW.move rfl rfl rfl ct ?_
    refine TW.move rfl rfl rfl ct ?_
    refine TW.move rfl rfl rfl ct ?_
    refine TW.callF (cap := []) rfl rfl en49 rfl ct (Args.cons rfl id (Args.cons rfl id Args.nil)) (fun _ => rlocked_c i hl3 hv hil) ?_
    rintro w5 hb5
    refine TW.pickOr rfl rfl rfl ct rfl pOr0 ?_
    refine TW.nil (KW.pick [0, 1, 4, 5, 6, 22] [(0, _, _), (1, _, _), (4, _, _), (5, _, _), (6, _, _), (22, _, _)] rfl (KW.then_ ?_))
    have hbb5 := hbb3.step hb5
    have hB5 := hB.next hb5
    refine CW.cond rfl (fun hbad => ?_) (fun hgood => ?_)
    · refine CW.seq (CW.region ?_)
      refine TW.assign rfl rfl rfl ct ?_
      refine TW.assign rfl rfl rfl ct ?_
      refine TW.nil (KW.pick [0, 1, 4, 5, 6] [(0, _, _), (1, _, _), (4, _, _), (5, _, _), (6, _, _)] rfl (KW.then_ ?_))
      refine CW.ret (KW.thenR ?_)
      refine ret2 Try.results26 rfl rfl (ResB.err ?_ hbb5)
      rw [hput, if_pos]
      simpa using hbad
    · have hgood' : ¬ (b.kind = 0 ∨ locked l i = true) := by
        simp only [Bool.or_eq_false_iff, decide_eq_false_iff_not] at hgood
        rintro (h | h)
        · exact hgood.1 h
        · rw [h] at hgood; cases hgood.2
      refine CW.skip (KW.then_ (CW.seq (CW.seq (CW.region ?_))))
      refine TW.fieldAddr rfl rfl fo28_4 rfl ct ?_
      refine TW.load rfl rfl one4 rfl ct (fun _ => hB5.fld rfl) ?_
      refine TW.not rfl rfl rfl ct ?_
      refine TW.nil (KW.pick [0, 1, 4, 5, 6, 25] [(0, _, _), (1, _, _), (4, _, _), (5, _, _), (6, _, _), (25, _, _)] rfl (KW.then_ ?_))
      refine CW.cond rfl (fun hcl => ?_) (fun hop => ?_)
      · refine CW.seq (CW.region ?_)
        refine TW.assign rfl rfl rfl ct ?_
        refine TW.assign rfl rfl rfl ct ?_
        refine TW.nil (KW.pick [0, 1, 4, 5, 6] [(0, _, _), (1, _, _), (4, _, _), (5, _, _), (6, _, _)] rfl (KW.then_ ?_))
        refine CW.ret (KW.thenR ?_)
        refine ret2 Try.results26 rfl rfl (ResB.err ?_ hbb5)
        rw [hput, if_neg hgood', if_pos (by simpa using hcl)]
      · refine CW.skip (KW.then_ (CW.seq (CW.region ?_)))
        refine TW.fieldAddr rfl rfl fo28_4 rfl ct ?_
        refine TW.store1 rfl sz4 rfl rfl (hB5.fld rfl) (by rw [addr0]; exact hB5.frozen _) rfl ?_
        rw [addr0]
        have hB6 := hB5.set 4 (.bool false)
        have hb6 : Below w.heap.size w (w5.setCell ⟨gb, 4, none⟩ (.bool false)) := hbb5.setCell (p := ⟨gb, 4, none⟩) (by have := f3.at_; have := hbb2.size; simp; omega) _
        generalize w5.setCell ⟨gb, 4, none⟩ (.bool false) = w6 at hB6 hb6
        have hl6 := hl.below hb6
        refine TW.nil (KW.pick [0, 1, 4, 5, 6] [(0, _, _), (1, _, _), (4, _, _), (5, _, _), (6, _, _)] rfl (KW.then_ ?_))
        refine CW.seq (CW.region ?_)
        refine TW.move rfl rfl rfl ct ?_
        refine TW.move rfl rfl rfl ct ?_
        refine TW.loadS _ rfl rfl Try.underlying28 sz28 rfl ct (fun _ k v hk => hB6.fld hk) rfl ?_
        refine TW.call0 (cap := []) rfl rfl en50 rfl (Args.cons rfl ct (Args.cons rfl ct (Args.cons rfl ct Args.nil))) (rchanged_c i { b with closed := false } hl6 hil (by omega)) ?_
        rintro u w7 ⟨hb7, hown7, hfr7⟩
        refine TW.assign rfl rfl rfl ct ?_
        refine TW.assign rfl rfl rfl ct ?_
        refine TW.nil (KW.pick [0, 1, 4, 5, 6] [(0, _, _), (1, _, _), (4, _, _), (5, _, _), (6, _, _)] rfl (KW.then_ ?_))
        refine CW.ret ?_
        rw [if_neg hgood', if_neg (by simpa using hop)] at hput
        refine ret2 Try.results26 rfl rfl (⟨u, by rw [hput], ?_, hb6.step hb7⟩)
        rw [hput]
        refine own_boxes hown7 (fun x hx => ?_) (fun g hg => Nat.le_trans hb6.size (hfr7 g hg)) (by simp; omega)
        rcases List.mem_or_eq_of_mem_set hx with hx | rfl
        · exact sl_boxR hl x hx
        · have := sl_boxR hl b (List.mem_of_getElem? hb)
          exact this
end Go.Proofs.Ytegmhdabedgloaa
