import Derived.Test.YtegmhdabedgloaaL
namespace Go.Proofs.Ytegmhdabedgloaa
open Go.PF Go.RowKit
abbrev ptr (g : Nat) : Value := .pointer (some ⟨g, 0, none⟩)

theorem put2_c {F : Nat → Prop} {v : Value} {l : List Box} {w : World} {ga gi : Nat} (hl : SL boxT F w v l) (hA : Blk w ga 22 [v]) (i : Nat) (b : Box) (hb : l[i]? = some b) (hI : Blk w gi 3 [.int .i64 (i : Int)]) :
    Gives Try.prog 43 #[ptr ga, ptr gi] w fun u w' => Below w.heap.size w w' ∧ u = .bool (decide (b.parent ≠ -1)) := by
  obtain ⟨A, cap, rfl, h1, h2, h3⟩ := id hl
  have hi := (List.getElem?_eq_some_iff.1 hb).1
  obtain ⟨ad, rfl, _, _, _⟩ := box_at hl hb
  refine gives_of (vs := [ptr ga, ptr gi]) [(0, none, _), (1, none, _)] Try.func43 rfl Try.ntmps43 rfl rfl ?_
  refine CW.seq (CW.region ?_)
  refine TW.assign rfl rfl rfl ct ?_
  refine TW.nil (KW.pick [0, 1, 2] [(0, _, _), (1, _, _), (2, _, _)] rfl (KW.then_ ?_))
  refine CW.seq (CW.region ?_)
  refine TW.load rfl rfl one22 rfl ct (fun _ => hA.cell 0) ?_
  refine TW.load rfl rfl one3 rfl ct (fun _ => hI.cell 0) ?_
  refine TW.indexAddr rfl rfl Try.underlying22 sz28 rfl ct rfl ct (fun _ => by (try dsimp only); omega) ?_
  refine TW.fieldAddr rfl rfl fo28_2 rfl ct ?_
  refine TW.load rfl rfl one3 rfl ct (fun _ => box_cell hl hb rfl) ?_
  refine TW.neq rfl rfl rfl ct rfl ct ?_
  refine TW.assign rfl rfl rfl ct ?_
  refine TW.nil (KW.pick [0, 1, 2] [(0, _, _), (1, _, _), (2, _, _)] rfl (KW.then_ ?_))
  refine CW.ret ?_
  refine ret1 Try.results43 rfl (⟨Below.refl _ _, ?_⟩)
  simp [eqV]

theorem take2_c {F : Nat → Prop} {v : Value} {l : List Box} {w : World} {ga gi : Nat} (hl : SL boxT F w v l) (hA : Blk w ga 22 [v]) (i : Nat) (b : Box) (hb : l[i]? = some b) (hI : Blk w gi 3 [.int .i64 (i : Int)]) :
    Gives Try.prog 52 #[ptr ga, ptr gi] w fun u w' => Below w.heap.size w w' ∧ u = .bool (decide (b.parent = -1)) := by
  obtain ⟨A, cap, rfl, h1, h2, h3⟩ := id hl
  have hi := (List.getElem?_eq_some_iff.1 hb).1
  obtain ⟨ad, rfl, _, _, _⟩ := box_at hl hb
  refine gives_of (vs := [ptr ga, ptr gi]) [(0, none, _), (1, none, _)] Try.func52 rfl Try.ntmps52 rfl rfl ?_
  refine CW.seq (CW.region ?_)
  refine TW.assign rfl rfl rfl ct ?_
  refine TW.nil (KW.pick [0, 1, 2] [(0, _, _), (1, _, _), (2, _, _)] rfl (KW.then_ ?_))
  refine CW.seq (CW.region ?_)
  refine TW.load rfl rfl one22 rfl ct (fun _ => hA.cell 0) ?_
  refine TW.load rfl rfl one3 rfl ct (fun _ => hI.cell 0) ?_
  refine TW.indexAddr rfl rfl Try.underlying22 sz28 rfl ct rfl ct (fun _ => by (try dsimp only); omega) ?_
  refine TW.fieldAddr rfl rfl fo28_2 rfl ct ?_
  refine TW.load rfl rfl one3 rfl ct (fun _ => box_cell hl hb rfl) ?_
  refine TW.eql rfl rfl rfl ct rfl ct ?_
  refine TW.assign rfl rfl rfl ct ?_
  refine TW.nil (KW.pick [0, 1, 2] [(0, _, _), (1, _, _), (2, _, _)] rfl (KW.then_ ?_))
  refine CW.ret ?_
  refine ret1 Try.results52 rfl (⟨Below.refl _ _, ?_⟩)
  simp [eqV]

theorem close2_c {F : Nat → Prop} {v : Value} {l : List Box} {w : World} {ga gi : Nat} (hl : SL boxT F w v l) (hA : Blk w ga 22 [v]) (i : Nat) (b : Box) (hb : l[i]? = some b) (hI : Blk w gi 3 [.int .i64 (i : Int)]) :
    Gives Try.prog 56 #[ptr ga, ptr gi] w fun u w' => Below w.heap.size w w' ∧ u = .bool (b.closed) := by
  obtain ⟨A, cap, rfl, h1, h2, h3⟩ := id hl
  have hi := (List.getElem?_eq_some_iff.1 hb).1
  obtain ⟨ad, rfl, _, _, _⟩ := box_at hl hb
  refine gives_of (vs := [ptr ga, ptr gi]) [(0, none, _), (1, none, _)] Try.func56 rfl Try.ntmps56 rfl rfl ?_
  refine CW.seq (CW.region ?_)
  refine TW.assign rfl rfl rfl ct ?_
  refine TW.nil (KW.pick [0, 1, 2] [(0, _, _), (1, _, _), (2, _, _)] rfl (KW.then_ ?_))
  refine CW.seq (CW.region ?_)
  refine TW.load rfl rfl one22 rfl ct (fun _ => hA.cell 0) ?_
  refine TW.load rfl rfl one3 rfl ct (fun _ => hI.cell 0) ?_
  refine TW.indexAddr rfl rfl Try.underlying22 sz28 rfl ct rfl ct (fun _ => by (try dsimp only); omega) ?_
  refine TW.fieldAddr rfl rfl fo28_4 rfl ct ?_
  refine TW.load rfl rfl one4 rfl ct (fun _ => box_cell hl hb rfl) ?_
  refine TW.assign rfl rfl rfl ct ?_
  refine TW.nil (KW.pick [0, 1, 2] [(0, _, _), (1, _, _), (2, _, _)] rfl (KW.then_ ?_))
  refine CW.ret ?_
  refine ret1 Try.results56 rfl (⟨Below.refl _ _, ?_⟩)
  rfl

theorem reopen2_c {F : Nat → Prop} {v : Value} {l : List Box} {w : World} {ga gi : Nat} (hl : SL boxT F w v l) (hA : Blk w ga 22 [v]) (i : Nat) (b : Box) (hb : l[i]? = some b) (hI : Blk w gi 3 [.int .i64 (i : Int)]) :
    Gives Try.prog 58 #[ptr ga, ptr gi] w fun u w' => Below w.heap.size w w' ∧ u = .bool (!b.closed) := by
  obtain ⟨A, cap, rfl, h1, h2, h3⟩ := id hl
  have hi := (List.getElem?_eq_some_iff.1 hb).1
  obtain ⟨ad, rfl, _, _, _⟩ := box_at hl hb
  refine gives_of (vs := [ptr ga, ptr gi]) [(0, none, _), (1, none, _)] Try.func58 rfl Try.ntmps58 rfl rfl ?_
  refine CW.seq (CW.region ?_)
  refine TW.assign rfl rfl rfl ct ?_
  refine TW.nil (KW.pick [0, 1, 2] [(0, _, _), (1, _, _), (2, _, _)] rfl (KW.then_ ?_))
  refine CW.seq (CW.region ?_)
  refine TW.load rfl rfl one22 rfl ct (fun _ => hA.cell 0) ?_
  refine TW.load rfl rfl one3 rfl ct (fun _ => hI.cell 0) ?_
  refine TW.indexAddr rfl rfl Try.underlying22 sz28 rfl ct rfl ct (fun _ => by (try dsimp only); omega) ?_
  refine TW.fieldAddr rfl rfl fo28_4 rfl ct ?_
  refine TW.load rfl rfl one4 rfl ct (fun _ => box_cell hl hb rfl) ?_
  refine TW.not rfl rfl rfl ct ?_
  refine TW.assign rfl rfl rfl ct ?_
  refine TW.nil (KW.pick [0, 1, 2] [(0, _, _), (1, _, _), (2, _, _)] rfl (KW.then_ ?_))
  refine CW.ret ?_
  refine ret1 Try.results58 rfl (⟨Below.refl _ _, ?_⟩)
  rfl

theorem move3_c {F : Nat → Prop} {v : Value} {l : List Box} {w : World} {ga gi : Nat} (hl : SL boxT F w v l) (hA : Blk w ga 22 [v]) (i : Nat) (b : Box) (hb : l[i]? = some b) (hI : Blk w gi 3 [.int .i64 (i : Int)]) :
    Gives Try.prog 41 #[ptr ga, ptr gi] w fun u w' => Below w.heap.size w w' ∧ u = .bool (decide (b.parent ≠ -1)) := by
  obtain ⟨A, cap, rfl, h1, h2, h3⟩ := id hl
  have hi := (List.getElem?_eq_some_iff.1 hb).1
  obtain ⟨ad, rfl, _, _, _⟩ := box_at hl hb
  refine gives_of (vs := [ptr ga, ptr gi]) [(0, none, _), (1, none, _)] Try.func41 rfl Try.ntmps41 rfl rfl ?_
  refine CW.seq (CW.region ?_)
  refine TW.assign rfl rfl rfl ct ?_
  refine TW.nil (KW.pick [0, 1, 2] [(0, _, _), (1, _, _), (2, _, _)] rfl (KW.then_ ?_))
  refine CW.seq (CW.region ?_)
  refine TW.load rfl rfl one22 rfl ct (fun _ => hA.cell 0) ?_
  refine TW.load rfl rfl one3 rfl ct (fun _ => hI.cell 0) ?_
  refine TW.indexAddr rfl rfl Try.underlying22 sz28 rfl ct rfl ct (fun _ => by (try dsimp only); omega) ?_
  refine TW.fieldAddr rfl rfl fo28_2 rfl ct ?_
  refine TW.load rfl rfl one3 rfl ct (fun _ => box_cell hl hb rfl) ?_
  refine TW.neq rfl rfl rfl ct rfl ct ?_
  refine TW.assign rfl rfl rfl ct ?_
  refine TW.nil (KW.pick [0, 1, 2] [(0, _, _), (1, _, _), (2, _, _)] rfl (KW.then_ ?_))
  refine CW.ret ?_
  refine ret1 Try.results41 rfl (⟨Below.refl _ _, ?_⟩)
  simp [eqV]

theorem put3_c {F : Nat → Prop} {v : Value} {l : List Box} {w : World} {ga gj gi : Nat} (hl : SL boxT F w v l) (hA : Blk w ga 22 [v]) (i : Nat) (b : Box) (hb : l[i]? = some b) (hI : Blk w gi 3 [.int .i64 (i : Int)]) (j : Nat) (c : Box) (hc : l[j]? = some c) (hJ : Blk w gj 3 [.int .i64 (j : Int)]) :
    Gives Try.prog 44 #[ptr ga, ptr gj, ptr gi] w fun u w' => Below w.heap.size w w' ∧ u = .bool (decide (c.kind ≤ b.kind)) := by
  obtain ⟨A, cap, rfl, h1, h2, h3⟩ := id hl
  have hi := (List.getElem?_eq_some_iff.1 hb).1
  obtain ⟨ad, rfl, _, _, _⟩ := box_at hl hb
  have hj := (List.getElem?_eq_some_iff.1 hc).1
  refine gives_of (vs := [ptr ga, ptr gj, ptr gi]) [(0, none, _), (1, none, _), (2, none, _)] Try.func44 rfl Try.ntmps44 rfl rfl ?_
  refine CW.seq (CW.region ?_)
  refine TW.assign rfl rfl rfl ct ?_
  refine TW.nil (KW.pick [0, 1, 2, 3] [(0, _, _), (1, _, _), (2, _, _), (3, _, _)] rfl (KW.then_ ?_))
  refine CW.seq (CW.draw mixed (by kernel_rfl) ?_)
  refine DW.load rfl rfl one22 rfl ct (fun _ => hA.cell 0) ?_
  refine DW.load rfl rfl one3 rfl ct (fun _ => hJ.cell 0) ?_
  refine DW.indexAddr rfl rfl Try.underlying22 sz28 rfl ct rfl ct (fun _ => by (try dsimp only); omega) ?_
  refine DW.fieldAddr rfl rfl fo28_1 rfl ct ?_
  refine DW.load rfl rfl one3 rfl ct (fun _ => box_cell hl hc rfl) ?_
  refine DW.load rfl rfl one22 rfl ct (fun _ => hA.cell 0) ?_
  refine DW.load rfl rfl one3 rfl ct (fun _ => hI.cell 0) ?_
  refine DW.indexAddr rfl rfl Try.underlying22 sz28 rfl ct rfl ct (fun _ => by (try dsimp only); omega) ?_
  refine DW.fieldAddr rfl rfl fo28_1 rfl ct ?_
  refine DW.load rfl rfl one3 rfl ct (fun _ => box_cell hl hb rfl) ?_
  refine DW.leq rfl rfl rfl ct rfl ct ?_
  refine DW.assign rfl rfl rfl ct ?_
  refine DW.nil (DW.fin [0, 1, 2, 3] [(0, _, _), (1, _, _), (2, _, _), (3, _, _)] rfl (fun w1 hb1 => KW.then_ ?_))
  refine CW.ret ?_
  refine ret1 Try.results44 rfl (⟨hb1, ?_⟩)
  simp [eqV]

theorem put4_c {F : Nat → Prop} {v : Value} {l : List Box} {w : World} {ga gj gi : Nat} (hl : SL boxT F w v l) (hA : Blk w ga 22 [v]) (i : Nat) (b : Box) (hb : l[i]? = some b) (hI : Blk w gi 3 [.int .i64 (i : Int)]) (j : Nat) (c : Box) (hc : l[j]? = some c) (hJ : Blk w gj 3 [.int .i64 (j : Int)]) :
    Gives Try.prog 45 #[ptr ga, ptr gj, ptr gi] w fun u w' => Below w.heap.size w w' ∧ u = .bool (decide (c.place ≠ b.place)) := by
  obtain ⟨A, cap, rfl, h1, h2, h3⟩ := id hl
  have hi := (List.getElem?_eq_some_iff.1 hb).1
  obtain ⟨ad, rfl, _, _, _⟩ := box_at hl hb
  have hj := (List.getElem?_eq_some_iff.1 hc).1
  refine gives_of (vs := [ptr ga, ptr gj, ptr gi]) [(0, none, _), (1, none, _), (2, none, _)] Try.func45 rfl Try.ntmps45 rfl rfl ?_
  refine CW.seq (CW.region ?_)
  refine TW.assign rfl rfl rfl ct ?_
  refine TW.nil (KW.pick [0, 1, 2, 3] [(0, _, _), (1, _, _), (2, _, _), (3, _, _)] rfl (KW.then_ ?_))
  refine CW.seq (CW.draw mixed (by kernel_rfl) ?_)
  refine DW.load rfl rfl one22 rfl ct (fun _ => hA.cell 0) ?_
  refine DW.load rfl rfl one3 rfl ct (fun _ => hJ.cell 0) ?_
  refine DW.indexAddr rfl rfl Try.underlying22 sz28 rfl ct rfl ct (fun _ => by (try dsimp only); omega) ?_
  refine DW.fieldAddr rfl rfl fo28_3 rfl ct ?_
  refine DW.load rfl rfl one3 rfl ct (fun _ => box_cell hl hc rfl) ?_
  refine DW.load rfl rfl one22 rfl ct (fun _ => hA.cell 0) ?_
  refine DW.load rfl rfl one3 rfl ct (fun _ => hI.cell 0) ?_
  refine DW.indexAddr rfl rfl Try.underlying22 sz28 rfl ct rfl ct (fun _ => by (try dsimp only); omega) ?_
  refine DW.fieldAddr rfl rfl fo28_3 rfl ct ?_
  refine DW.load rfl rfl one3 rfl ct (fun _ => box_cell hl hb rfl) ?_
  refine DW.neq rfl rfl rfl ct rfl ct ?_
  refine DW.assign rfl rfl rfl ct ?_
  refine DW.nil (DW.fin [0, 1, 2, 3] [(0, _, _), (1, _, _), (2, _, _), (3, _, _)] rfl (fun w1 hb1 => KW.then_ ?_))
  refine CW.ret ?_
  refine ret1 Try.results45 rfl (⟨hb1, ?_⟩)
  simp [eqV]

theorem put5_c {F : Nat → Prop} {v : Value} {l : List Box} {w : World} {ga gi : Nat} (hl : SL boxT F w v l) (hA : Blk w ga 22 [v]) (i : Nat) (b : Box) (hb : l[i]? = some b) (hI : Blk w gi 3 [.int .i64 (i : Int)]) (hF : ∀ k, F k → k < w.heap.size) (hv : Valid l) :
    Gives Try.prog 46 #[ptr ga, ptr gi] w fun u w' => Below w.heap.size w w' ∧ u = .bool (b.closed || locked l i) := by
  obtain ⟨A, cap, rfl, h1, h2, h3⟩ := id hl
  have hi := (List.getElem?_eq_some_iff.1 hb).1
  obtain ⟨ad, rfl, _, _, _⟩ := box_at hl hb
  refine gives_of (vs := [ptr ga, ptr gi]) [(0, none, _), (1, none, _)] Try.func46 rfl Try.ntmps46 rfl rfl ?_
  refine CW.seq (CW.region ?_)
  refine TW.assign rfl rfl rfl ct ?_
  refine TW.nil (KW.pick [0, 1, 2] [(0, _, _), (1, _, _), (2, _, _)] rfl (KW.then_ ?_))
  refine CW.seq (CW.region ?_)
  refine TW.load rfl rfl one22 rfl ct (fun _ => hA.cell 0) ?_
  refine TW.load rfl rfl one3 rfl ct (fun _ => hI.cell 0) ?_
  refine TW.indexAddr rfl rfl Try.underlying22 sz28 rfl ct rfl ct (fun _ => by (try dsimp only); omega) ?_
  refine TW.fieldAddr rfl rfl fo28_4 rfl ct ?_
  refine TW.load rfl rfl one4 rfl ct (fun _ => box_cell hl hb rfl) ?_
  refine TW.move rfl rfl rfl ct ?_
  refine TW.load rfl rfl one22 rfl ct (fun _ => hA.cell 0) ?_
  refine TW.load rfl rfl one3 rfl ct (fun _ => hI.cell 0) ?_
  refine TW.callF (cap := []) rfl rfl en47 rfl ct (Args.cons rfl id (Args.cons rfl id Args.nil)) (fun _ => locked_c i hF hl hv hi) ?_
  rintro w1 hb1
  refine TW.pickOr rfl rfl rfl ct rfl pOr0 ?_
  refine TW.assign rfl rfl rfl ct ?_
  refine TW.nil (KW.pick [0, 1, 2] [(0, _, _), (1, _, _), (2, _, _)] rfl (KW.then_ ?_))
  refine CW.ret ?_
  refine ret1 Try.results46 rfl (⟨hb1, ?_⟩)
  simp [eqV]

theorem fixed1_c {F : Nat → Prop} {v : Value} {l : List Box} {w : World} {ga gi : Nat} (hl : SL boxT F w v l) (hA : Blk w ga 22 [v]) (i : Nat) (b : Box) (hb : l[i]? = some b) (hI : Blk w gi 3 [.int .i64 (i : Int)]) (hF : ∀ k, F k → k < w.heap.size) (hv : Valid l) :
    Gives Try.prog 66 #[ptr ga, ptr gi] w fun u w' => Below w.heap.size w w' ∧ u = .bool (decide (b.kind = 0) || locked l i) := by
  obtain ⟨A, cap, rfl, h1, h2, h3⟩ := id hl
  have hi := (List.getElem?_eq_some_iff.1 hb).1
  obtain ⟨ad, rfl, _, _, _⟩ := box_at hl hb
  refine gives_of (vs := [ptr ga, ptr gi]) [(0, none, _), (1, none, _)] Try.func66 rfl Try.ntmps66 rfl rfl ?_
  refine CW.seq (CW.region ?_)
  refine TW.assign rfl rfl rfl ct ?_
  refine TW.nil (KW.pick [0, 1, 2] [(0, _, _), (1, _, _), (2, _, _)] rfl (KW.then_ ?_))
  refine CW.seq (CW.region ?_)
  refine TW.load rfl rfl one22 rfl ct (fun _ => hA.cell 0) ?_
  refine TW.load rfl rfl one3 rfl ct (fun _ => hI.cell 0) ?_
  refine TW.indexAddr rfl rfl Try.underlying22 sz28 rfl ct rfl ct (fun _ => by (try dsimp only); omega) ?_
  refine TW.fieldAddr rfl rfl fo28_1 rfl ct ?_
  refine TW.load rfl rfl one3 rfl ct (fun _ => box_cell hl hb rfl) ?_
  refine TW.eql rfl rfl rfl ct rfl ct ?_
  refine TW.move rfl rfl rfl ct ?_
  refine TW.load rfl rfl one22 rfl ct (fun _ => hA.cell 0) ?_
  refine TW.load rfl rfl one3 rfl ct (fun _ => hI.cell 0) ?_
  refine TW.callF (cap := []) rfl rfl en47 rfl ct (Args.cons rfl id (Args.cons rfl id Args.nil)) (fun _ => locked_c i hF hl hv hi) ?_
  rintro w1 hb1
  refine TW.pickOr rfl rfl rfl ct rfl pOr0 ?_
  refine TW.assign rfl rfl rfl ct ?_
  refine TW.nil (KW.pick [0, 1, 2] [(0, _, _), (1, _, _), (2, _, _)] rfl (KW.then_ ?_))
  refine CW.ret ?_
  refine ret1 Try.results66 rfl (⟨hb1, ?_⟩)
  simp [eqV]

theorem take3_c {F : Nat → Prop} {v : Value} {l : List Box} {w : World} {ga gi : Nat} (hl : SL boxT F w v l) (hA : Blk w ga 22 [v]) (i : Nat) (b : Box) (hb : l[i]? = some b) (hI : Blk w gi 3 [.int .i64 (i : Int)]) (hF : ∀ k, F k → k < w.heap.size) (hv : Valid l) :
    Gives Try.prog 53 #[ptr ga, ptr gi] w fun u w' => Below w.heap.size w w' ∧ u = .bool (locked l i) := by
  obtain ⟨A, cap, rfl, h1, h2, h3⟩ := id hl
  have hi := (List.getElem?_eq_some_iff.1 hb).1
  obtain ⟨ad, rfl, _, _, _⟩ := box_at hl hb
  refine gives_of (vs := [ptr ga, ptr gi]) [(0, none, _), (1, none, _)] Try.func53 rfl Try.ntmps53 rfl rfl ?_
  refine CW.seq (CW.region ?_)
  refine TW.assign rfl rfl rfl ct ?_
  refine TW.nil (KW.pick [0, 1, 2] [(0, _, _), (1, _, _), (2, _, _)] rfl (KW.then_ ?_))
  refine CW.seq (CW.region ?_)
  refine TW.load rfl rfl one22 rfl ct (fun _ => hA.cell 0) ?_
  refine TW.load rfl rfl one3 rfl ct (fun _ => hI.cell 0) ?_
  refine TW.callF (cap := []) rfl rfl en47 rfl ct (Args.cons rfl ct (Args.cons rfl ct Args.nil)) (fun _ => locked_c i hF hl hv hi) ?_
  rintro w1 hb1
  refine TW.assign rfl rfl rfl ct ?_
  refine TW.nil (KW.pick [0, 1, 2] [(0, _, _), (1, _, _), (2, _, _)] rfl (KW.then_ ?_))
  refine CW.ret ?_
  refine ret1 Try.results53 rfl (⟨hb1, rfl⟩)

theorem move2_c {w : World} {gp : Nat} (p : Int) (hP : Blk w gp 3 [.int .i64 p]) :
    Gives Try.prog 40 #[ptr gp] w fun u w' => Below w.heap.size w w' ∧ u = .bool (decide (p < 0) || decide (p ≥ 12)) := by
  refine gives_of (vs := [ptr gp]) [(0, none, _)] Try.func40 rfl Try.ntmps40 rfl rfl ?_
  refine CW.seq (CW.region ?_)
  refine TW.assign rfl rfl rfl ct ?_
  refine TW.nil (KW.pick [0, 1] [(0, _, _), (1, _, _)] rfl (KW.then_ ?_))
  refine CW.seq (CW.region ?_)
  refine TW.load rfl rfl one3 rfl ct (fun _ => hP.cell 0) ?_
  refine TW.lss rfl rfl rfl ct rfl ct ?_
  refine TW.move rfl rfl rfl ct ?_
  refine TW.load rfl rfl one3 rfl ct (fun _ => hP.cell 0) ?_
  refine TW.geq rfl rfl rfl id rfl ct ?_
  refine TW.pickOr rfl rfl rfl ct rfl pOr0 ?_
  refine TW.assign rfl rfl rfl ct ?_
  refine TW.nil (KW.pick [0, 1] [(0, _, _), (1, _, _)] rfl (KW.then_ ?_))
  refine CW.ret ?_
  refine ret1 Try.results40 rfl (⟨Below.refl _ _, ?_⟩)
  simp

theorem given1_c {F F' : Nat → Prop} {v v' : Value} {l : List Box} {is : List Int} {w : World} {ga gi : Nat} (hl : SL boxT F w v l) (hi : SL intT F' w v' is) (hA : Blk w ga 22 [v]) (hI : Blk w gi 25 [v']) :
    Gives Try.prog 65 #[ptr ga, ptr gi] w fun u w' => Below w.heap.size w w' ∧ u = .bool (!dec (Valid l ∧ ∀ i ∈ is, 0 ≤ i ∧ i < l.length)) := by
  refine gives_of (vs := [ptr ga, ptr gi]) [(0, none, _), (1, none, _)] Try.func65 rfl Try.ntmps65 rfl rfl ?_
  refine CW.seq (CW.region ?_)
  refine TW.assign rfl rfl rfl ct ?_
  refine TW.nil (KW.pick [0, 1, 2] [(0, _, _), (1, _, _), (2, _, _)] rfl (KW.then_ ?_))
  refine CW.seq (CW.region ?_)
  refine TW.load rfl rfl one22 rfl ct (fun _ => hA.cell 0) ?_
  refine TW.load rfl rfl one25 rfl ct (fun _ => hI.cell 0) ?_
  refine TW.callF (cap := []) rfl rfl en34 rfl ct (Args.cons rfl ct (Args.cons rfl ct Args.nil)) (fun _ => has_c hl hi) ?_
  rintro w1 hb1
  refine TW.not rfl rfl rfl ct ?_
  refine TW.assign rfl rfl rfl ct ?_
  refine TW.nil (KW.pick [0, 1, 2] [(0, _, _), (1, _, _), (2, _, _)] rfl (KW.then_ ?_))
  refine CW.ret ?_
  refine ret1 Try.results65 rfl (⟨hb1, rfl⟩)

theorem given_c {v v' : Value} {w : World} (hv : v.cells = #[v]) (hv' : v'.cells = #[v']) :
    Gives Try.prog 39 #[v, v'] w fun u w' => Below w.heap.size w w' ∧ ∃ ga gi, u = .agg (ruleCells ⟨65, [ptr ga, ptr gi], 1, false⟩).toArray ∧ Blk w' ga 22 [v] ∧ Blk w' gi 25 [v'] := by
  refine gives_of (vs := [v, v']) [(0, none, _), (1, none, _)] Try.func39 rfl Try.ntmps39 rfl rfl ?_
  refine CW.seq (CW.region ?_)
  refine TW.box (cs := [v]) rfl rfl rfl hv ?_
  rintro ga w1 f1
  refine TW.box (cs := [v']) rfl rfl rfl hv' ?_
  rintro gi w2 f2
  refine TW.alloc rfl rfl zc53 ?_
  rintro gr w3 f3
  refine TW.nil (KW.pick [0, 1, 2, 3, 4] [(0, _, _), (1, _, _), (2, _, _), (3, _, _), (4, _, _)] rfl (KW.then_ ?_))
  refine CW.seq (CW.region ?_)
  refine TW.makeFunc rfl rfl (Args.cons rfl ct (Args.cons rfl ct Args.nil)) ?_
  refine TW.build [0, 1] _ (ruleCells ⟨65, [ptr ga, ptr gi], 1, false⟩) rfl rfl rfl (Args.cons rfl ct (Args.cons rfl ct Args.nil)) rfl ?_
  refine TW.storeBlkF rfl rfl rfl f3.blk sz53 rfl rfl rfl ?_
  rintro w4 hB4 hg4 hs4
  refine TW.nil (KW.pick [0, 1, 2, 3, 4] [(0, _, _), (1, _, _), (2, _, _), (3, _, _), (4, _, _)] rfl (KW.then_ ?_))
  refine CW.ret ?_
  have n1 := f1.at_
  have n2 := f2.at_
  have n3 := f3.at_
  have m1 := f1.blk.lt
  have m2 := f2.blk.lt
  have hb3 := (f1.below.step f2.below).step f3.below
  refine retCS (cs := ruleCells ⟨65, [ptr ga, ptr gi], 1, false⟩) Try.results39 Try.underlying53 sz53 rfl hB4 ⟨hb3.grown hg4 hb3.size (fun k hk => ?_), ga, gi, rfl, ?_, ?_⟩
  · simp at hk; have := f1.below.size; have := f2.below.size; omega
  · exact (hg4.block ga (by have := f2.below.size; have := f3.below.size; omega) (by simp; have := f2.below.size; omega)).trans (f1.blk.next (f2.below.step f3.below))
  · exact (hg4.block gi (by have := f3.below.size; omega) (by simp; omega)).trans (f2.blk.next f3.below)

theorem fixed_c {v v' : Value} {w : World} (hv : v.cells = #[v]) (hv' : v'.cells = #[v']) :
    Gives Try.prog 55 #[v, v'] w fun u w' => Below w.heap.size w w' ∧ ∃ ga gi, u = .agg (ruleCells ⟨66, [ptr ga, ptr gi], 150, false⟩).toArray ∧ Blk w' ga 22 [v] ∧ Blk w' gi 3 [v'] := by
  refine gives_of (vs := [v, v']) [(0, none, _), (1, none, _)] Try.func55 rfl Try.ntmps55 rfl rfl ?_
  refine CW.seq (CW.region ?_)
  refine TW.box (cs := [v]) rfl rfl rfl hv ?_
  rintro ga w1 f1
  refine TW.box (cs := [v']) rfl rfl rfl hv' ?_
  rintro gi w2 f2
  refine TW.alloc rfl rfl zc53 ?_
  rintro gr w3 f3
  refine TW.nil (KW.pick [0, 1, 2, 3, 4] [(0, _, _), (1, _, _), (2, _, _), (3, _, _), (4, _, _)] rfl (KW.then_ ?_))
  refine CW.seq (CW.region ?_)
  refine TW.makeFunc rfl rfl (Args.cons rfl ct (Args.cons rfl ct Args.nil)) ?_
  refine TW.build [0, 1] _ (ruleCells ⟨66, [ptr ga, ptr gi], 150, false⟩) rfl rfl rfl (Args.cons rfl ct (Args.cons rfl ct Args.nil)) rfl ?_
  refine TW.storeBlkF rfl rfl rfl f3.blk sz53 rfl rfl rfl ?_
  rintro w4 hB4 hg4 hs4
  refine TW.nil (KW.pick [0, 1, 2, 3, 4] [(0, _, _), (1, _, _), (2, _, _), (3, _, _), (4, _, _)] rfl (KW.then_ ?_))
  refine CW.ret ?_
  have n1 := f1.at_
  have n2 := f2.at_
  have n3 := f3.at_
  have m1 := f1.blk.lt
  have m2 := f2.blk.lt
  have hb3 := (f1.below.step f2.below).step f3.below
  refine retCS (cs := ruleCells ⟨66, [ptr ga, ptr gi], 150, false⟩) Try.results55 Try.underlying53 sz53 rfl hB4 ⟨hb3.grown hg4 hb3.size (fun k hk => ?_), ga, gi, rfl, ?_, ?_⟩
  · simp at hk; have := f1.below.size; have := f2.below.size; omega
  · exact (hg4.block ga (by have := f2.below.size; have := f3.below.size; omega) (by simp; have := f2.below.size; omega)).trans (f1.blk.next (f2.below.step f3.below))
  · exact (hg4.block gi (by have := f3.below.size; omega) (by simp; omega)).trans (f2.blk.next f3.below)
end Go.Proofs.Ytegmhdabedgloaa
