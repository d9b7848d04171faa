import Derived.Test.YtegmhdabedgloaaM
namespace Go.Proofs.Ytegmhdabedgloaa
open Go.PF Go.RowKit

theorem own_at {w : World} {l : List Box} {v : Value} {i : Nat} {b : Box} (hown : OwnS w 28 5 v l.length (l.flatMap boxCells)) (hb : l[i]? = some b) : ∃ g cap, v = .slice (some ⟨g, 0, none⟩) l.length cap := by
  obtain ⟨A3, cap3, rfl, _, _, hc3⟩ := hown.form
  obtain ⟨g3, rfl, _⟩ := hc3 _ _ ((flat_at boxCells 5 l (boxes_len l) i 0 b hb (by omega)).trans rfl)
  exact ⟨g3, cap3, rfl⟩

theorem put1_c {v : Value} {l : List Box} {w : World} {gi : Nat} {gp : Nat} (i : Nat) (b : Box) (hb : l[i]? = some b) (hn : l.length ≤ 200) (hown : OwnS w 28 5 v l.length (l.flatMap boxCells)) (hI : Blk w gi 3 [.int .i64 (i : Int)]) (p : Int) (hP : Blk w gp 3 [.int .i64 p]) :
    Gives Try.prog 42 #[v, ptr gp, ptr gi] w fun _ w' => w.grownBy w' v.ownBlock ∧ OwnS w' 28 5 v (l.set i { b with parent := p }).length ((l.set i { b with parent := p }).flatMap boxCells) := by
  have hi := (List.getElem?_eq_some_iff.1 hb).1
  obtain ⟨g, cap, rfl⟩ := own_at hown hb
  refine gives_of (vs := [.slice (some ⟨g, 0, none⟩) l.length cap, ptr gp, ptr gi]) [(0, none, _), (1, none, _), (2, none, _)] Try.func42 rfl Try.ntmps42 rfl rfl ?_
  refine CW.region ?_
  refine TW.move rfl rfl rfl ct ?_
  refine TW.load rfl rfl one3 rfl ct (fun _ => hI.cell 0) ?_
  refine TW.load rfl rfl one3 rfl ct (fun _ => hP.cell 0) ?_
  refine TW.indexAddr rfl rfl Try.underlying22 sz28 rfl ct rfl ct (fun _ => by (try dsimp only); omega) ?_
  refine TW.fieldAddr rfl rfl fo28_2 rfl ct ?_
  refine TW.storeOwn1 (i := i) rfl sz3 rfl rfl hown hi (by omega) rfl ?_
  rintro w1 hown1 hg1 hs1
  rw [set_flat boxCells 5 l (boxes_len l) i 2 b { b with parent := p } (.int .i64 p) hb (by omega) rfl] at hown1
  refine TW.nil (KW.pick [0, 1, 2] [(0, _, _), (1, _, _), (2, _, _)] rfl ?_)
  refine end0 Try.results42 (⟨hg1, by rw [List.length_set]; exact hown1⟩)

theorem take1_c {v : Value} {l : List Box} {w : World} {gi : Nat} (i : Nat) (b : Box) (hb : l[i]? = some b) (hn : l.length ≤ 200) (hown : OwnS w 28 5 v l.length (l.flatMap boxCells)) (hI : Blk w gi 3 [.int .i64 (i : Int)])  :
    Gives Try.prog 51 #[v, ptr gi] w fun _ w' => w.grownBy w' v.ownBlock ∧ OwnS w' 28 5 v (l.set i { b with parent := -1 }).length ((l.set i { b with parent := -1 }).flatMap boxCells) := by
  have hi := (List.getElem?_eq_some_iff.1 hb).1
  obtain ⟨g, cap, rfl⟩ := own_at hown hb
  refine gives_of (vs := [.slice (some ⟨g, 0, none⟩) l.length cap, ptr gi]) [(0, none, _), (1, none, _)] Try.func51 rfl Try.ntmps51 rfl rfl ?_
  refine CW.region ?_
  refine TW.move rfl rfl rfl ct ?_
  refine TW.load rfl rfl one3 rfl ct (fun _ => hI.cell 0) ?_
  refine TW.indexAddr rfl rfl Try.underlying22 sz28 rfl ct rfl ct (fun _ => by (try dsimp only); omega) ?_
  refine TW.fieldAddr rfl rfl fo28_2 rfl ct ?_
  refine TW.storeOwn1 (i := i) rfl sz3 rfl rfl hown hi (by omega) rfl ?_
  rintro w1 hown1 hg1 hs1
  rw [set_flat boxCells 5 l (boxes_len l) i 2 b { b with parent := -1 } (.int .i64 (-1)) hb (by omega) rfl] at hown1
  refine TW.nil (KW.pick [0, 1] [(0, _, _), (1, _, _)] rfl ?_)
  refine end0 Try.results51 (⟨hg1, by rw [List.length_set]; exact hown1⟩)

theorem close1_c {v : Value} {l : List Box} {w : World} {gi : Nat} (i : Nat) (b : Box) (hb : l[i]? = some b) (hn : l.length ≤ 200) (hown : OwnS w 28 5 v l.length (l.flatMap boxCells)) (hI : Blk w gi 3 [.int .i64 (i : Int)])  :
    Gives Try.prog 54 #[v, ptr gi] w fun _ w' => w.grownBy w' v.ownBlock ∧ OwnS w' 28 5 v (l.set i { b with closed := true }).length ((l.set i { b with closed := true }).flatMap boxCells) := by
  have hi := (List.getElem?_eq_some_iff.1 hb).1
  obtain ⟨g, cap, rfl⟩ := own_at hown hb
  refine gives_of (vs := [.slice (some ⟨g, 0, none⟩) l.length cap, ptr gi]) [(0, none, _), (1, none, _)] Try.func54 rfl Try.ntmps54 rfl rfl ?_
  refine CW.region ?_
  refine TW.move rfl rfl rfl ct ?_
  refine TW.load rfl rfl one3 rfl ct (fun _ => hI.cell 0) ?_
  refine TW.indexAddr rfl rfl Try.underlying22 sz28 rfl ct rfl ct (fun _ => by (try dsimp only); omega) ?_
  refine TW.fieldAddr rfl rfl fo28_4 rfl ct ?_
  refine TW.storeOwn1 (i := i) rfl sz4 rfl rfl hown hi (by omega) rfl ?_
  rintro w1 hown1 hg1 hs1
  rw [set_flat boxCells 5 l (boxes_len l) i 4 b { b with closed := true } (.bool true) hb (by omega) rfl] at hown1
  refine TW.nil (KW.pick [0, 1] [(0, _, _), (1, _, _)] rfl ?_)
  refine end0 Try.results54 (⟨hg1, by rw [List.length_set]; exact hown1⟩)

theorem reopen1_c {v : Value} {l : List Box} {w : World} {gi : Nat} (i : Nat) (b : Box) (hb : l[i]? = some b) (hn : l.length ≤ 200) (hown : OwnS w 28 5 v l.length (l.flatMap boxCells)) (hI : Blk w gi 3 [.int .i64 (i : Int)])  :
    Gives Try.prog 57 #[v, ptr gi] w fun _ w' => w.grownBy w' v.ownBlock ∧ OwnS w' 28 5 v (l.set i { b with closed := false }).length ((l.set i { b with closed := false }).flatMap boxCells) := by
  have hi := (List.getElem?_eq_some_iff.1 hb).1
  obtain ⟨g, cap, rfl⟩ := own_at hown hb
  refine gives_of (vs := [.slice (some ⟨g, 0, none⟩) l.length cap, ptr gi]) [(0, none, _), (1, none, _)] Try.func57 rfl Try.ntmps57 rfl rfl ?_
  refine CW.region ?_
  refine TW.move rfl rfl rfl ct ?_
  refine TW.load rfl rfl one3 rfl ct (fun _ => hI.cell 0) ?_
  refine TW.indexAddr rfl rfl Try.underlying22 sz28 rfl ct rfl ct (fun _ => by (try dsimp only); omega) ?_
  refine TW.fieldAddr rfl rfl fo28_4 rfl ct ?_
  refine TW.storeOwn1 (i := i) rfl sz4 rfl rfl hown hi (by omega) rfl ?_
  rintro w1 hown1 hg1 hs1
  rw [set_flat boxCells 5 l (boxes_len l) i 4 b { b with closed := false } (.bool false) hb (by omega) rfl] at hown1
  refine TW.nil (KW.pick [0, 1] [(0, _, _), (1, _, _)] rfl ?_)
  refine end0 Try.results57 (⟨hg1, by rw [List.length_set]; exact hown1⟩)
end Go.Proofs.Ytegmhdabedgloaa
