import Derived.Test.YtmhfeehkpndadaaGreatQLaw
import Derived.Test.YtmhfeehkpndadaaGreatQM
import Derived.Test.YtmhfeehkpndadaaGreatRows
set_option linter.unusedSimpArgs false
set_option linter.unusedVariables false
namespace Go.Proofs.YtmhfeehkpndadaaGreat
open Go.PF Go.RowKit Go.ChangeShapes Go.WideShapes Go.ChangeAt Go.Ord

theorem own_ : ownKnob Tryz.prog.godebug = none := by kernel_rfl
theorem laid_ : laidOutB Tryz.prog = true := by kernel_rfl
theorem i64_of_wf {n : Int} (h : (Lit.int .i64 n).wf = true) : I64 n := by
  simp only [Lit.wf, Bool.and_eq_true, decide_eq_true_eq] at h
  exact h
theorem u8_of_wf {n : Int} (h : (Lit.int .u8 n).wf = true) : 0 ≤ n ∧ n ≤ 255 := by
  simp only [Lit.wf, Bool.and_eq_true, decide_eq_true_eq] at h
  exact h
theorem opens_int : Opens Tryz.prog 3 intT := by
  intro H enc w base spare held fuel cs x hx
  obtain ⟨a1, h1, _, w1⟩ := DataW.trod_int Tryz.underlying3 hx
  exact ⟨a1, h1, i64_of_wf w1⟩
theorem opens_ints : Opens Tryz.prog 24 (sliceT intT) := Opens.slice Tryz.underlying24 (by kernel_rfl) opens_int
theorem opens_rows : Opens Tryz.prog 22 (sliceT (sliceT intT)) := Opens.slice Tryz.underlying22 (by kernel_rfl) opens_ints
set_option maxRecDepth 20000 in
theorem opens_event : Opens Tryz.prog 43 evT := by
  intro H enc w base spare held fuel cs x hx
  obtain ⟨xs, n, _, _, hlen, hxl, hf⟩ := DataW.trod_struct Tryz.underlying43 hx
  have k4 : Tryz.prog.cellsOf 43 = 4 := by kernel_rfl
  have k3 : Tryz.prog.cellsOf 3 = 1 := by kernel_rfl
  have ks : Tryz.prog.cellsOf 24 = 1 := by kernel_rfl
  match cs, hlen.trans k4 with
  | [c0, c1, c2, c3], _ =>
    match xs, hxl with
    | [y0, y1, y2, y3], _ =>
      have e0 : DataW.trod enc Tryz.prog w base spare held n 3 [c0] = some y0 := by
        have h : DataW.trod enc Tryz.prog w base spare held n 3 (([c0, c1, c2, c3].drop 0).take (Tryz.prog.cellsOf 3)) = some y0 := hf 0 _ rfl
        rw [k3] at h
        exact h
      have e1 : DataW.trod enc Tryz.prog w base spare held n 3 [c1] = some y1 := by
        have h : DataW.trod enc Tryz.prog w base spare held n 3 (([c0, c1, c2, c3].drop 1).take (Tryz.prog.cellsOf 3)) = some y1 := hf 1 _ rfl
        rw [k3] at h
        exact h
      have e2 : DataW.trod enc Tryz.prog w base spare held n 3 [c2] = some y2 := by
        have h : DataW.trod enc Tryz.prog w base spare held n 3 (([c0, c1, c2, c3].drop 2).take (Tryz.prog.cellsOf 3)) = some y2 := hf 2 _ rfl
        rw [k3] at h
        exact h
      have e3 : DataW.trod enc Tryz.prog w base spare held n 24 [c3] = some y3 := by
        have h : DataW.trod enc Tryz.prog w base spare held n 24 (([c0, c1, c2, c3].drop 3).take (Tryz.prog.cellsOf 24)) = some y3 := hf 3 _ rfl
        rw [ks] at h
        exact h
      obtain ⟨a0, h0, _, w0⟩ := DataW.trod_int Tryz.underlying3 e0
      obtain ⟨a1, h1, _, w1⟩ := DataW.trod_int Tryz.underlying3 e1
      obtain ⟨a2, h2, _, w2⟩ := DataW.trod_int Tryz.underlying3 e2
      obtain ⟨nd, v, h3, hs⟩ := opens_ints enc w base spare held n [c3] _ e3
      simp at h0 h1 h2 h3
      subst h0 h1 h2 h3
      exact ⟨⟨a0, a1, a2, nd⟩, _, rfl, i64_of_wf w0, i64_of_wf w1, i64_of_wf w2, hs⟩
theorem opens_events : Opens Tryz.prog 23 (sliceT evT) := Opens.slice Tryz.underlying23 (by kernel_rfl) opens_event
end Go.Proofs.YtmhfeehkpndadaaGreat
