import Derived.Test.YtegmhdabedgloaaLaw
import Derived.Test.YtegmhdabedgloaaX
import Derived.Test.YtegmhdabedgloaaRows
namespace Go.Proofs.Ytegmhdabedgloaa
open Go.PF Go.RowKit Go.ChangeShapes Go.WideShapes Go.ChangeAt

theorem own_ : ownKnob Try.prog.godebug = none := by kernel_rfl
theorem laid_ : laidOutB Try.prog = true := by kernel_rfl
theorem i64_of_wf {n : Int} (h : (Lit.int .i64 n).wf = true) : I64 n := by
  simp only [Lit.wf, Bool.and_eq_true, decide_eq_true_eq] at h
  exact h

theorem u8_of_wf {n : Int} (h : (Lit.int .u8 n).wf = true) : 0 ≤ n ∧ n ≤ 255 := by
  simp only [Lit.wf, Bool.and_eq_true, decide_eq_true_eq] at h
  exact h

theorem opens_box : Opens Try.prog 28 boxT := by
  intro H enc w base spare held fuel cs x hx
  obtain ⟨xs, n, _, _, hlen, hxl, hf⟩ := DataW.trod_struct Try.underlying28 hx
  have k5 : Try.prog.cellsOf 28 = 5 := by kernel_rfl
  have k9 : Try.prog.cellsOf 9 = 1 := by kernel_rfl
  have k3 : Try.prog.cellsOf 3 = 1 := by kernel_rfl
  have k4 : Try.prog.cellsOf 4 = 1 := by kernel_rfl
  match cs, hlen.trans k5 with
  | [c0, c1, c2, c3, c4], _ =>
    match xs, hxl with
    | [y0, y1, y2, y3, y4], _ =>
      have e0 : DataW.trod enc Try.prog w base spare held n 9 [c0] = some y0 := by
        have h : DataW.trod enc Try.prog w base spare held n 9 (([c0, c1, c2, c3, c4].drop 0).take (Try.prog.cellsOf 9)) = some y0 := hf 0 _ rfl
        rw [k9] at h
        exact h
      have e1 : DataW.trod enc Try.prog w base spare held n 3 [c1] = some y1 := by
        have h : DataW.trod enc Try.prog w base spare held n 3 (([c0, c1, c2, c3, c4].drop 1).take (Try.prog.cellsOf 3)) = some y1 := hf 1 _ rfl
        rw [k3] at h
        exact h
      have e2 : DataW.trod enc Try.prog w base spare held n 3 [c2] = some y2 := by
        have h : DataW.trod enc Try.prog w base spare held n 3 (([c0, c1, c2, c3, c4].drop 2).take (Try.prog.cellsOf 3)) = some y2 := hf 2 _ rfl
        rw [k3] at h
        exact h
      have e3 : DataW.trod enc Try.prog w base spare held n 3 [c3] = some y3 := by
        have h : DataW.trod enc Try.prog w base spare held n 3 (([c0, c1, c2, c3, c4].drop 3).take (Try.prog.cellsOf 3)) = some y3 := hf 3 _ rfl
        rw [k3] at h
        exact h
      have e4 : DataW.trod enc Try.prog w base spare held n 4 [c4] = some y4 := by
        have h : DataW.trod enc Try.prog w base spare held n 4 (([c0, c1, c2, c3, c4].drop 4).take (Try.prog.cellsOf 4)) = some y4 := hf 4 _ rfl
        rw [k4] at h
        exact h
      obtain ⟨s, h0, _, hs⟩ := DataW.trod_string Try.underlying9 e0
      obtain ⟨a1, h1, _, w1⟩ := DataW.trod_int Try.underlying3 e1
      obtain ⟨a2, h2, _, w2⟩ := DataW.trod_int Try.underlying3 e2
      obtain ⟨a3, h3, _, w3⟩ := DataW.trod_int Try.underlying3 e3
      obtain ⟨b, h4, _⟩ := DataW.trod_bool Try.underlying4 e4
      simp at h0 h1 h2 h3 h4
      subst h0 h1 h2 h3 h4
      exact ⟨⟨s, a1, a2, a3, b⟩, rfl, hs, i64_of_wf w1, i64_of_wf w2, i64_of_wf w3⟩

theorem opens_boxes : Opens Try.prog 22 (sliceT boxT) := Opens.slice Try.underlying22 (by kernel_rfl) opens_box
end Go.Proofs.Ytegmhdabedgloaa
