import Derived.Test.YthldjchogdefjaaDoorLaw
import Derived.Test.YthldjchogdefjaaDoorN
import Derived.Test.YthldjchogdefjaaDoorRows
import Derived.Test.YthldjchogdefjaaDoorCards
import Derived.Test.YthldjchogdefjaaDoorTie
import Derived.LaidMore
import Derived.OpenShut
import Derived.Stop.Joined
import Derived.SevenTiedAt
namespace Go.Proofs.YthldjchogdefjaaDoor
open Go.PF Go.RowKit Go.ChangeShapes Go.WideShapes Go.ChangeAt

theorem own_ : ownKnob Tryd.prog.godebug = none := by kernel_rfl
theorem laid_ : laidOutB Tryd.prog = true := by kernel_rfl
theorem i64_of_wf {n : Int} (h : (Lit.int .i64 n).wf = true) : I64 n := by
  simp only [Lit.wf, Bool.and_eq_true, decide_eq_true_eq] at h
  exact h
theorem u8_of_wf {n : Int} (h : (Lit.int .u8 n).wf = true) : 0 ≤ n ∧ n ≤ 255 := by
  simp only [Lit.wf, Bool.and_eq_true, decide_eq_true_eq] at h
  exact h

abbrev laidAll : List (String × DataW Unit) := [("math/bits.deBruijn32tab", Rows.laid_math_bits_deBruijn32tab), ("math/bits.deBruijn64tab", Rows.laid_math_bits_deBruijn64tab), ("internal/strconv.uint64pow10", Rows.laid_internal_strconv_uint64pow10), ("postilion/ident.weights", Rows.laid_postilion_ident_weights)]
theorem gPow : Tryd.prog.globalNamed "internal/strconv.uint64pow10" = some 1 := by kernel_rfl
theorem gWts : Tryd.prog.globalNamed "postilion/ident.weights" = some 0 := by kernel_rfl
theorem tPow : (Tryd.prog.globals[1]?).map (·.type) = some 97 := by kernel_rfl
theorem tWts : (Tryd.prog.globals[0]?).map (·.type) = some 40 := by kernel_rfl
theorem tabs_of_laid {W : World} (h : laidMetH Tryd.prog laidAll W) : Tabs W := by
  rw [MakeChecks.laidMetH_plain _ _ _ (by kernel_rfl)] at h
  obtain ⟨ps, ⟨g0, t0, cs0, f0, p0, q0, hg0, ht0, hv0, hd0, ⟨g1, t1, cs1, f1, p1, q1, hg1, ht1, hv1, hd1, ⟨g2, t2, cs2, f2, p2, q2, hg2, ht2, hv2, hd2, ⟨g3, t3, cs3, f3, p3, q3, hg3, ht3, hv3, hd3, _, _⟩, _⟩, _⟩, _⟩, _, _⟩ := h
  obtain rfl := Option.some.inj (gPow.symm.trans hg2)
  obtain rfl := Option.some.inj (gWts.symm.trans hg3)
  obtain rfl := Option.some.inj (tPow.symm.trans ht2)
  obtain rfl := Option.some.inj (tWts.symm.trans ht3)
  have e2 : (Rows.laid_internal_strconv_uint64pow10 : DataW Unit) = Lib.tabData .u64 Lib.pow10Tab := by rfl
  have e3 : (Rows.laid_postilion_ident_weights : DataW Unit) = Lib.tabData .i64 [8, 6, 4, 2, 3, 5, 9, 7] := by rfl
  rw [e2] at hd2
  rw [e3] at hd3
  have c2 := Lib.cells_of_tab Tryd.underlying97 Tryd.underlying69 (by kernel_rfl) (by kernel_rfl) hd2
  have c3 := Lib.cells_of_tab Tryd.underlying40 Tryd.underlying3 (by kernel_rfl) (by kernel_rfl) hd3
  refine ⟨?_, ?_⟩
  · have hT : Lib.TabIs Tryd.prog W "postilion/ident.weights" .i64 [8, 6, 4, 2, 3, 5, 9, 7] := by
      unfold Lib.TabIs
      rw [hv3, ← c3]
    intro i hi
    have := hT.cell gWts i hi
    rw [this]
    obtain rfl | rfl | rfl | rfl | rfl | rfl | rfl | rfl : i = 0 ∨ i = 1 ∨ i = 2 ∨ i = 3 ∨ i = 4 ∨ i = 5 ∨ i = 6 ∨ i = 7 := by omega
    all_goals rfl
  · unfold Lib.TabIs
    rw [hv2, ← c2]
end Go.Proofs.YthldjchogdefjaaDoor
