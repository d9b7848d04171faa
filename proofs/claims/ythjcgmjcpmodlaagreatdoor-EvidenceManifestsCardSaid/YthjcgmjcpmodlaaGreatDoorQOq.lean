import Derived.Test.YthjcgmjcpmodlaaGreatDoorQLaw
import Derived.Test.YthjcgmjcpmodlaaGreatDoorQJ
import Derived.Test.YthjcgmjcpmodlaaGreatDoorRows
import Derived.Test.YthjcgmjcpmodlaaGreatDoorCards
import Derived.Test.YthjcgmjcpmodlaaGreatDoorTie
import Derived.LaidMore
import Derived.OpenShut
import Derived.Stop.Joined
import Derived.SevenTiedAt
set_option linter.unusedSimpArgs false
set_option linter.unusedVariables false
namespace Go.Proofs.YthjcgmjcpmodlaaGreatDoor
open Go.PF Go.RowKit Go.ChangeShapes Go.WideShapes Go.ChangeAt Go.Ord

theorem own_ : ownKnob Tryz.prog.godebug = none := by kernel_rfl
theorem laid_ : laidOutB Tryz.prog = true := by kernel_rfl
theorem i64_of_wf {n : Int} (h : (Lit.int .i64 n).wf = true) : I64 n := by
  simp only [Lit.wf, Bool.and_eq_true, decide_eq_true_eq] at h
  exact h
theorem u8_of_wf {n : Int} (h : (Lit.int .u8 n).wf = true) : 0 ≤ n ∧ n ≤ 255 := by
  simp only [Lit.wf, Bool.and_eq_true, decide_eq_true_eq] at h
  exact h
theorem u16_of_wf {n : Int} (h : (Lit.int .u16 n).wf = true) : 0 ≤ n ∧ n ≤ 65535 := by
  simp only [Lit.wf, Bool.and_eq_true, decide_eq_true_eq] at h
  exact h
theorem opens_int : Opens Tryz.prog 3 intT := by
  intro H enc w base spare held fuel cs x hx
  obtain ⟨a1, h1, _, w1⟩ := DataW.trod_int Tryz.underlying3 hx
  exact ⟨a1, h1, i64_of_wf w1⟩
theorem opens_ints : Opens Tryz.prog 27 (sliceT intT) := Opens.slice Tryz.underlying27 (by kernel_rfl) opens_int
theorem opens_str : Opens Tryz.prog 9 strT := by
  intro H enc w base spare held fuel cs x hx
  obtain ⟨a1, h1, _, w1⟩ := DataW.trod_string Tryz.underlying9 hx
  exact ⟨a1, h1, w1⟩
theorem opens_strs : Opens Tryz.prog 35 (sliceT strT) := Opens.slice Tryz.underlying35 (by kernel_rfl) opens_str
set_option maxRecDepth 20000 in
theorem opens_sc : Opens Tryz.prog 54 scT := by
  intro H enc w base spare held fuel cs x hx
  obtain ⟨xs, n, _, _, hlen, hxl, hf⟩ := DataW.trod_struct Tryz.underlying54 hx
  have kk : Tryz.prog.cellsOf 54 = 3 := by kernel_rfl
  have k0 : Tryz.prog.cellsOf 3 = 1 := by kernel_rfl
  match cs, hlen.trans kk with
  | [c0, c1, c2], _ =>
    match xs, hxl with
    | [y0, y1, y2], _ =>
      have e0 : DataW.trod enc Tryz.prog w base spare held n 3 [c0] = some y0 := by
        have h : DataW.trod enc Tryz.prog w base spare held n 3 (([c0, c1, c2].drop 0).take (Tryz.prog.cellsOf 3)) = some y0 := hf 0 _ rfl
        rw [k0] at h
        exact h
      have e1 : DataW.trod enc Tryz.prog w base spare held n 3 [c1] = some y1 := by
        have h : DataW.trod enc Tryz.prog w base spare held n 3 (([c0, c1, c2].drop 1).take (Tryz.prog.cellsOf 3)) = some y1 := hf 1 _ rfl
        rw [k0] at h
        exact h
      have e2 : DataW.trod enc Tryz.prog w base spare held n 3 [c2] = some y2 := by
        have h : DataW.trod enc Tryz.prog w base spare held n 3 (([c0, c1, c2].drop 2).take (Tryz.prog.cellsOf 3)) = some y2 := hf 2 _ rfl
        rw [k0] at h
        exact h
      obtain ⟨a, h0, _, w0⟩ := DataW.trod_int Tryz.underlying3 e0
      obtain ⟨b, h1, _, w1⟩ := DataW.trod_int Tryz.underlying3 e1
      obtain ⟨c, h2, _, w2⟩ := DataW.trod_int Tryz.underlying3 e2
      simp at h0 h1 h2
      subst h0 h1 h2
      exact ⟨⟨a, b, c⟩, rfl, i64_of_wf w0, i64_of_wf w1, i64_of_wf w2⟩
theorem opens_scs : Opens Tryz.prog 22 (sliceT scT) := Opens.slice Tryz.underlying22 (by kernel_rfl) opens_sc
set_option maxRecDepth 20000 in
theorem opens_rc : Opens Tryz.prog 37 rcT := by
  intro H enc w base spare held fuel cs x hx
  obtain ⟨xs, n, _, _, hlen, hxl, hf⟩ := DataW.trod_struct Tryz.underlying37 hx
  have kk : Tryz.prog.cellsOf 37 = 6 := by kernel_rfl
  have k0 : Tryz.prog.cellsOf 3 = 1 := by kernel_rfl
  have k1 : Tryz.prog.cellsOf 9 = 1 := by kernel_rfl
  have k2 : Tryz.prog.cellsOf 35 = 1 := by kernel_rfl
  match cs, hlen.trans kk with
  | [c0, c1, c2, c3, c4, c5], _ =>
    match xs, hxl with
    | [y0, y1, y2, y3, y4, y5], _ =>
      have e0 : DataW.trod enc Tryz.prog w base spare held n 3 [c0] = some y0 := by
        have h : DataW.trod enc Tryz.prog w base spare held n 3 (([c0, c1, c2, c3, c4, c5].drop 0).take (Tryz.prog.cellsOf 3)) = some y0 := hf 0 _ rfl
        rw [k0] at h
        exact h
      have e1 : DataW.trod enc Tryz.prog w base spare held n 3 [c1] = some y1 := by
        have h : DataW.trod enc Tryz.prog w base spare held n 3 (([c0, c1, c2, c3, c4, c5].drop 1).take (Tryz.prog.cellsOf 3)) = some y1 := hf 1 _ rfl
        rw [k0] at h
        exact h
      have e2 : DataW.trod enc Tryz.prog w base spare held n 3 [c2] = some y2 := by
        have h : DataW.trod enc Tryz.prog w base spare held n 3 (([c0, c1, c2, c3, c4, c5].drop 2).take (Tryz.prog.cellsOf 3)) = some y2 := hf 2 _ rfl
        rw [k0] at h
        exact h
      have e3 : DataW.trod enc Tryz.prog w base spare held n 3 [c3] = some y3 := by
        have h : DataW.trod enc Tryz.prog w base spare held n 3 (([c0, c1, c2, c3, c4, c5].drop 3).take (Tryz.prog.cellsOf 3)) = some y3 := hf 3 _ rfl
        rw [k0] at h
        exact h
      have e4 : DataW.trod enc Tryz.prog w base spare held n 9 [c4] = some y4 := by
        have h : DataW.trod enc Tryz.prog w base spare held n 9 (([c0, c1, c2, c3, c4, c5].drop 4).take (Tryz.prog.cellsOf 9)) = some y4 := hf 4 _ rfl
        rw [k1] at h
        exact h
      have e5 : DataW.trod enc Tryz.prog w base spare held n 35 [c5] = some y5 := by
        have h : DataW.trod enc Tryz.prog w base spare held n 35 (([c0, c1, c2, c3, c4, c5].drop 5).take (Tryz.prog.cellsOf 35)) = some y5 := hf 5 _ rfl
        rw [k2] at h
        exact h
      obtain ⟨a, h0, _, w0⟩ := DataW.trod_int Tryz.underlying3 e0
      obtain ⟨b, h1, _, w1⟩ := DataW.trod_int Tryz.underlying3 e1
      obtain ⟨c, h2, _, w2⟩ := DataW.trod_int Tryz.underlying3 e2
      obtain ⟨d, h3, _, w3⟩ := DataW.trod_int Tryz.underlying3 e3
      obtain ⟨s, h4, _, w4⟩ := DataW.trod_string Tryz.underlying9 e4
      obtain ⟨l, lv, h5, w5⟩ := opens_strs enc w base spare held n [c5] _ e5
      simp at h0 h1 h2 h3 h4 h5
      subst h0 h1 h2 h3 h4 h5
      exact ⟨⟨a, b, c, d, s, l⟩, _, rfl, i64_of_wf w0, i64_of_wf w1, i64_of_wf w2, i64_of_wf w3, w4, w5⟩
theorem opens_rcs : Opens Tryz.prog 23 (sliceT rcT) := Opens.slice Tryz.underlying23 (by kernel_rfl) opens_rc
set_option maxRecDepth 20000 in
theorem opens_ev : Opens Tryz.prog 29 evT := by
  intro H enc w base spare held fuel cs x hx
  obtain ⟨xs, n, _, _, hlen, hxl, hf⟩ := DataW.trod_struct Tryz.underlying29 hx
  have kk : Tryz.prog.cellsOf 29 = 4 := by kernel_rfl
  have k0 : Tryz.prog.cellsOf 3 = 1 := by kernel_rfl
  have k1 : Tryz.prog.cellsOf 27 = 1 := by kernel_rfl
  match cs, hlen.trans kk with
  | [c0, c1, c2, c3], _ =>
    match xs, hxl with
    | [y0, y1, y2, y3], _ =>
      have e0 : DataW.trod enc Tryz.prog w base spare held n 3 [c0] = some y0 := by
        have h : DataW.trod enc Tryz.prog w base spare held n 3 (([c0, c1, c2, c3].drop 0).take (Tryz.prog.cellsOf 3)) = some y0 := hf 0 _ rfl
        rw [k0] at h
        exact h
      have e1 : DataW.trod enc Tryz.prog w base spare held n 3 [c1] = some y1 := by
        have h : DataW.trod enc Tryz.prog w base spare held n 3 (([c0, c1, c2, c3].drop 1).take (Tryz.prog.cellsOf 3)) = some y1 := hf 1 _ rfl
        rw [k0] at h
        exact h
      have e2 : DataW.trod enc Tryz.prog w base spare held n 3 [c2] = some y2 := by
        have h : DataW.trod enc Tryz.prog w base spare held n 3 (([c0, c1, c2, c3].drop 2).take (Tryz.prog.cellsOf 3)) = some y2 := hf 2 _ rfl
        rw [k0] at h
        exact h
      have e3 : DataW.trod enc Tryz.prog w base spare held n 27 [c3] = some y3 := by
        have h : DataW.trod enc Tryz.prog w base spare held n 27 (([c0, c1, c2, c3].drop 3).take (Tryz.prog.cellsOf 27)) = some y3 := hf 3 _ rfl
        rw [k1] at h
        exact h
      obtain ⟨a, h0, _, w0⟩ := DataW.trod_int Tryz.underlying3 e0
      obtain ⟨b, h1, _, w1⟩ := DataW.trod_int Tryz.underlying3 e1
      obtain ⟨c, h2, _, w2⟩ := DataW.trod_int Tryz.underlying3 e2
      obtain ⟨l, lv, h3, w3⟩ := opens_ints enc w base spare held n [c3] _ e3
      simp at h0 h1 h2 h3
      subst h0 h1 h2 h3
      exact ⟨⟨a, b, c, l⟩, _, rfl, i64_of_wf w0, i64_of_wf w1, i64_of_wf w2, w3⟩
theorem opens_evs : Opens Tryz.prog 24 (sliceT evT) := Opens.slice Tryz.underlying24 (by kernel_rfl) opens_ev

abbrev laidAll : List (String × DataW Unit) := [("math/bits.deBruijn32tab", Rows.laid_math_bits_deBruijn32tab), ("math/bits.deBruijn64tab", Rows.laid_math_bits_deBruijn64tab), ("internal/strconv.uint64pow10", Rows.laid_internal_strconv_uint64pow10)]
theorem gPow : Tryz.prog.globalNamed "internal/strconv.uint64pow10" = some 0 := by kernel_rfl
theorem tPow : (Tryz.prog.globals[0]?).map (·.type) = some 144 := by kernel_rfl
theorem tabs_of_laid {W : World} (h : laidMetH Tryz.prog laidAll W) : Tabs W := by
  rw [MakeChecks.laidMetH_plain _ _ _ (by kernel_rfl)] at h
  obtain ⟨ps, ⟨g0, t0, cs0, f0, p0, q0, hg0, ht0, hv0, hd0, ⟨g1, t1, cs1, f1, p1, q1, hg1, ht1, hv1, hd1, ⟨g2, t2, cs2, f2, p2, q2, hg2, ht2, hv2, hd2, _, _⟩, _⟩, _⟩, _, _⟩ := h
  obtain rfl := Option.some.inj (gPow.symm.trans hg2)
  obtain rfl := Option.some.inj (tPow.symm.trans ht2)
  have e2 : (Rows.laid_internal_strconv_uint64pow10 : DataW Unit) = Lib.tabData .u64 Lib.pow10Tab := by rfl
  rw [e2] at hd2
  have c2 := Lib.cells_of_tab Tryz.underlying144 Tryz.underlying94 (by kernel_rfl) (by kernel_rfl) hd2
  refine ⟨?_⟩
  unfold Lib.TabIs
  rw [hv2, ← c2]
end Go.Proofs.YthjcgmjcpmodlaaGreatDoor
