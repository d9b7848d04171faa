import Derived.Test.YthjcgmjcpmodlaaDoorQLaw
import Derived.Test.YthjcgmjcpmodlaaDoorQJ
import Derived.Test.YthjcgmjcpmodlaaDoorRows
import Derived.Test.YthjcgmjcpmodlaaDoorCards
import Derived.Test.YthjcgmjcpmodlaaDoorTie
import Derived.LaidMore
import Derived.OpenShut
import Derived.Stop.Joined
import Derived.SevenTiedAt
set_option linter.unusedSimpArgs false
set_option linter.unusedVariables false
namespace Go.Proofs.YthjcgmjcpmodlaaDoor
open Go.PF Go.RowKit Go.ChangeShapes Go.WideShapes Go.ChangeAt Go.Ord

theorem own_ : ownKnob Tryd.prog.godebug = none := by kernel_rfl
theorem laid_ : laidOutB Tryd.prog = true := by kernel_rfl
theorem i64_of_wf {n : Int} (h : (Lit.int .i64 n).wf = true) : I64 n := by
  simp only [Lit.wf, Bool.and_eq_true, decide_eq_true_eq] at h
  exact h
theorem u8_of_wf {n : Int} (h : (Lit.int .u8 n).wf = true) : 0 ≤ n ∧ n ≤ 255 := by
  simp only [Lit.wf, Bool.and_eq_true, decide_eq_true_eq] at h
  exact h
theorem u16_of_wf {n : Int} (h : (Lit.int .u16 n).wf = true) : 0 ≤ n ∧ n ≤ 65535 := by
  simp only [Lit.wf, Bool.and_eq_true, decide_eq_true_eq] at h
  exact h
theorem opens_int : Opens Tryd.prog 3 intT := by
  intro H enc w base spare held fuel cs x hx
  obtain ⟨a1, h1, _, w1⟩ := DataW.trod_int Tryd.underlying3 hx
  exact ⟨a1, h1, i64_of_wf w1⟩
theorem opens_ints : Opens Tryd.prog 29 (sliceT intT) := Opens.slice Tryd.underlying29 (by kernel_rfl) opens_int
theorem opens_str : Opens Tryd.prog 9 strT := by
  intro H enc w base spare held fuel cs x hx
  obtain ⟨a1, h1, _, w1⟩ := DataW.trod_string Tryd.underlying9 hx
  exact ⟨a1, h1, w1⟩
theorem opens_strs : Opens Tryd.prog 33 (sliceT strT) := Opens.slice Tryd.underlying33 (by kernel_rfl) opens_str
set_option maxRecDepth 20000 in
theorem opens_sc : Opens Tryd.prog 50 scT := by
  intro H enc w base spare held fuel cs x hx
  obtain ⟨xs, n, _, _, hlen, hxl, hf⟩ := DataW.trod_struct Tryd.underlying50 hx
  have kk : Tryd.prog.cellsOf 50 = 3 := by kernel_rfl
  have k0 : Tryd.prog.cellsOf 3 = 1 := by kernel_rfl
  match cs, hlen.trans kk with
  | [c0, c1, c2], _ =>
    match xs, hxl with
    | [y0, y1, y2], _ =>
      have e0 : DataW.trod enc Tryd.prog w base spare held n 3 [c0] = some y0 := by
        have h : DataW.trod enc Tryd.prog w base spare held n 3 (([c0, c1, c2].drop 0).take (Tryd.prog.cellsOf 3)) = some y0 := hf 0 _ rfl
        rw [k0] at h
        exact h
      have e1 : DataW.trod enc Tryd.prog w base spare held n 3 [c1] = some y1 := by
        have h : DataW.trod enc Tryd.prog w base spare held n 3 (([c0, c1, c2].drop 1).take (Tryd.prog.cellsOf 3)) = some y1 := hf 1 _ rfl
        rw [k0] at h
        exact h
      have e2 : DataW.trod enc Tryd.prog w base spare held n 3 [c2] = some y2 := by
        have h : DataW.trod enc Tryd.prog w base spare held n 3 (([c0, c1, c2].drop 2).take (Tryd.prog.cellsOf 3)) = some y2 := hf 2 _ rfl
        rw [k0] at h
        exact h
      obtain ⟨a, h0, _, w0⟩ := DataW.trod_int Tryd.underlying3 e0
      obtain ⟨b, h1, _, w1⟩ := DataW.trod_int Tryd.underlying3 e1
      obtain ⟨c, h2, _, w2⟩ := DataW.trod_int Tryd.underlying3 e2
      simp at h0 h1 h2
      subst h0 h1 h2
      exact ⟨⟨a, b, c⟩, rfl, i64_of_wf w0, i64_of_wf w1, i64_of_wf w2⟩
theorem opens_scs : Opens Tryd.prog 22 (sliceT scT) := Opens.slice Tryd.underlying22 (by kernel_rfl) opens_sc
set_option maxRecDepth 20000 in
theorem opens_rc : Opens Tryd.prog 35 rcT := by
  intro H enc w base spare held fuel cs x hx
  obtain ⟨xs, n, _, _, hlen, hxl, hf⟩ := DataW.trod_struct Tryd.underlying35 hx
  have kk : Tryd.prog.cellsOf 35 = 6 := by kernel_rfl
  have k0 : Tryd.prog.cellsOf 3 = 1 := by kernel_rfl
  have k1 : Tryd.prog.cellsOf 9 = 1 := by kernel_rfl
  have k2 : Tryd.prog.cellsOf 33 = 1 := by kernel_rfl
  match cs, hlen.trans kk with
  | [c0, c1, c2, c3, c4, c5], _ =>
    match xs, hxl with
    | [y0, y1, y2, y3, y4, y5], _ =>
      have e0 : DataW.trod enc Tryd.prog w base spare held n 3 [c0] = some y0 := by
        have h : DataW.trod enc Tryd.prog w base spare held n 3 (([c0, c1, c2, c3, c4, c5].drop 0).take (Tryd.prog.cellsOf 3)) = some y0 := hf 0 _ rfl
        rw [k0] at h
        exact h
      have e1 : DataW.trod enc Tryd.prog w base spare held n 3 [c1] = some y1 := by
        have h : DataW.trod enc Tryd.prog w base spare held n 3 (([c0, c1, c2, c3, c4, c5].drop 1).take (Tryd.prog.cellsOf 3)) = some y1 := hf 1 _ rfl
        rw [k0] at h
        exact h
      have e2 : DataW.trod enc Tryd.prog w base spare held n 3 [c2] = some y2 := by
        have h : DataW.trod enc Tryd.prog w base spare held n 3 (([c0, c1, c2, c3, c4, c5].drop 2).take (Tryd.prog.cellsOf 3)) = some y2 := hf 2 _ rfl
        rw [k0] at h
        exact h
      have e3 : DataW.trod enc Tryd.prog w base spare held n 3 [c3] = some y3 := by
        have h : DataW.trod enc Tryd.prog w base spare held n 3 (([c0, c1, c2, c3, c4, c5].drop 3).take (Tryd.prog.cellsOf 3)) = some y3 := hf 3 _ rfl
        rw [k0] at h
        exact h
      have e4 : DataW.trod enc Tryd.prog w base spare held n 9 [c4] = some y4 := by
        have h : DataW.trod enc Tryd.prog w base spare held n 9 (([c0, c1, c2, c3, c4, c5].drop 4).take (Tryd.prog.cellsOf 9)) = some y4 := hf 4 _ rfl
        rw [k1] at h
        exact h
      have e5 : DataW.trod enc Tryd.prog w base spare held n 33 [c5] = some y5 := by
        have h : DataW.trod enc Tryd.prog w base spare held n 33 (([c0, c1, c2, c3, c4, c5].drop 5).take (Tryd.prog.cellsOf 33)) = some y5 := hf 5 _ rfl
        rw [k2] at h
        exact h
      obtain ⟨a, h0, _, w0⟩ := DataW.trod_int Tryd.underlying3 e0
      obtain ⟨b, h1, _, w1⟩ := DataW.trod_int Tryd.underlying3 e1
      obtain ⟨c, h2, _, w2⟩ := DataW.trod_int Tryd.underlying3 e2
      obtain ⟨d, h3, _, w3⟩ := DataW.trod_int Tryd.underlying3 e3
      obtain ⟨s, h4, _, w4⟩ := DataW.trod_string Tryd.underlying9 e4
      obtain ⟨l, lv, h5, w5⟩ := opens_strs enc w base spare held n [c5] _ e5
      simp at h0 h1 h2 h3 h4 h5
      subst h0 h1 h2 h3 h4 h5
      exact ⟨⟨a, b, c, d, s, l⟩, _, rfl, i64_of_wf w0, i64_of_wf w1, i64_of_wf w2, i64_of_wf w3, w4, w5⟩
theorem opens_rcs : Opens Tryd.prog 23 (sliceT rcT) := Opens.slice Tryd.underlying23 (by kernel_rfl) opens_rc
set_option maxRecDepth 20000 in
theorem opens_ev : Opens Tryd.prog 31 evT := by
  intro H enc w base spare held fuel cs x hx
  obtain ⟨xs, n, _, _, hlen, hxl, hf⟩ := DataW.trod_struct Tryd.underlying31 hx
  have kk : Tryd.prog.cellsOf 31 = 4 := by kernel_rfl
  have k0 : Tryd.prog.cellsOf 3 = 1 := by kernel_rfl
  have k1 : Tryd.prog.cellsOf 29 = 1 := by kernel_rfl
  match cs, hlen.trans kk with
  | [c0, c1, c2, c3], _ =>
    match xs, hxl with
    | [y0, y1, y2, y3], _ =>
      have e0 : DataW.trod enc Tryd.prog w base spare held n 3 [c0] = some y0 := by
        have h : DataW.trod enc Tryd.prog w base spare held n 3 (([c0, c1, c2, c3].drop 0).take (Tryd.prog.cellsOf 3)) = some y0 := hf 0 _ rfl
        rw [k0] at h
        exact h
      have e1 : DataW.trod enc Tryd.prog w base spare held n 3 [c1] = some y1 := by
        have h : DataW.trod enc Tryd.prog w base spare held n 3 (([c0, c1, c2, c3].drop 1).take (Tryd.prog.cellsOf 3)) = some y1 := hf 1 _ rfl
        rw [k0] at h
        exact h
      have e2 : DataW.trod enc Tryd.prog w base spare held n 3 [c2] = some y2 := by
        have h : DataW.trod enc Tryd.prog w base spare held n 3 (([c0, c1, c2, c3].drop 2).take (Tryd.prog.cellsOf 3)) = some y2 := hf 2 _ rfl
        rw [k0] at h
        exact h
      have e3 : DataW.trod enc Tryd.prog w base spare held n 29 [c3] = some y3 := by
        have h : DataW.trod enc Tryd.prog w base spare held n 29 (([c0, c1, c2, c3].drop 3).take (Tryd.prog.cellsOf 29)) = some y3 := hf 3 _ rfl
        rw [k1] at h
        exact h
      obtain ⟨a, h0, _, w0⟩ := DataW.trod_int Tryd.underlying3 e0
      obtain ⟨b, h1, _, w1⟩ := DataW.trod_int Tryd.underlying3 e1
      obtain ⟨c, h2, _, w2⟩ := DataW.trod_int Tryd.underlying3 e2
      obtain ⟨l, lv, h3, w3⟩ := opens_ints enc w base spare held n [c3] _ e3
      simp at h0 h1 h2 h3
      subst h0 h1 h2 h3
      exact ⟨⟨a, b, c, l⟩, _, rfl, i64_of_wf w0, i64_of_wf w1, i64_of_wf w2, w3⟩
theorem opens_evs : Opens Tryd.prog 26 (sliceT evT) := Opens.slice Tryd.underlying26 (by kernel_rfl) opens_ev

abbrev laidAll : List (String × DataW Unit) := [("math/bits.deBruijn32tab", Rows.laid_math_bits_deBruijn32tab), ("math/bits.deBruijn64tab", Rows.laid_math_bits_deBruijn64tab), ("internal/strconv.uint64pow10", Rows.laid_internal_strconv_uint64pow10)]
theorem gPow : Tryd.prog.globalNamed "internal/strconv.uint64pow10" = some 0 := by kernel_rfl
theorem tPow : (Tryd.prog.globals[0]?).map (·.type) = some 140 := by kernel_rfl
theorem tabs_of_laid {W : World} (h : laidMetH Tryd.prog laidAll W) : Tabs W := by
  rw [MakeChecks.laidMetH_plain _ _ _ (by kernel_rfl)] at h
  obtain ⟨ps, ⟨g0, t0, cs0, f0, p0, q0, hg0, ht0, hv0, hd0, ⟨g1, t1, cs1, f1, p1, q1, hg1, ht1, hv1, hd1, ⟨g2, t2, cs2, f2, p2, q2, hg2, ht2, hv2, hd2, _, _⟩, _⟩, _⟩, _, _⟩ := h
  obtain rfl := Option.some.inj (gPow.symm.trans hg2)
  obtain rfl := Option.some.inj (tPow.symm.trans ht2)
  have e2 : (Rows.laid_internal_strconv_uint64pow10 : DataW Unit) = Lib.tabData .u64 Lib.pow10Tab := by rfl
  rw [e2] at hd2
  have c2 := Lib.cells_of_tab Tryd.underlying140 Tryd.underlying95 (by kernel_rfl) (by kernel_rfl) hd2
  refine ⟨?_⟩
  unfold Lib.TabIs
  rw [hv2, ← c2]
end Go.Proofs.YthjcgmjcpmodlaaDoor
