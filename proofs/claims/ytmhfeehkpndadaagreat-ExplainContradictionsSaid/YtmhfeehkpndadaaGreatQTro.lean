/- The readings of a call's arguments, five to twelve. -/
import Derived.Test.YtmhfeehkpndadaaGreatQLaw
set_option linter.unusedSimpArgs false
set_option linter.unusedVariables false
namespace Go.PF
open Go.RowKit Go.ChangeShapes Go.WideShapes Go.ChangeAt
section
variable {H : Type} {enc : TypeId × Value → H} {P : Program} {w : World} {base : Nat} {spare : Nat → Bool} {held : Bool}
theorem trodAll_five {t0 t1 t2 t3 t4 : TypeId} {args : Array Value} {ds : List (DataW H)} {ps : List MemPlace} (h : DataW.TrodAll enc P w base spare held [t0, t1, t2, t3, t4] args.toList ds ps) :
    ∃ v0 v1 v2 v3 v4 d0 d1 d2 d3 d4 p0 p1 p2 p3 p4, args = #[v0, v1, v2, v3, v4] ∧ ds = [d0, d1, d2, d3, d4] ∧ ps = p0 ++ p1 ++ p2 ++ p3 ++ p4 ∧ DataW.Trod enc P w base spare held t0 v0 d0 p0 ∧ DataW.Trod enc P w base spare held t1 v1 d1 p1 ∧ DataW.Trod enc P w base spare held t2 v2 d2 p2 ∧ DataW.Trod enc P w base spare held t3 v3 d3 p3 ∧ DataW.Trod enc P w base spare held t4 v4 d4 p4 := by
  obtain ⟨v0, vs0, d0, ds0, p0, q0, hargs, rfl, rfl, hd0, h0⟩ := trodAll_cons h
  obtain ⟨v1, vs1, d1, ds1, p1, q1, rfl, rfl, rfl, hd1, h1⟩ := trodAll_cons h0
  obtain ⟨v2, vs2, d2, ds2, p2, q2, rfl, rfl, rfl, hd2, h2⟩ := trodAll_cons h1
  obtain ⟨v3, vs3, d3, ds3, p3, q3, rfl, rfl, rfl, hd3, h3⟩ := trodAll_cons h2
  obtain ⟨v4, vs4, d4, ds4, p4, q4, rfl, rfl, rfl, hd4, h4⟩ := trodAll_cons h3
  obtain ⟨rfl, rfl, rfl⟩ := trodAll_nil h4
  exact ⟨v0, v1, v2, v3, v4, d0, d1, d2, d3, d4, p0, p1, p2, p3, p4, by cases args; simp_all, rfl, by simp, hd0, hd1, hd2, hd3, hd4⟩
theorem trodAll_six {t0 t1 t2 t3 t4 t5 : TypeId} {args : Array Value} {ds : List (DataW H)} {ps : List MemPlace} (h : DataW.TrodAll enc P w base spare held [t0, t1, t2, t3, t4, t5] args.toList ds ps) :
    ∃ v0 v1 v2 v3 v4 v5 d0 d1 d2 d3 d4 d5 p0 p1 p2 p3 p4 p5, args = #[v0, v1, v2, v3, v4, v5] ∧ ds = [d0, d1, d2, d3, d4, d5] ∧ ps = p0 ++ p1 ++ p2 ++ p3 ++ p4 ++ p5 ∧ DataW.Trod enc P w base spare held t0 v0 d0 p0 ∧ DataW.Trod enc P w base spare held t1 v1 d1 p1 ∧ DataW.Trod enc P w base spare held t2 v2 d2 p2 ∧ DataW.Trod enc P w base spare held t3 v3 d3 p3 ∧ DataW.Trod enc P w base spare held t4 v4 d4 p4 ∧ DataW.Trod enc P w base spare held t5 v5 d5 p5 := by
  obtain ⟨v0, vs0, d0, ds0, p0, q0, hargs, rfl, rfl, hd0, h0⟩ := trodAll_cons h
  obtain ⟨v1, vs1, d1, ds1, p1, q1, rfl, rfl, rfl, hd1, h1⟩ := trodAll_cons h0
  obtain ⟨v2, vs2, d2, ds2, p2, q2, rfl, rfl, rfl, hd2, h2⟩ := trodAll_cons h1
  obtain ⟨v3, vs3, d3, ds3, p3, q3, rfl, rfl, rfl, hd3, h3⟩ := trodAll_cons h2
  obtain ⟨v4, vs4, d4, ds4, p4, q4, rfl, rfl, rfl, hd4, h4⟩ := trodAll_cons h3
  obtain ⟨v5, vs5, d5, ds5, p5, q5, rfl, rfl, rfl, hd5, h5⟩ := trodAll_cons h4
  obtain ⟨rfl, rfl, rfl⟩ := trodAll_nil h5
  exact ⟨v0, v1, v2, v3, v4, v5, d0, d1, d2, d3, d4, d5, p0, p1, p2, p3, p4, p5, by cases args; simp_all, rfl, by simp, hd0, hd1, hd2, hd3, hd4, hd5⟩
theorem trodAll_seven {t0 t1 t2 t3 t4 t5 t6 : TypeId} {args : Array Value} {ds : List (DataW H)} {ps : List MemPlace} (h : DataW.TrodAll enc P w base spare held [t0, t1, t2, t3, t4, t5, t6] args.toList ds ps) :
    ∃ v0 v1 v2 v3 v4 v5 v6 d0 d1 d2 d3 d4 d5 d6 p0 p1 p2 p3 p4 p5 p6, args = #[v0, v1, v2, v3, v4, v5, v6] ∧ ds = [d0, d1, d2, d3, d4, d5, d6] ∧ ps = p0 ++ p1 ++ p2 ++ p3 ++ p4 ++ p5 ++ p6 ∧ DataW.Trod enc P w base spare held t0 v0 d0 p0 ∧ DataW.Trod enc P w base spare held t1 v1 d1 p1 ∧ DataW.Trod enc P w base spare held t2 v2 d2 p2 ∧ DataW.Trod enc P w base spare held t3 v3 d3 p3 ∧ DataW.Trod enc P w base spare held t4 v4 d4 p4 ∧ DataW.Trod enc P w base spare held t5 v5 d5 p5 ∧ DataW.Trod enc P w base spare held t6 v6 d6 p6 := by
  obtain ⟨v0, vs0, d0, ds0, p0, q0, hargs, rfl, rfl, hd0, h0⟩ := trodAll_cons h
  obtain ⟨v1, vs1, d1, ds1, p1, q1, rfl, rfl, rfl, hd1, h1⟩ := trodAll_cons h0
  obtain ⟨v2, vs2, d2, ds2, p2, q2, rfl, rfl, rfl, hd2, h2⟩ := trodAll_cons h1
  obtain ⟨v3, vs3, d3, ds3, p3, q3, rfl, rfl, rfl, hd3, h3⟩ := trodAll_cons h2
  obtain ⟨v4, vs4, d4, ds4, p4, q4, rfl, rfl, rfl, hd4, h4⟩ := trodAll_cons h3
  obtain ⟨v5, vs5, d5, ds5, p5, q5, rfl, rfl, rfl, hd5, h5⟩ := trodAll_cons h4
  obtain ⟨v6, vs6, d6, ds6, p6, q6, rfl, rfl, rfl, hd6, h6⟩ := trodAll_cons h5
  obtain ⟨rfl, rfl, rfl⟩ := trodAll_nil h6
  exact ⟨v0, v1, v2, v3, v4, v5, v6, d0, d1, d2, d3, d4, d5, d6, p0, p1, p2, p3, p4, p5, p6, by cases args; simp_all, rfl, by simp, hd0, hd1, hd2, hd3, hd4, hd5, hd6⟩
theorem trodAll_eight {t0 t1 t2 t3 t4 t5 t6 t7 : TypeId} {args : Array Value} {ds : List (DataW H)} {ps : List MemPlace} (h : DataW.TrodAll enc P w base spare held [t0, t1, t2, t3, t4, t5, t6, t7] args.toList ds ps) :
    ∃ v0 v1 v2 v3 v4 v5 v6 v7 d0 d1 d2 d3 d4 d5 d6 d7 p0 p1 p2 p3 p4 p5 p6 p7, args = #[v0, v1, v2, v3, v4, v5, v6, v7] ∧ ds = [d0, d1, d2, d3, d4, d5, d6, d7] ∧ ps = p0 ++ p1 ++ p2 ++ p3 ++ p4 ++ p5 ++ p6 ++ p7 ∧ DataW.Trod enc P w base spare held t0 v0 d0 p0 ∧ DataW.Trod enc P w base spare held t1 v1 d1 p1 ∧ DataW.Trod enc P w base spare held t2 v2 d2 p2 ∧ DataW.Trod enc P w base spare held t3 v3 d3 p3 ∧ DataW.Trod enc P w base spare held t4 v4 d4 p4 ∧ DataW.Trod enc P w base spare held t5 v5 d5 p5 ∧ DataW.Trod enc P w base spare held t6 v6 d6 p6 ∧ DataW.Trod enc P w base spare held t7 v7 d7 p7 := by
  obtain ⟨v0, vs0, d0, ds0, p0, q0, hargs, rfl, rfl, hd0, h0⟩ := trodAll_cons h
  obtain ⟨v1, vs1, d1, ds1, p1, q1, rfl, rfl, rfl, hd1, h1⟩ := trodAll_cons h0
  obtain ⟨v2, vs2, d2, ds2, p2, q2, rfl, rfl, rfl, hd2, h2⟩ := trodAll_cons h1
  obtain ⟨v3, vs3, d3, ds3, p3, q3, rfl, rfl, rfl, hd3, h3⟩ := trodAll_cons h2
  obtain ⟨v4, vs4, d4, ds4, p4, q4, rfl, rfl, rfl, hd4, h4⟩ := trodAll_cons h3
  obtain ⟨v5, vs5, d5, ds5, p5, q5, rfl, rfl, rfl, hd5, h5⟩ := trodAll_cons h4
  obtain ⟨v6, vs6, d6, ds6, p6, q6, rfl, rfl, rfl, hd6, h6⟩ := trodAll_cons h5
  obtain ⟨v7, vs7, d7, ds7, p7, q7, rfl, rfl, rfl, hd7, h7⟩ := trodAll_cons h6
  obtain ⟨rfl, rfl, rfl⟩ := trodAll_nil h7
  exact ⟨v0, v1, v2, v3, v4, v5, v6, v7, d0, d1, d2, d3, d4, d5, d6, d7, p0, p1, p2, p3, p4, p5, p6, p7, by cases args; simp_all, rfl, by simp, hd0, hd1, hd2, hd3, hd4, hd5, hd6, hd7⟩
theorem trodAll_nine {t0 t1 t2 t3 t4 t5 t6 t7 t8 : TypeId} {args : Array Value} {ds : List (DataW H)} {ps : List MemPlace} (h : DataW.TrodAll enc P w base spare held [t0, t1, t2, t3, t4, t5, t6, t7, t8] args.toList ds ps) :
    ∃ v0 v1 v2 v3 v4 v5 v6 v7 v8 d0 d1 d2 d3 d4 d5 d6 d7 d8 p0 p1 p2 p3 p4 p5 p6 p7 p8, args = #[v0, v1, v2, v3, v4, v5, v6, v7, v8] ∧ ds = [d0, d1, d2, d3, d4, d5, d6, d7, d8] ∧ ps = p0 ++ p1 ++ p2 ++ p3 ++ p4 ++ p5 ++ p6 ++ p7 ++ p8 ∧ DataW.Trod enc P w base spare held t0 v0 d0 p0 ∧ DataW.Trod enc P w base spare held t1 v1 d1 p1 ∧ DataW.Trod enc P w base spare held t2 v2 d2 p2 ∧ DataW.Trod enc P w base spare held t3 v3 d3 p3 ∧ DataW.Trod enc P w base spare held t4 v4 d4 p4 ∧ DataW.Trod enc P w base spare held t5 v5 d5 p5 ∧ DataW.Trod enc P w base spare held t6 v6 d6 p6 ∧ DataW.Trod enc P w base spare held t7 v7 d7 p7 ∧ DataW.Trod enc P w base spare held t8 v8 d8 p8 := by
  obtain ⟨v0, vs0, d0, ds0, p0, q0, hargs, rfl, rfl, hd0, h0⟩ := trodAll_cons h
  obtain ⟨v1, vs1, d1, ds1, p1, q1, rfl, rfl, rfl, hd1, h1⟩ := trodAll_cons h0
  obtain ⟨v2, vs2, d2, ds2, p2, q2, rfl, rfl, rfl, hd2, h2⟩ := trodAll_cons h1
  obtain ⟨v3, vs3, d3, ds3, p3, q3, rfl, rfl, rfl, hd3, h3⟩ := trodAll_cons h2
  obtain ⟨v4, vs4, d4, ds4, p4, q4, rfl, rfl, rfl, hd4, h4⟩ := trodAll_cons h3
  obtain ⟨v5, vs5, d5, ds5, p5, q5, rfl, rfl, rfl, hd5, h5⟩ := trodAll_cons h4
  obtain ⟨v6, vs6, d6, ds6, p6, q6, rfl, rfl, rfl, hd6, h6⟩ := trodAll_cons h5
  obtain ⟨v7, vs7, d7, ds7, p7, q7, rfl, rfl, rfl, hd7, h7⟩ := trodAll_cons h6
  obtain ⟨v8, vs8, d8, ds8, p8, q8, rfl, rfl, rfl, hd8, h8⟩ := trodAll_cons h7
  obtain ⟨rfl, rfl, rfl⟩ := trodAll_nil h8
  exact ⟨v0, v1, v2, v3, v4, v5, v6, v7, v8, d0, d1, d2, d3, d4, d5, d6, d7, d8, p0, p1, p2, p3, p4, p5, p6, p7, p8, by cases args; simp_all, rfl, by simp, hd0, hd1, hd2, hd3, hd4, hd5, hd6, hd7, hd8⟩
theorem trodAll_ten {t0 t1 t2 t3 t4 t5 t6 t7 t8 t9 : TypeId} {args : Array Value} {ds : List (DataW H)} {ps : List MemPlace} (h : DataW.TrodAll enc P w base spare held [t0, t1, t2, t3, t4, t5, t6, t7, t8, t9] args.toList ds ps) :
    ∃ v0 v1 v2 v3 v4 v5 v6 v7 v8 v9 d0 d1 d2 d3 d4 d5 d6 d7 d8 d9 p0 p1 p2 p3 p4 p5 p6 p7 p8 p9, args = #[v0, v1, v2, v3, v4, v5, v6, v7, v8, v9] ∧ ds = [d0, d1, d2, d3, d4, d5, d6, d7, d8, d9] ∧ ps = p0 ++ p1 ++ p2 ++ p3 ++ p4 ++ p5 ++ p6 ++ p7 ++ p8 ++ p9 ∧ DataW.Trod enc P w base spare held t0 v0 d0 p0 ∧ DataW.Trod enc P w base spare held t1 v1 d1 p1 ∧ DataW.Trod enc P w base spare held t2 v2 d2 p2 ∧ DataW.Trod enc P w base spare held t3 v3 d3 p3 ∧ DataW.Trod enc P w base spare held t4 v4 d4 p4 ∧ DataW.Trod enc P w base spare held t5 v5 d5 p5 ∧ DataW.Trod enc P w base spare held t6 v6 d6 p6 ∧ DataW.Trod enc P w base spare held t7 v7 d7 p7 ∧ DataW.Trod enc P w base spare held t8 v8 d8 p8 ∧ DataW.Trod enc P w base spare held t9 v9 d9 p9 := by
  obtain ⟨v0, vs0, d0, ds0, p0, q0, hargs, rfl, rfl, hd0, h0⟩ := trodAll_cons h
  obtain ⟨v1, vs1, d1, ds1, p1, q1, rfl, rfl, rfl, hd1, h1⟩ := trodAll_cons h0
  obtain ⟨v2, vs2, d2, ds2, p2, q2, rfl, rfl, rfl, hd2, h2⟩ := trodAll_cons h1
  obtain ⟨v3, vs3, d3, ds3, p3, q3, rfl, rfl, rfl, hd3, h3⟩ := trodAll_cons h2
  obtain ⟨v4, vs4, d4, ds4, p4, q4, rfl, rfl, rfl, hd4, h4⟩ := trodAll_cons h3
  obtain ⟨v5, vs5, d5, ds5, p5, q5, rfl, rfl, rfl, hd5, h5⟩ := trodAll_cons h4
  obtain ⟨v6, vs6, d6, ds6, p6, q6, rfl, rfl, rfl, hd6, h6⟩ := trodAll_cons h5
  obtain ⟨v7, vs7, d7, ds7, p7, q7, rfl, rfl, rfl, hd7, h7⟩ := trodAll_cons h6
  obtain ⟨v8, vs8, d8, ds8, p8, q8, rfl, rfl, rfl, hd8, h8⟩ := trodAll_cons h7
  obtain ⟨v9, vs9, d9, ds9, p9, q9, rfl, rfl, rfl, hd9, h9⟩ := trodAll_cons h8
  obtain ⟨rfl, rfl, rfl⟩ := trodAll_nil h9
  exact ⟨v0, v1, v2, v3, v4, v5, v6, v7, v8, v9, d0, d1, d2, d3, d4, d5, d6, d7, d8, d9, p0, p1, p2, p3, p4, p5, p6, p7, p8, p9, by cases args; simp_all, rfl, by simp, hd0, hd1, hd2, hd3, hd4, hd5, hd6, hd7, hd8, hd9⟩
theorem trodAll_eleven {t0 t1 t2 t3 t4 t5 t6 t7 t8 t9 t10 : TypeId} {args : Array Value} {ds : List (DataW H)} {ps : List MemPlace} (h : DataW.TrodAll enc P w base spare held [t0, t1, t2, t3, t4, t5, t6, t7, t8, t9, t10] args.toList ds ps) :
    ∃ v0 v1 v2 v3 v4 v5 v6 v7 v8 v9 v10 d0 d1 d2 d3 d4 d5 d6 d7 d8 d9 d10 p0 p1 p2 p3 p4 p5 p6 p7 p8 p9 p10, args = #[v0, v1, v2, v3, v4, v5, v6, v7, v8, v9, v10] ∧ ds = [d0, d1, d2, d3, d4, d5, d6, d7, d8, d9, d10] ∧ ps = p0 ++ p1 ++ p2 ++ p3 ++ p4 ++ p5 ++ p6 ++ p7 ++ p8 ++ p9 ++ p10 ∧ DataW.Trod enc P w base spare held t0 v0 d0 p0 ∧ DataW.Trod enc P w base spare held t1 v1 d1 p1 ∧ DataW.Trod enc P w base spare held t2 v2 d2 p2 ∧ DataW.Trod enc P w base spare held t3 v3 d3 p3 ∧ DataW.Trod enc P w base spare held t4 v4 d4 p4 ∧ DataW.Trod enc P w base spare held t5 v5 d5 p5 ∧ DataW.Trod enc P w base spare held t6 v6 d6 p6 ∧ DataW.Trod enc P w base spare held t7 v7 d7 p7 ∧ DataW.Trod enc P w base spare held t8 v8 d8 p8 ∧ DataW.Trod enc P w base spare held t9 v9 d9 p9 ∧ DataW.Trod enc P w base spare held t10 v10 d10 p10 := by
  obtain ⟨v0, vs0, d0, ds0, p0, q0, hargs, rfl, rfl, hd0, h0⟩ := trodAll_cons h
  obtain ⟨v1, vs1, d1, ds1, p1, q1, rfl, rfl, rfl, hd1, h1⟩ := trodAll_cons h0
  obtain ⟨v2, vs2, d2, ds2, p2, q2, rfl, rfl, rfl, hd2, h2⟩ := trodAll_cons h1
  obtain ⟨v3, vs3, d3, ds3, p3, q3, rfl, rfl, rfl, hd3, h3⟩ := trodAll_cons h2
  obtain ⟨v4, vs4, d4, ds4, p4, q4, rfl, rfl, rfl, hd4, h4⟩ := trodAll_cons h3
  obtain ⟨v5, vs5, d5, ds5, p5, q5, rfl, rfl, rfl, hd5, h5⟩ := trodAll_cons h4
  obtain ⟨v6, vs6, d6, ds6, p6, q6, rfl, rfl, rfl, hd6, h6⟩ := trodAll_cons h5
  obtain ⟨v7, vs7, d7, ds7, p7, q7, rfl, rfl, rfl, hd7, h7⟩ := trodAll_cons h6
  obtain ⟨v8, vs8, d8, ds8, p8, q8, rfl, rfl, rfl, hd8, h8⟩ := trodAll_cons h7
  obtain ⟨v9, vs9, d9, ds9, p9, q9, rfl, rfl, rfl, hd9, h9⟩ := trodAll_cons h8
  obtain ⟨v10, vs10, d10, ds10, p10, q10, rfl, rfl, rfl, hd10, h10⟩ := trodAll_cons h9
  obtain ⟨rfl, rfl, rfl⟩ := trodAll_nil h10
  exact ⟨v0, v1, v2, v3, v4, v5, v6, v7, v8, v9, v10, d0, d1, d2, d3, d4, d5, d6, d7, d8, d9, d10, p0, p1, p2, p3, p4, p5, p6, p7, p8, p9, p10, by cases args; simp_all, rfl, by simp, hd0, hd1, hd2, hd3, hd4, hd5, hd6, hd7, hd8, hd9, hd10⟩
theorem trodAll_twelve {t0 t1 t2 t3 t4 t5 t6 t7 t8 t9 t10 t11 : TypeId} {args : Array Value} {ds : List (DataW H)} {ps : List MemPlace} (h : DataW.TrodAll enc P w base spare held [t0, t1, t2, t3, t4, t5, t6, t7, t8, t9, t10, t11] args.toList ds ps) :
    ∃ v0 v1 v2 v3 v4 v5 v6 v7 v8 v9 v10 v11 d0 d1 d2 d3 d4 d5 d6 d7 d8 d9 d10 d11 p0 p1 p2 p3 p4 p5 p6 p7 p8 p9 p10 p11, args = #[v0, v1, v2, v3, v4, v5, v6, v7, v8, v9, v10, v11] ∧ ds = [d0, d1, d2, d3, d4, d5, d6, d7, d8, d9, d10, d11] ∧ ps = p0 ++ p1 ++ p2 ++ p3 ++ p4 ++ p5 ++ p6 ++ p7 ++ p8 ++ p9 ++ p10 ++ p11 ∧ DataW.Trod enc P w base spare held t0 v0 d0 p0 ∧ DataW.Trod enc P w base spare held t1 v1 d1 p1 ∧ DataW.Trod enc P w base spare held t2 v2 d2 p2 ∧ DataW.Trod enc P w base spare held t3 v3 d3 p3 ∧ DataW.Trod enc P w base spare held t4 v4 d4 p4 ∧ DataW.Trod enc P w base spare held t5 v5 d5 p5 ∧ DataW.Trod enc P w base spare held t6 v6 d6 p6 ∧ DataW.Trod enc P w base spare held t7 v7 d7 p7 ∧ DataW.Trod enc P w base spare held t8 v8 d8 p8 ∧ DataW.Trod enc P w base spare held t9 v9 d9 p9 ∧ DataW.Trod enc P w base spare held t10 v10 d10 p10 ∧ DataW.Trod enc P w base spare held t11 v11 d11 p11 := by
  obtain ⟨v0, vs0, d0, ds0, p0, q0, hargs, rfl, rfl, hd0, h0⟩ := trodAll_cons h
  obtain ⟨v1, vs1, d1, ds1, p1, q1, rfl, rfl, rfl, hd1, h1⟩ := trodAll_cons h0
  obtain ⟨v2, vs2, d2, ds2, p2, q2, rfl, rfl, rfl, hd2, h2⟩ := trodAll_cons h1
  obtain ⟨v3, vs3, d3, ds3, p3, q3, rfl, rfl, rfl, hd3, h3⟩ := trodAll_cons h2
  obtain ⟨v4, vs4, d4, ds4, p4, q4, rfl, rfl, rfl, hd4, h4⟩ := trodAll_cons h3
  obtain ⟨v5, vs5, d5, ds5, p5, q5, rfl, rfl, rfl, hd5, h5⟩ := trodAll_cons h4
  obtain ⟨v6, vs6, d6, ds6, p6, q6, rfl, rfl, rfl, hd6, h6⟩ := trodAll_cons h5
  obtain ⟨v7, vs7, d7, ds7, p7, q7, rfl, rfl, rfl, hd7, h7⟩ := trodAll_cons h6
  obtain ⟨v8, vs8, d8, ds8, p8, q8, rfl, rfl, rfl, hd8, h8⟩ := trodAll_cons h7
  obtain ⟨v9, vs9, d9, ds9, p9, q9, rfl, rfl, rfl, hd9, h9⟩ := trodAll_cons h8
  obtain ⟨v10, vs10, d10, ds10, p10, q10, rfl, rfl, rfl, hd10, h10⟩ := trodAll_cons h9
  obtain ⟨v11, vs11, d11, ds11, p11, q11, rfl, rfl, rfl, hd11, h11⟩ := trodAll_cons h10
  obtain ⟨rfl, rfl, rfl⟩ := trodAll_nil h11
  exact ⟨v0, v1, v2, v3, v4, v5, v6, v7, v8, v9, v10, v11, d0, d1, d2, d3, d4, d5, d6, d7, d8, d9, d10, d11, p0, p1, p2, p3, p4, p5, p6, p7, p8, p9, p10, p11, by cases args; simp_all, rfl, by simp, hd0, hd1, hd2, hd3, hd4, hd5, hd6, hd7, hd8, hd9, hd10, hd11⟩
end
end Go.PF
