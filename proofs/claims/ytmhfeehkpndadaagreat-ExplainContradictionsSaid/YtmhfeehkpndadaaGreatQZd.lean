import Derived.Test.YtmhfeehkpndadaaGreatQZb
set_option linter.unusedSimpArgs false
set_option linter.unusedVariables false
namespace Go.Proofs.YtmhfeehkpndadaaGreat
open Go.PF Go.RowKit Go.Ord

set_option maxRecDepth 20000 in
set_option maxHeartbeats 1000000 in
theorem contra_law {w : World} {dv lv : Value} {d : Dist} {l : List Ev} (x y z : Int) (hx0 : 0 ≤ x) (hx1 : x ≤ 255) (hy0 : 0 ≤ y) (hy1 : y ≤ 255) (hz0 : 0 ≤ z) (hz1 : z ≤ 255) (hd : SD w dv d) (hl : SE w lv l) :
    Gives Tryz.prog 10 #[dv, lv, .int .u8 x, .int .u8 y, .int .u8 z] w fun u w' => Below w.heap.size w w' ∧ u = .bool true := by
  obtain ⟨b, rfl⟩ := Int.eq_ofNat_of_zero_le hz0
  obtain ⟨A, cap, rfl, _⟩ := hl.form
  refine gives_of (vs := [dv, .slice A l.length cap, .int .u8 x, .int .u8 y, .int .u8 (b : Int)]) [(0, none, _), (1, none, _), (2, none, _), (3, none, _), (4, none, _)] Tryz.func10 rfl Tryz.ntmps10 rfl rfl ?_
  refine CW.seq (CW.region ?_)
  refine TW.assign rfl rfl rfl ct ?_
  refine TW.nil (KW.pick [0, 1, 2, 3, 4, 10] [(0, _, _), (1, _, _), (2, _, _), (3, _, _), (4, _, _), (10, _, _)] rfl (KW.then_ ?_))
  refine CW.seq (CW.region ?_)
  refine TW.call0 (cap := []) rfl rfl en11 rfl Args.nil (head_c) ?_
  rintro z1 w1 ⟨b1, rfl⟩
  refine TW.assign rfl rfl rfl ct ?_
  refine TW.nil (KW.pick [0, 1, 2, 3, 4, 10, 11] [(0, _, _), (1, _, _), (2, _, _), (3, _, _), (4, _, _), (10, _, _), (11, _, _)] rfl (KW.then_ ?_))
  refine CW.seq (CW.seq (CW.region ?_))
  refine TW.move rfl rfl rfl ct ?_
  refine TW.move rfl rfl rfl ct ?_
  have hd1 := sd_step hd b1
  have hl1 := se_step hl b1
  refine TW.call0 (cap := []) rfl rfl en18 rfl (Args.cons rfl ct (Args.cons rfl ct Args.nil)) (light_c hd1 hl1) ?_
  rintro z2 w2 ⟨c2, rfl⟩
  have b2 := b1.step c2
  have hd2 := sd_step hd1 c2
  have hl2 := se_step hl1 c2
  refine TW.not rfl rfl rfl ct ?_
  refine TW.move rfl rfl rfl ct ?_
  refine TW.move rfl rfl rfl ct ?_
  refine TW.lenSlice rfl rfl Tryz.underlying23 rfl id ?_
  refine TW.lss rfl rfl rfl id rfl ct ?_
  refine TW.pickOr rfl rfl rfl ct rfl pOr0 ?_
  refine TW.nil (KW.pick [0, 1, 2, 3, 4, 10, 11, 30] [(0, _, _), (1, _, _), (2, _, _), (3, _, _), (4, _, _), (10, _, _), (11, _, _), (30, _, _)] rfl (KW.then_ ?_))
  refine CW.cond rfl (fun hbad => ?_) (fun hgood => ?_)
  · refine CW.seq (CW.region ?_)
    refine TW.move rfl rfl rfl ct ?_
    refine TW.assign rfl rfl rfl ct ?_
    refine TW.nil (KW.pick [0, 1, 2, 3, 4, 10, 11] [(0, _, _), (1, _, _), (2, _, _), (3, _, _), (4, _, _), (10, _, _), (11, _, _)] rfl (KW.then_ ?_))
    refine CW.ret (KW.thenR ?_)
    refine ret1 Tryz.results10 rfl (⟨b2, rfl⟩)
  have hf : LiP d l := Classical.byContradiction fun h => by rw [dec_neg h] at hgood; simp at hgood
  have hl2' : 2 ≤ l.length := by
    rw [dec_pos hf] at hgood
    simp at hgood
    omega
  have hw := hf.ok.wf
  have hnd := hf.nd
  have hl7 := hf.light.l7
  have hr7 := hf.r7
  have hmx := Int.emod_lt_of_pos x (show (0 : Int) < (l.length : Int) by omega)
  have hmx0 := Int.emod_nonneg x (show (l.length : Int) ≠ 0 by omega)
  have hwx : IntKind.i64.wrap x = x := wrap_fits (by omega)
  have hmy := Int.emod_lt_of_pos y (show (0 : Int) < (l.length : Int) by omega)
  have hmy0 := Int.emod_nonneg y (show (l.length : Int) ≠ 0 by omega)
  have hwy : IntKind.i64.wrap y = y := wrap_fits (by omega)
  obtain ⟨i, hi⟩ := Int.eq_ofNat_of_zero_le hmx0
  obtain ⟨k, hk⟩ := Int.eq_ofNat_of_zero_le hmy0
  obtain ⟨e, he, hem⟩ := getx (l := l) (k := i) (by omega)
  obtain ⟨f, hfe, hfm⟩ := getx (l := l) (k := k) (by omega)
  obtain ⟨ad, rfl⟩ := hl2.addr (by omega)
  obtain ⟨nv, hcells, i1, i2, i3, hn0⟩ := SE.get hl2 he
  obtain ⟨C, ncap, rfl, _⟩ := hn0.form
  obtain ⟨mv, hcells', j1, j2, j3, hm0⟩ := SE.get hl2 hfe
  obtain ⟨M, mcap, rfl, _⟩ := hm0.form
  have hm2 := hm0.len.2.2
  have hn2 := hn0.len.2.2
  refine CW.skip (KW.then_ (CW.seq (CW.region ?_)))
  refine TW.move rfl rfl rfl ct ?_
  refine TW.conv rfl rfl rfl Tryz.underlying3 rfl ct ?_
  refine TW.move rfl rfl rfl ct ?_
  refine TW.lenSlice rfl rfl Tryz.underlying23 rfl ct ?_
  refine TW.rem rfl rfl rfl ct rfl ct (fun _ => by rw [hwx]; exact ⟨hx0, by omega, by omega⟩) ?_
  refine TW.assign rfl rfl rfl ct ?_
  refine TW.nil (KW.pick [0, 1, 2, 3, 4, 10, 11, 12] [(0, _, _), (1, _, _), (2, _, _), (3, _, _), (4, _, _), (10, _, _), (11, _, _), (12, _, _)] rfl (KW.then_ ?_))
  refine CW.seq (CW.region ?_)
  refine TW.move rfl rfl rfl ct ?_
  refine TW.conv rfl rfl rfl Tryz.underlying3 rfl ct ?_
  refine TW.move rfl rfl rfl ct ?_
  refine TW.lenSlice rfl rfl Tryz.underlying23 rfl ct ?_
  refine TW.rem rfl rfl rfl ct rfl ct (fun _ => by rw [hwy]; exact ⟨hy0, by omega, by omega⟩) ?_
  refine TW.assign rfl rfl rfl ct ?_
  refine TW.nil (KW.pick [0, 1, 2, 3, 4, 10, 11, 12, 13] [(0, _, _), (1, _, _), (2, _, _), (3, _, _), (4, _, _), (10, _, _), (11, _, _), (12, _, _), (13, _, _)] rfl (KW.then_ ?_))
  refine CW.seq ?_
  rw [hwx, hwy, hi, hk]
  refine CW.draw mixed (by kernel_rfl) ?_
  refine DW.move rfl rfl rfl ct ?_
  refine DW.move rfl rfl rfl ct ?_
  refine DW.indexAddr rfl rfl Tryz.underlying23 sz43 rfl ct rfl ct (fun _ => by (try dsimp only); omega) ?_
  refine DW.loadS _ rfl rfl Tryz.underlying43 sz43 rfl ct (fun _ => hcells) rfl ?_
  refine DW.move rfl rfl rfl ct ?_
  refine DW.move rfl rfl rfl ct ?_
  refine DW.indexAddr rfl rfl Tryz.underlying23 sz43 rfl ct rfl ct (fun _ => by (try dsimp only); omega) ?_
  refine DW.loadS _ rfl rfl Tryz.underlying43 sz43 rfl ct (fun _ => hcells') rfl ?_
  refine DW.buildSlice 43 _ rfl rfl rfl eo23 (DArgs.cons rfl ct (DArgs.cons rfl ct DArgs.nil)) rfl rfl rfl rfl rfl ?_
  refine DW.assignP rfl rfl rfl ct (Lies.mono _ _ _) ?_
  refine DW.nil (DW.finX [0, 1, 2, 3, 4, 10, 11, 12, 13] [(0, _, _), (1, _, _), (2, _, _), (3, _, _), (4, _, _), (10, _, _), (11, _, _), (12, _, _), (13, _, _)] rfl [14] rfl fun vs w3 c3 hs3 => KW.then_ ?_)
  obtain ⟨v14, rfl, h14⟩ := Sats.one hs3
  refine CW.seq (CW.region ?_)
  refine TW.move rfl rfl rfl ct ?_
  refine TW.move rfl rfl rfl ct ?_
  obtain ⟨g3, rfl, hB3⟩ := h14
  have b3 := b2.step c3
  have hd3 := sd_step hd2 c3
  have hl3 := se_step hl2 c3
  have htwo : SE w3 (.slice (some ⟨g3, 0, none⟩) 2 2) [e, f] := lit_evs [([Value.int .i64 e.office, .int .i64 e.low, .int .i64 e.high, .slice C e.needs.length ncap], e), ([Value.int .i64 f.office, .int .i64 f.low, .int .i64 f.high, .slice M f.needs.length mcap], f)] hB3 rfl (fun q hq => by
    simp only [List.mem_cons, List.not_mem_nil, or_false] at hq
    rcases hq with rfl | rfl
    · exact ⟨_, rfl, i1, i2, i3, (hn0.now intT_now).step intT_now c3⟩
    · exact ⟨_, rfl, j1, j2, j3, (hm0.now intT_now).step intT_now c3⟩) (by simp)
  have hw2 : WfP d [e, f] := ⟨hw.wd, by simp, fun z hz => by simp at hz; rcases hz with rfl | rfl; exact hw.each _ hem; exact hw.each _ hfm, fun z hz => by simp at hz; rcases hz with rfl | rfl; exact hw.pos _ hem; exact hw.pos _ hfm⟩
  have hnd2 : ∀ z ∈ [e, f], z.needs.length ≤ 1000 := fun z hz => by simp at hz; rcases hz with rfl | rfl; exact hnd _ hem; exact hnd _ hfm
  refine TW.call0 (cap := []) rfl rfl en25 rfl (Args.cons rfl ct (Args.cons rfl ct (Args.cons rfl ct Args.nil))) (fit_c hd3 htwo) ?_
  rintro z4 w4 ⟨c4, tv, rfl⟩
  rw [dec_congr (fitted_iff hw2)]
  have b4 := b3.step c4
  have hd4 := sd_step hd3 c4
  have hl4 := se_step hl3 c4
  have ht4 := se_step htwo c4
  refine TW.move rfl rfl rfl ct ?_
  refine TW.extract rfl rfl rfl rfl ct ?_
  refine TW.extract rfl rfl rfl rfl ct ?_
  refine TW.assign rfl rfl rfl ct ?_
  refine TW.assign rfl rfl rfl ct ?_
  refine TW.nil (KW.pick [0, 1, 2, 3, 4, 10, 11, 12, 13, 14, 16] [(0, _, _), (1, _, _), (2, _, _), (3, _, _), (4, _, _), (10, _, _), (11, _, _), (12, _, _), (13, _, _), (14, _, _), (16, _, _)] rfl (KW.then_ ?_))
  refine CW.seq (CW.seq (CW.region ?_))
  refine TW.move rfl rfl rfl ct ?_
  refine TW.nil (KW.pick [0, 1, 2, 3, 4, 10, 11, 12, 13, 14, 16, 57] [(0, _, _), (1, _, _), (2, _, _), (3, _, _), (4, _, _), (10, _, _), (11, _, _), (12, _, _), (13, _, _), (14, _, _), (16, _, _), (57, _, _)] rfl (KW.then_ ?_))
  refine CW.cond rfl (fun hyes => ?_) (fun hno => ?_)
  · refine CW.seq (CW.region ?_)
    refine TW.move rfl rfl rfl ct ?_
    refine TW.assign rfl rfl rfl ct ?_
    refine TW.nil (KW.pick [0, 1, 2, 3, 4, 10, 11, 12, 13, 14, 16] [(0, _, _), (1, _, _), (2, _, _), (3, _, _), (4, _, _), (10, _, _), (11, _, _), (12, _, _), (13, _, _), (14, _, _), (16, _, _)] rfl (KW.then_ ?_))
    refine CW.ret (KW.thenR ?_)
    refine ret1 Tryz.results10 rfl (⟨b4, rfl⟩)
  have hnp : ¬ Poss d [e, f] := fun h => by rw [dec_pos h] at hno; cases hno
  refine CW.skip (KW.then_ (CW.seq (CW.region ?_)))
  refine TW.move rfl rfl rfl ct ?_
  refine TW.call0 (cap := []) rfl rfl en20 rfl (Args.cons rfl ct Args.nil) (rrecords_c ht4 (by simp) hnd2) ?_
  rintro nv5 w5 ⟨c5, hnv⟩
  have hd5 := sd_step hd4 c5
  have hl5 := se_step hl4 c5
  have hn5 : SI w5 nv5 (recsS [e, f]) := hnv.now intT_now
  refine TW.assign rfl rfl rfl ct ?_
  refine TW.nil (KW.pick [0, 1, 2, 3, 4, 10, 11, 12, 13, 14, 16, 17] [(0, _, _), (1, _, _), (2, _, _), (3, _, _), (4, _, _), (10, _, _), (11, _, _), (12, _, _), (13, _, _), (14, _, _), (16, _, _), (17, _, _)] rfl (KW.then_ ?_))
  refine CW.seq (CW.region ?_)
  refine TW.move rfl rfl rfl ct ?_
  refine TW.call0 (cap := []) rfl rfl en20 rfl (Args.cons rfl ct Args.nil) (rrecords_c hl5 (by omega) hnd) ?_
  rintro rv w6 ⟨c6, hrv⟩
  refine TW.move rfl rfl rfl ct ?_
  refine TW.call0 (cap := []) rfl rfl en19 rfl (Args.cons rfl ct (Args.cons rfl ct Args.nil)) (picked_c (b := b) hrv (by omega) (by omega)) ?_
  rintro pv w7 ⟨c7, hpv⟩
  have hsub := pickS_sub (recsS l) b
  obtain ⟨T, hT⟩ : ∃ T, T = pickS (recsS l) b := ⟨_, rfl⟩
  rw [← hT] at hpv hsub
  have c57 := c6.step c7
  have b7 := (b4.step c5).step c57
  have hd7 := sd_step hd5 c57
  have hl7' := se_step hl5 c57
  have hn7 := si_step hn5 c57
  refine TW.assign rfl rfl rfl ct ?_
  refine TW.nil (KW.pick [0, 1, 2, 3, 4, 10, 11, 12, 13, 14, 16, 17, 18] [(0, _, _), (1, _, _), (2, _, _), (3, _, _), (4, _, _), (10, _, _), (11, _, _), (12, _, _), (13, _, _), (14, _, _), (16, _, _), (17, _, _), (18, _, _)] rfl (KW.then_ ?_))
  refine CW.seq (CW.seq (CW.region ?_))
  refine TW.move rfl rfl rfl ct ?_
  refine TW.move rfl rfl rfl ct ?_
  refine TW.move rfl rfl rfl ct ?_
  refine TW.call0 (cap := []) rfl rfl en21 rfl (Args.cons rfl ct (Args.cons rfl ct (Args.cons rfl ct Args.nil))) (explains_c hd7 hl7' hpv (by omega) hnd) ?_
  rintro z8 w8 ⟨c8, rfl⟩
  rw [dec_congr (hw.rest T)]
  have hd8 := sd_step hd7 c8
  have hl8 := se_step hl7' c8
  have hn8 := si_step hn7 c8
  have hp8 := si_step hpv c8
  refine TW.move rfl rfl rfl ct ?_
  refine TW.move rfl rfl rfl ct ?_
  refine TW.move rfl rfl rfl ct ?_
  refine TW.callF (cap := []) rfl rfl en27 rfl ct (Args.cons rfl id (Args.cons rfl id Args.nil)) (fun _ => meets_c hp8 hn8) ?_
  rintro w9 c9
  refine TW.not rfl rfl rfl id ?_
  refine TW.pickAnd rfl rfl rfl ct rfl pAnd0 ?_
  refine TW.nil (KW.pick [0, 1, 2, 3, 4, 10, 11, 12, 13, 14, 16, 17, 18, 74] [(0, _, _), (1, _, _), (2, _, _), (3, _, _), (4, _, _), (10, _, _), (11, _, _), (12, _, _), (13, _, _), (14, _, _), (16, _, _), (17, _, _), (18, _, _), (74, _, _)] rfl (KW.then_ ?_))
  have b9 := (b7.step c8).step c9
  have hd9 := sd_step hd8 c9
  have hl9 := se_step hl8 c9
  have hn9 := si_step hn8 c9
  have hp9 := si_step hp8 c9
  refine CW.cond rfl (fun hb1 => ?_) (fun hb2 => ?_)
  · exfalso
    by_cases hp : Poss d (restS l T)
    · rw [decide_eq_true (two_meets hw he hfe hnp hp)] at hb1
      simp at hb1
    · rw [dec_neg hp] at hb1
      simp at hb1
  refine CW.skip (KW.then_ (CW.seq (CW.region ?_)))
  refine TW.move rfl rfl rfl ct ?_
  refine TW.move rfl rfl rfl ct ?_
  refine TW.call0 (cap := []) rfl rfl en13 rfl (Args.cons rfl ct (Args.cons rfl ct Args.nil)) (withdraw_c hd9 hl9 hnd) ?_
  rintro z10 w10 ⟨c10, v10, rfl, s10⟩
  have hd10 := sd_step hd9 c10
  have hl10 := se_step hl9 c10
  have hn10 := si_step hn9 c10
  have hp10 := si_step hp9 c10
  refine TW.move rfl rfl rfl ct ?_
  refine TW.extract rfl rfl rfl rfl ct ?_
  refine TW.extract rfl rfl rfl rfl ct ?_
  refine TW.assign rfl rfl rfl ct ?_
  refine TW.assign rfl rfl rfl ct ?_
  refine TW.nil (KW.pick [0, 1, 2, 3, 4, 10, 11, 12, 13, 14, 16, 17, 18, 19, 20] [(0, _, _), (1, _, _), (2, _, _), (3, _, _), (4, _, _), (10, _, _), (11, _, _), (12, _, _), (13, _, _), (14, _, _), (16, _, _), (17, _, _), (18, _, _), (19, _, _), (20, _, _)] rfl (KW.then_ ?_))
  refine CW.seq (CW.region ?_)
  refine TW.move rfl rfl rfl ct ?_
  refine TW.move rfl rfl rfl ct ?_
  refine TW.move rfl rfl rfl ct ?_
  refine TW.eql rfl rfl rfl id rfl ct ?_
  refine TW.move rfl rfl rfl id ?_
  refine TW.move rfl rfl rfl ct ?_
  refine TW.move rfl rfl rfl ct ?_
  refine TW.callF (cap := []) rfl rfl en27 rfl ct (Args.cons rfl id (Args.cons rfl id Args.nil)) (fun _ => meets_c s10 hn10) ?_
  rintro w11 c11
  refine TW.pickAnd rfl rfl rfl id rfl pAnd1 ?_
  refine TW.move rfl rfl rfl id ?_
  refine TW.move rfl rfl rfl ct ?_
  refine TW.eql rfl rfl rfl id rfl ct ?_
  refine TW.move rfl rfl rfl id ?_
  refine TW.move rfl rfl rfl ct ?_
  refine TW.move rfl rfl rfl ct ?_
  refine TW.move rfl rfl rfl ct ?_
  refine TW.callF (cap := []) rfl rfl en21 rfl ct (Args.cons rfl id (Args.cons rfl id (Args.cons rfl id Args.nil))) (fun _ => explains_c (sd_step hd10 c11) (se_step hl10 c11) (si_step hp10 c11) (by omega) hnd) ?_
  rintro w12 c12
  refine TW.not rfl rfl rfl id ?_
  refine TW.pickAnd rfl rfl rfl id rfl pAnd1 ?_
  refine TW.pickOr rfl rfl rfl id rfl pOr1 ?_
  refine TW.pickAnd rfl rfl rfl ct rfl pAnd0 ?_
  refine TW.assign rfl rfl rfl ct ?_
  refine TW.nil (KW.pick [0, 1, 2, 3, 4, 10, 11, 12, 13, 14, 16, 17, 18, 19, 20] [(0, _, _), (1, _, _), (2, _, _), (3, _, _), (4, _, _), (10, _, _), (11, _, _), (12, _, _), (13, _, _), (14, _, _), (16, _, _), (17, _, _), (18, _, _), (19, _, _), (20, _, _)] rfl (KW.then_ ?_))
  refine CW.ret ?_
  refine ret1 Tryz.results10 rfl (⟨((b9.step c10).step c11).step c12, ?_⟩)
  rw [dec_congr (hw.rest T)]
  cases hfi : firstS d l with
  | none =>
    obtain ⟨e1, e2⟩ := hf.ok.non hfi
    rw [e1, dec_neg (first_none hfi hsub)]
    simp
  | some a =>
    obtain ⟨e1, e2⟩ := hf.ok.som hfi
    rw [e1, e2, decide_eq_true (two_meets hw he hfe hnp (first_some hfi).2.1)]
    simp
end Go.Proofs.YtmhfeehkpndadaaGreat
