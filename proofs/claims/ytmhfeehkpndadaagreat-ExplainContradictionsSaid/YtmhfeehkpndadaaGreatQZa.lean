import Derived.Test.YtmhfeehkpndadaaGreatQM
set_option linter.unusedSimpArgs false
set_option linter.unusedVariables false
namespace Go.Proofs.YtmhfeehkpndadaaGreat
open Go.PF Go.RowKit Go.Ord

theorem LOK.non {d : Dist} {l : List Ev} (h : LOK d l) (hf : firstS d l = none) : withE d l = 280 ∧ withS d l = [] := ⟨by rw [h.err, hf], by rw [h.set, hf]; rfl⟩
theorem LOK.som {d : Dist} {l : List Ev} (h : LOK d l) {a : List Int} (hf : firstS d l = some a) : withE d l = 0 ∧ withS d l = a := ⟨by rw [h.err, hf], by rw [h.set, hf]; rfl⟩
theorem fitted_iff {d : Dist} {l : List Ev} (hw : WfP d l) : Fitted d l ↔ Poss d l := ⟨fun h => h.2, fun h => ⟨hw.wfe, h⟩⟩

set_option maxRecDepth 20000 in
theorem matches_law {w : World} {dv lv sv : Value} {d : Dist} {l : List Ev} {S : List Int} {F : Nat → Prop} (hd : SD w dv d) (hl : SE w lv l) (hS : SL intT F w sv S) :
    Gives Tryz.prog 3 #[dv, lv, sv] w fun u w' => Below w.heap.size w w' ∧ u = .bool true := by
  obtain ⟨C, scap, rfl, _⟩ := hS.form
  refine gives_of (vs := [dv, lv, .slice C S.length scap]) [(0, none, _), (1, none, _), (2, none, _)] Tryz.func3 rfl Tryz.ntmps3 rfl rfl ?_
  refine CW.seq (CW.region ?_)
  refine TW.assign rfl rfl rfl ct ?_
  refine TW.nil (KW.pick [0, 1, 2, 6] [(0, _, _), (1, _, _), (2, _, _), (6, _, _)] rfl (KW.then_ ?_))
  refine CW.seq (CW.region ?_)
  refine TW.call0 (cap := []) rfl rfl en11 rfl Args.nil (head_c) ?_
  rintro y w1 ⟨b1, rfl⟩
  refine TW.assign rfl rfl rfl ct ?_
  refine TW.nil (KW.pick [0, 1, 2, 6, 7] [(0, _, _), (1, _, _), (2, _, _), (6, _, _), (7, _, _)] rfl (KW.then_ ?_))
  refine CW.seq (CW.seq (CW.region ?_))
  refine TW.move rfl rfl rfl ct ?_
  refine TW.move rfl rfl rfl ct ?_
  have hd1 := sd_step hd b1
  have hl1 := se_step hl b1
  refine TW.call0 (cap := []) rfl rfl en12 rfl (Args.cons rfl ct (Args.cons rfl ct Args.nil)) (rlight_c hd1 hl1) ?_
  rintro y w2 ⟨c2, rfl⟩
  have b2 := b1.step c2
  have hd2 := sd_step hd1 c2
  have hl2 := se_step hl1 c2
  refine TW.not rfl rfl rfl ct ?_
  refine TW.move rfl rfl rfl ct ?_
  refine TW.move rfl rfl rfl ct ?_
  refine TW.lenSlice rfl rfl Tryz.underlying24 rfl id ?_
  refine TW.gtr rfl rfl rfl id rfl ct ?_
  refine TW.pickOr rfl rfl rfl ct rfl pOr0 ?_
  refine TW.nil (KW.pick [0, 1, 2, 6, 7, 21] [(0, _, _), (1, _, _), (2, _, _), (6, _, _), (7, _, _), (21, _, _)] rfl (KW.then_ ?_))
  refine CW.cond rfl (fun hbad => ?_) (fun hgood => ?_)
  · refine CW.seq (CW.region ?_)
    refine TW.move rfl rfl rfl ct ?_
    refine TW.assign rfl rfl rfl ct ?_
    refine TW.nil (KW.pick [0, 1, 2, 6, 7] [(0, _, _), (1, _, _), (2, _, _), (6, _, _), (7, _, _)] rfl (KW.then_ ?_))
    refine CW.ret (KW.thenR ?_)
    refine ret1 Tryz.results3 rfl (⟨b2, rfl⟩)
  have hf : LightP d l := Classical.byContradiction fun h => by rw [dec_neg h] at hgood; simp at hgood
  have hs8 : S.length ≤ 8 := Classical.byContradiction fun h => by
    have h' : (8 : Int) < (S.length : Int) := by omega
    simp [h'] at hgood
  have hl7 := hf.l7
  have hnd : ∀ e ∈ l, e.needs.length ≤ 1000 := fun e he => by have := hf.few.nd e he; omega
  refine CW.skip (KW.then_ (CW.seq (CW.region ?_)))
  refine TW.move rfl rfl rfl ct ?_
  refine TW.move rfl rfl rfl ct ?_
  refine TW.call0 (cap := []) rfl rfl en13 rfl (Args.cons rfl ct (Args.cons rfl ct Args.nil)) (withdraw_c hd2 hl2 hnd) ?_
  rintro y w3 ⟨c3, v3, rfl, s3⟩
  have b3 := b2.step c3
  have hd3 := sd_step hd2 c3
  have hl3 := se_step hl2 c3
  refine TW.move rfl rfl rfl ct ?_
  refine TW.extract rfl rfl rfl rfl ct ?_
  refine TW.extract rfl rfl rfl rfl ct ?_
  refine TW.assign rfl rfl rfl ct ?_
  refine TW.assign rfl rfl rfl ct ?_
  refine TW.nil (KW.pick [0, 1, 2, 6, 7, 8, 9] [(0, _, _), (1, _, _), (2, _, _), (6, _, _), (7, _, _), (8, _, _), (9, _, _)] rfl (KW.then_ ?_))
  refine CW.seq (CW.region ?_)
  refine TW.move rfl rfl rfl ct ?_
  refine TW.move rfl rfl rfl ct ?_
  refine TW.call0 (cap := []) rfl rfl en14 rfl (Args.cons rfl ct (Args.cons rfl ct Args.nil)) (rwithdraw_c hd3 hl3 (by omega) hnd hf.rcs) ?_
  rintro y w4 ⟨c4, v4, rfl, s4⟩
  have b4 := b3.step c4
  have hd4 := sd_step hd3 c4
  have hl4 := se_step hl3 c4
  refine TW.move rfl rfl rfl ct ?_
  refine TW.extract rfl rfl rfl rfl ct ?_
  refine TW.extract rfl rfl rfl rfl ct ?_
  refine TW.assign rfl rfl rfl ct ?_
  refine TW.assign rfl rfl rfl ct ?_
  refine TW.nil (KW.pick [0, 1, 2, 6, 7, 8, 9, 10, 11] [(0, _, _), (1, _, _), (2, _, _), (6, _, _), (7, _, _), (8, _, _), (9, _, _), (10, _, _), (11, _, _)] rfl (KW.then_ ?_))
  refine CW.seq (CW.region ?_)
  refine TW.move rfl rfl rfl ct ?_
  refine TW.move rfl rfl rfl ct ?_
  refine TW.known rfl (by simp [Cnd]) ?_
  refine TW.move rfl rfl rfl ct ?_
  refine TW.known rfl (by simp [Cnd]) ?_
  refine TW.move rfl rfl rfl ct ?_
  refine TW.known rfl (by simp [Cnd]) ?_
  refine TW.eql rfl rfl rfl ct rfl ct ?_
  refine TW.pickAnd rfl rfl rfl ct rfl pT ?_
  refine TW.move rfl rfl rfl ct ?_
  refine TW.known rfl (by simp [Cnd]) ?_
  refine TW.move rfl rfl rfl ct ?_
  refine TW.known rfl (by simp [Cnd]) ?_
  refine TW.move rfl rfl rfl ct ?_
  refine TW.known rfl (by simp [Cnd]) ?_
  refine TW.call0 (cap := []) rfl rfl en15 rfl (Args.cons rfl ct (Args.cons rfl ct Args.nil)) (ints_c (si_step s3 c4) s4) ?_
  rintro y w5 ⟨c5, rfl⟩
  have b5 := b4.step c5
  have hd5 := sd_step hd4 c5
  have hl5 := se_step hl4 c5
  refine TW.pickAnd rfl rfl rfl ct rfl pT ?_
  refine TW.move rfl rfl rfl ct ?_
  refine TW.known rfl (by simp [Cnd]) ?_
  refine TW.move rfl rfl rfl ct ?_
  refine TW.known rfl (by simp [Cnd]) ?_
  refine TW.move rfl rfl rfl ct ?_
  refine TW.known rfl (by simp [Cnd]) ?_
  refine TW.move rfl rfl rfl ct ?_
  refine TW.known rfl (by simp [Cnd]) ?_
  refine TW.call0 (cap := []) rfl rfl en16 rfl (Args.cons rfl ct (Args.cons rfl ct (Args.cons rfl ct Args.nil))) (minimal_c hd5 hl5 (hS.below b5) hnd) ?_
  rintro y w6 ⟨c6, rfl⟩
  have b6 := b5.step c6
  refine TW.known rfl (by simp [Cnd]) ?_
  refine TW.move rfl rfl rfl ct ?_
  refine TW.known rfl (by simp [Cnd]) ?_
  refine TW.move rfl rfl rfl ct ?_
  refine TW.known rfl (by simp [Cnd]) ?_
  refine TW.move rfl rfl rfl ct ?_
  refine TW.known rfl (by simp [Cnd]) ?_
  refine TW.call0 (cap := []) rfl rfl en17 rfl (Args.cons rfl ct (Args.cons rfl ct (Args.cons rfl ct Args.nil))) (rminimal_c (sd_step hd5 c6) (se_step hl5 c6) (hS.below b6) (by omega) hnd (by omega)) ?_
  rintro y w7 ⟨c7, rfl⟩
  refine TW.known rfl (by simp [Cnd]) ?_
  refine TW.eqlB rfl rfl Tryz.underlying4 rfl ct rfl ct ?_
  refine TW.pickAnd rfl rfl rfl ct rfl pT ?_
  refine TW.assign rfl rfl rfl ct ?_
  refine TW.nil (KW.pick [0, 1, 2, 6, 7, 8, 9, 10, 11] [(0, _, _), (1, _, _), (2, _, _), (6, _, _), (7, _, _), (8, _, _), (9, _, _), (10, _, _), (11, _, _)] rfl (KW.then_ ?_))
  refine CW.ret ?_
  refine ret1 Tryz.results3 rfl (⟨b6.step c7, by simp⟩)

set_option maxRecDepth 20000 in
theorem possible_law {w : World} {dv lv : Value} {d : Dist} {l : List Ev} (hd : SD w dv d) (hl : SE w lv l) :
    Gives Tryz.prog 7 #[dv, lv] w fun u w' => Below w.heap.size w w' ∧ u = .bool true := by
  refine gives_of (vs := [dv, lv]) [(0, none, _), (1, none, _)] Tryz.func7 rfl Tryz.ntmps7 rfl rfl ?_
  refine CW.seq (CW.region ?_)
  refine TW.assign rfl rfl rfl ct ?_
  refine TW.nil (KW.pick [0, 1, 4] [(0, _, _), (1, _, _), (4, _, _)] rfl (KW.then_ ?_))
  refine CW.seq (CW.region ?_)
  refine TW.call0 (cap := []) rfl rfl en11 rfl Args.nil (head_c) ?_
  rintro y w1 ⟨b1, rfl⟩
  refine TW.assign rfl rfl rfl ct ?_
  refine TW.nil (KW.pick [0, 1, 4, 5] [(0, _, _), (1, _, _), (4, _, _), (5, _, _)] rfl (KW.then_ ?_))
  refine CW.seq (CW.seq (CW.region ?_))
  refine TW.move rfl rfl rfl ct ?_
  refine TW.move rfl rfl rfl ct ?_
  have hd1 := sd_step hd b1
  have hl1 := se_step hl b1
  refine TW.call0 (cap := []) rfl rfl en18 rfl (Args.cons rfl ct (Args.cons rfl ct Args.nil)) (light_c hd1 hl1) ?_
  rintro y w2 ⟨c2, rfl⟩
  have b2 := b1.step c2
  have hd2 := sd_step hd1 c2
  have hl2 := se_step hl1 c2
  refine TW.not rfl rfl rfl ct ?_
  refine TW.nil (KW.pick [0, 1, 4, 5, 14] [(0, _, _), (1, _, _), (4, _, _), (5, _, _), (14, _, _)] rfl (KW.then_ ?_))
  refine CW.cond rfl (fun hbad => ?_) (fun hgood => ?_)
  · refine CW.seq (CW.region ?_)
    refine TW.move rfl rfl rfl ct ?_
    refine TW.assign rfl rfl rfl ct ?_
    refine TW.nil (KW.pick [0, 1, 4, 5] [(0, _, _), (1, _, _), (4, _, _), (5, _, _)] rfl (KW.then_ ?_))
    refine CW.ret (KW.thenR ?_)
    refine ret1 Tryz.results7 rfl (⟨b2, rfl⟩)
  have hf : LiP d l := dec_iff.1 (by simpa using hgood)
  have hw := hf.ok.wf
  have hnd := hf.nd
  refine CW.skip (KW.then_ (CW.seq (CW.region ?_)))
  refine TW.move rfl rfl rfl ct ?_
  refine TW.move rfl rfl rfl ct ?_
  refine TW.call0 (cap := []) rfl rfl en13 rfl (Args.cons rfl ct (Args.cons rfl ct Args.nil)) (withdraw_c hd2 hl2 hnd) ?_
  rintro y w3 ⟨c3, v3, rfl, s3⟩
  obtain ⟨V, vcap, rfl, _⟩ := s3.form
  have b3 := b2.step c3
  have hd3 := sd_step hd2 c3
  have hl3 := se_step hl2 c3
  refine TW.move rfl rfl rfl ct ?_
  refine TW.extract rfl rfl rfl rfl ct ?_
  refine TW.extract rfl rfl rfl rfl ct ?_
  refine TW.assign rfl rfl rfl ct ?_
  refine TW.assign rfl rfl rfl ct ?_
  refine TW.nil (KW.pick [0, 1, 4, 5, 6, 7] [(0, _, _), (1, _, _), (4, _, _), (5, _, _), (6, _, _), (7, _, _)] rfl (KW.then_ ?_))
  refine CW.seq (CW.region ?_)
  refine TW.move rfl rfl rfl ct ?_
  refine TW.move rfl rfl rfl ct ?_
  refine TW.call0 (cap := []) rfl rfl en25 rfl (Args.cons rfl ct (Args.cons rfl ct (Args.cons rfl ct Args.nil))) (fit_c hd3 hl3) ?_
  rintro y w4 ⟨c4, tv, rfl⟩
  have b4 := b3.step c4
  have hd4 := sd_step hd3 c4
  have hl4 := se_step hl3 c4
  refine TW.move rfl rfl rfl ct ?_
  refine TW.extract rfl rfl rfl rfl ct ?_
  refine TW.extract rfl rfl rfl rfl ct ?_
  refine TW.assign rfl rfl rfl ct ?_
  refine TW.assign rfl rfl rfl ct ?_
  refine TW.nil (KW.pick [0, 1, 4, 5, 6, 7, 9] [(0, _, _), (1, _, _), (4, _, _), (5, _, _), (6, _, _), (7, _, _), (9, _, _)] rfl (KW.then_ ?_))
  refine CW.seq (CW.region ?_)
  refine TW.move rfl rfl rfl ct ?_
  refine TW.move rfl rfl rfl ct ?_
  refine TW.move rfl rfl rfl ct ?_
  refine TW.move rfl rfl rfl ct ?_
  refine TW.eql rfl rfl rfl id rfl ct ?_
  refine TW.move rfl rfl rfl id ?_
  refine TW.move rfl rfl rfl ct ?_
  refine TW.lenSlice rfl rfl Tryz.underlying24 rfl id ?_
  refine TW.eql rfl rfl rfl id rfl ct ?_
  refine TW.pickAnd rfl rfl rfl id rfl pAnd1 ?_
  refine TW.eqlB rfl rfl Tryz.underlying4 rfl id rfl id ?_
  refine TW.pickAnd rfl rfl rfl ct rfl pAnd0 ?_
  refine TW.move rfl rfl rfl ct ?_
  refine TW.move rfl rfl rfl ct ?_
  refine TW.move rfl rfl rfl ct ?_
  refine TW.move rfl rfl rfl ct ?_
  refine TW.callF (cap := []) rfl rfl en16 rfl ct (Args.cons rfl id (Args.cons rfl id (Args.cons rfl ct Args.nil))) (fun _ => minimal_c (S := []) hd4 hl4 (SL.nil intT (fun _ => True) _) hnd) ?_
  rintro w5 c5
  refine TW.eqlB rfl rfl Tryz.underlying4 rfl id rfl id ?_
  refine TW.pickAnd rfl rfl rfl ct rfl pAnd0 ?_
  refine TW.assign rfl rfl rfl ct ?_
  refine TW.nil (KW.pick [0, 1, 4, 5, 6, 7, 9] [(0, _, _), (1, _, _), (4, _, _), (5, _, _), (6, _, _), (7, _, _), (9, _, _)] rfl (KW.then_ ?_))
  refine CW.ret ?_
  refine ret1 Tryz.results7 rfl (⟨b4.step c5, ?_⟩)
  rw [dec_congr (fitted_iff hw), dec_congr (min_nil (d := d) (l := l))]
  by_cases hp : Poss d l
  · obtain ⟨e1, e2⟩ := hf.ok.som (first_nil_iff.2 hp)
    rw [e1, e2, dec_pos hp, dec_pos ⟨hw, hp⟩]
    rfl
  · have hn : ¬ (WfP d l ∧ Poss d l) := fun h => hp h.2
    rw [dec_neg hp, dec_neg hn]
    cases h : firstS d l with
    | none =>
      obtain ⟨e1, e2⟩ := hf.ok.non h
      rw [e1]
      rfl
    | some a =>
      obtain ⟨e1, e2⟩ := hf.ok.som h
      have ha : a ≠ [] := fun e => hp (first_nil_iff.1 (by rw [h, e]))
      have hl : ¬ ((a.length : Int) = 0) := fun e => ha (List.eq_nil_of_length_eq_zero (by omega))
      rw [e1, e2]
      simp [hl, ha]

set_option maxRecDepth 20000 in
theorem fewer_law {w : World} {dv lv : Value} {d : Dist} {l : List Ev} (x : Int) (hx0 : 0 ≤ x) (hx1 : x ≤ 255) (hd : SD w dv d) (hl : SE w lv l) :
    Gives Tryz.prog 8 #[dv, lv, .int .u8 x] w fun u w' => Below w.heap.size w w' ∧ u = .bool true := by
  obtain ⟨b, rfl⟩ := Int.eq_ofNat_of_zero_le hx0
  refine gives_of (vs := [dv, lv, .int .u8 (b : Int)]) [(0, none, _), (1, none, _), (2, none, _)] Tryz.func8 rfl Tryz.ntmps8 rfl rfl ?_
  refine CW.seq (CW.region ?_)
  refine TW.assign rfl rfl rfl ct ?_
  refine TW.nil (KW.pick [0, 1, 2, 6] [(0, _, _), (1, _, _), (2, _, _), (6, _, _)] rfl (KW.then_ ?_))
  refine CW.seq (CW.region ?_)
  refine TW.call0 (cap := []) rfl rfl en11 rfl Args.nil (head_c) ?_
  rintro y w1 ⟨b1, rfl⟩
  refine TW.assign rfl rfl rfl ct ?_
  refine TW.nil (KW.pick [0, 1, 2, 6, 7] [(0, _, _), (1, _, _), (2, _, _), (6, _, _), (7, _, _)] rfl (KW.then_ ?_))
  refine CW.seq (CW.seq (CW.region ?_))
  refine TW.move rfl rfl rfl ct ?_
  refine TW.move rfl rfl rfl ct ?_
  have hd1 := sd_step hd b1
  have hl1 := se_step hl b1
  refine TW.call0 (cap := []) rfl rfl en18 rfl (Args.cons rfl ct (Args.cons rfl ct Args.nil)) (light_c hd1 hl1) ?_
  rintro y w2 ⟨c2, rfl⟩
  have b2 := b1.step c2
  have hd2 := sd_step hd1 c2
  have hl2 := se_step hl1 c2
  refine TW.not rfl rfl rfl ct ?_
  refine TW.nil (KW.pick [0, 1, 2, 6, 7, 16] [(0, _, _), (1, _, _), (2, _, _), (6, _, _), (7, _, _), (16, _, _)] rfl (KW.then_ ?_))
  refine CW.cond rfl (fun hbad => ?_) (fun hgood => ?_)
  · refine CW.seq (CW.region ?_)
    refine TW.move rfl rfl rfl ct ?_
    refine TW.assign rfl rfl rfl ct ?_
    refine TW.nil (KW.pick [0, 1, 2, 6, 7] [(0, _, _), (1, _, _), (2, _, _), (6, _, _), (7, _, _)] rfl (KW.then_ ?_))
    refine CW.ret (KW.thenR ?_)
    refine ret1 Tryz.results8 rfl (⟨b2, rfl⟩)
  have hf : LiP d l := dec_iff.1 (by simpa using hgood)
  have hw := hf.ok.wf
  have hnd := hf.nd
  have hl7 := hf.light.l7
  refine CW.skip (KW.then_ (CW.seq (CW.region ?_)))
  refine TW.move rfl rfl rfl ct ?_
  refine TW.move rfl rfl rfl ct ?_
  refine TW.call0 (cap := []) rfl rfl en13 rfl (Args.cons rfl ct (Args.cons rfl ct Args.nil)) (withdraw_c hd2 hl2 hnd) ?_
  rintro y w3 ⟨c3, v3, rfl, s3⟩
  have b3 := b2.step c3
  have hd3 := sd_step hd2 c3
  have hl3 := se_step hl2 c3
  refine TW.move rfl rfl rfl ct ?_
  refine TW.extract rfl rfl rfl rfl ct ?_
  refine TW.extract rfl rfl rfl rfl ct ?_
  refine TW.assign rfl rfl rfl ct ?_
  refine TW.assign rfl rfl rfl ct ?_
  refine TW.nil (KW.pick [0, 1, 2, 6, 7, 8, 9] [(0, _, _), (1, _, _), (2, _, _), (6, _, _), (7, _, _), (8, _, _), (9, _, _)] rfl (KW.then_ ?_))
  refine CW.seq (CW.region ?_)
  refine TW.move rfl rfl rfl ct ?_
  refine TW.move rfl rfl rfl ct ?_
  refine TW.move rfl rfl rfl ct ?_
  refine TW.call0 (cap := []) rfl rfl en26 rfl (Args.cons rfl ct (Args.cons rfl ct Args.nil)) (chosen_c hl3 (b := b) (by omega) (by omega)) ?_
  rintro cv w4 ⟨c4, hcv⟩
  have b4 := b3.step c4
  have hd4 := sd_step hd3 c4
  have hsub := pickS_sub l b
  refine TW.call0 (cap := []) rfl rfl en13 rfl (Args.cons rfl ct (Args.cons rfl ct Args.nil)) (withdraw_c hd4 hcv (fun e he => hnd e (hsub.subset he))) ?_
  rintro y w5 ⟨c5, v5, rfl, s5⟩
  obtain ⟨V5, vcap5, rfl, _⟩ := s5.form
  have s3' := si_step (si_step s3 c4) c5
  obtain ⟨V3, vcap3, rfl, _⟩ := s3'.form
  refine TW.move rfl rfl rfl ct ?_
  refine TW.extract rfl rfl rfl rfl ct ?_
  refine TW.extract rfl rfl rfl rfl ct ?_
  refine TW.assign rfl rfl rfl ct ?_
  refine TW.assign rfl rfl rfl ct ?_
  refine TW.nil (KW.pick [0, 1, 2, 6, 7, 8, 9, 10, 11] [(0, _, _), (1, _, _), (2, _, _), (6, _, _), (7, _, _), (8, _, _), (9, _, _), (10, _, _), (11, _, _)] rfl (KW.then_ ?_))
  refine CW.seq (CW.region ?_)
  refine TW.move rfl rfl rfl ct ?_
  refine TW.move rfl rfl rfl ct ?_
  refine TW.move rfl rfl rfl ct ?_
  refine TW.neq rfl rfl rfl id rfl ct ?_
  refine TW.move rfl rfl rfl id ?_
  refine TW.move rfl rfl rfl ct ?_
  refine TW.eql rfl rfl rfl id rfl ct ?_
  refine TW.move rfl rfl rfl id ?_
  refine TW.move rfl rfl rfl ct ?_
  refine TW.lenSlice rfl rfl Tryz.underlying24 rfl id ?_
  refine TW.move rfl rfl rfl ct ?_
  refine TW.lenSlice rfl rfl Tryz.underlying24 rfl id ?_
  refine TW.leq rfl rfl rfl id rfl id ?_
  refine TW.pickAnd rfl rfl rfl id rfl pAnd1 ?_
  refine TW.pickOr rfl rfl rfl id rfl pOr1 ?_
  refine TW.pickAnd rfl rfl rfl ct rfl pAnd0 ?_
  refine TW.assign rfl rfl rfl ct ?_
  refine TW.nil (KW.pick [0, 1, 2, 6, 7, 8, 9, 10, 11] [(0, _, _), (1, _, _), (2, _, _), (6, _, _), (7, _, _), (8, _, _), (9, _, _), (10, _, _), (11, _, _)] rfl (KW.then_ ?_))
  refine CW.ret ?_
  refine ret1 Tryz.results8 rfl (⟨b4.step c5, ?_⟩)
  cases h : firstS d l with
  | none =>
    obtain ⟨e1, e2⟩ := hf.ok.non h
    rw [e1]
    rfl
  | some a =>
    obtain ⟨e1, e2⟩ := hf.ok.som h
    obtain ⟨a', h', hle⟩ := first_fewer hsub h
    obtain ⟨e3, e4⟩ := (hf.ok.sub hsub).som h'
    have hle' : (a'.length : Int) ≤ (a.length : Int) := by omega
    rw [e1, e2, e3, e4]
    simp [hle]

set_option maxRecDepth 20000 in
theorem smallest_law {w : World} {dv lv : Value} {d : Dist} {l : List Ev} (x : Int) (hx0 : 0 ≤ x) (hx1 : x ≤ 255) (hd : SD w dv d) (hl : SE w lv l) :
    Gives Tryz.prog 4 #[dv, lv, .int .u8 x] w fun u w' => Below w.heap.size w w' ∧ u = .bool true := by
  obtain ⟨b, rfl⟩ := Int.eq_ofNat_of_zero_le hx0
  refine gives_of (vs := [dv, lv, .int .u8 (b : Int)]) [(0, none, _), (1, none, _), (2, none, _)] Tryz.func4 rfl Tryz.ntmps4 rfl rfl ?_
  refine CW.seq (CW.region ?_)
  refine TW.assign rfl rfl rfl ct ?_
  refine TW.nil (KW.pick [0, 1, 2, 6] [(0, _, _), (1, _, _), (2, _, _), (6, _, _)] rfl (KW.then_ ?_))
  refine CW.seq (CW.region ?_)
  refine TW.call0 (cap := []) rfl rfl en11 rfl Args.nil (head_c) ?_
  rintro y w1 ⟨b1, rfl⟩
  refine TW.assign rfl rfl rfl ct ?_
  refine TW.nil (KW.pick [0, 1, 2, 6, 7] [(0, _, _), (1, _, _), (2, _, _), (6, _, _), (7, _, _)] rfl (KW.then_ ?_))
  refine CW.seq (CW.seq (CW.region ?_))
  refine TW.move rfl rfl rfl ct ?_
  refine TW.move rfl rfl rfl ct ?_
  have hd1 := sd_step hd b1
  have hl1 := se_step hl b1
  refine TW.call0 (cap := []) rfl rfl en18 rfl (Args.cons rfl ct (Args.cons rfl ct Args.nil)) (light_c hd1 hl1) ?_
  rintro y w2 ⟨c2, rfl⟩
  have b2 := b1.step c2
  have hd2 := sd_step hd1 c2
  have hl2 := se_step hl1 c2
  refine TW.not rfl rfl rfl ct ?_
  refine TW.nil (KW.pick [0, 1, 2, 6, 7, 15] [(0, _, _), (1, _, _), (2, _, _), (6, _, _), (7, _, _), (15, _, _)] rfl (KW.then_ ?_))
  refine CW.cond rfl (fun hbad => ?_) (fun hgood => ?_)
  · refine CW.seq (CW.region ?_)
    refine TW.move rfl rfl rfl ct ?_
    refine TW.assign rfl rfl rfl ct ?_
    refine TW.nil (KW.pick [0, 1, 2, 6, 7] [(0, _, _), (1, _, _), (2, _, _), (6, _, _), (7, _, _)] rfl (KW.then_ ?_))
    refine CW.ret (KW.thenR ?_)
    refine ret1 Tryz.results4 rfl (⟨b2, rfl⟩)
  have hf : LiP d l := dec_iff.1 (by simpa using hgood)
  have hw := hf.ok.wf
  have hnd := hf.nd
  have hl7 := hf.light.l7
  have hr7 := hf.r7
  refine CW.skip (KW.then_ (CW.seq (CW.region ?_)))
  refine TW.move rfl rfl rfl ct ?_
  refine TW.move rfl rfl rfl ct ?_
  refine TW.call0 (cap := []) rfl rfl en13 rfl (Args.cons rfl ct (Args.cons rfl ct Args.nil)) (withdraw_c hd2 hl2 hnd) ?_
  rintro y w3 ⟨c3, v3, rfl, s3⟩
  have b3 := b2.step c3
  have hd3 := sd_step hd2 c3
  have hl3 := se_step hl2 c3
  refine TW.move rfl rfl rfl ct ?_
  refine TW.extract rfl rfl rfl rfl ct ?_
  refine TW.extract rfl rfl rfl rfl ct ?_
  refine TW.assign rfl rfl rfl ct ?_
  refine TW.assign rfl rfl rfl ct ?_
  refine TW.nil (KW.pick [0, 1, 2, 6, 7, 8, 9] [(0, _, _), (1, _, _), (2, _, _), (6, _, _), (7, _, _), (8, _, _), (9, _, _)] rfl (KW.then_ ?_))
  refine CW.seq (CW.region ?_)
  refine TW.move rfl rfl rfl ct ?_
  refine TW.call0 (cap := []) rfl rfl en20 rfl (Args.cons rfl ct Args.nil) (rrecords_c hl3 (by omega) hnd) ?_
  rintro rv w4 ⟨c4, hrv⟩
  refine TW.move rfl rfl rfl ct ?_
  refine TW.call0 (cap := []) rfl rfl en19 rfl (Args.cons rfl ct (Args.cons rfl ct Args.nil)) (picked_c (b := b) hrv (by omega) (by omega)) ?_
  rintro pv w5 ⟨c5, hpv⟩
  have hsub := pickS_sub (recsS l) b
  obtain ⟨T, hT⟩ : ∃ T, T = pickS (recsS l) b := ⟨_, rfl⟩
  rw [← hT] at hpv hsub
  have c35 := c4.step c5
  have b5 := b3.step c35
  have hd5 := sd_step hd3 c35
  have hl5 := se_step hl3 c35
  have s5 := si_step s3 c35
  obtain ⟨V, vcap, rfl, _⟩ := s5.form
  obtain ⟨X, xcap, rfl, _⟩ := hpv.form
  have hXmax := hpv.len.2.2
  refine TW.assign rfl rfl rfl ct ?_
  refine TW.nil (KW.pick [0, 1, 2, 6, 7, 8, 9, 10] [(0, _, _), (1, _, _), (2, _, _), (6, _, _), (7, _, _), (8, _, _), (9, _, _), (10, _, _)] rfl (KW.then_ ?_))
  refine CW.seq (CW.seq (CW.region ?_))
  refine TW.move rfl rfl rfl ct ?_
  refine TW.neq rfl rfl rfl ct rfl ct ?_
  refine TW.nil (KW.pick [0, 1, 2, 6, 7, 8, 9, 10, 28] [(0, _, _), (1, _, _), (2, _, _), (6, _, _), (7, _, _), (8, _, _), (9, _, _), (10, _, _), (28, _, _)] rfl (KW.then_ ?_))
  cases hfi : firstS d l with
  | none =>
    obtain ⟨e1, e2⟩ := hf.ok.non hfi
    have hno := first_none hfi hsub
    rw [e1]
    refine CW.condP rfl (fun hne => ?_) (fun heq => ?_)
    · refine CW.seq (CW.region ?_)
      refine TW.move rfl rfl rfl ct ?_
      refine TW.move rfl rfl rfl ct ?_
      refine TW.move rfl rfl rfl ct ?_
      refine TW.eql rfl rfl rfl id rfl ct ?_
      refine TW.pickAnd rfl rfl rfl ct rfl pAnd0 ?_
      refine TW.move rfl rfl rfl ct ?_
      refine TW.move rfl rfl rfl ct ?_
      refine TW.move rfl rfl rfl ct ?_
      refine TW.move rfl rfl rfl ct ?_
      refine TW.callF (cap := []) rfl rfl en21 rfl ct (Args.cons rfl id (Args.cons rfl id (Args.cons rfl id Args.nil))) (fun _ => explains_c hd5 hl5 hpv (by omega) hnd) ?_
      rintro w6 c6
      refine TW.not rfl rfl rfl id ?_
      refine TW.pickAnd rfl rfl rfl ct rfl pAnd0 ?_
      refine TW.assign rfl rfl rfl ct ?_
      refine TW.nil (KW.pick [0, 1, 2, 6, 7, 8, 9, 10] [(0, _, _), (1, _, _), (2, _, _), (6, _, _), (7, _, _), (8, _, _), (9, _, _), (10, _, _)] rfl (KW.then_ ?_))
      refine CW.ret (KW.thenR ?_)
      refine ret1 Tryz.results4 rfl (⟨b5.step c6, by rw [dec_congr (hw.rest T), dec_neg hno]; rfl⟩)
    · exact absurd heq (by decide)
  | some a =>
    obtain ⟨e1, e2⟩ := hf.ok.som hfi
    obtain ⟨q1, q2, q3⟩ := first_some hfi
    rw [e1]
    rw [e2] at s5
    rw [e2]
    refine CW.condP rfl (fun hne => ?_) (fun heq => ?_)
    · exact absurd rfl hne
    refine CW.skip (KW.then_ (CW.seq (CW.seq (CW.region ?_))))
    refine TW.move rfl rfl rfl ct ?_
    refine TW.move rfl rfl rfl ct ?_
    refine TW.move rfl rfl rfl ct ?_
    refine TW.call0 (cap := []) rfl rfl en21 rfl (Args.cons rfl ct (Args.cons rfl ct (Args.cons rfl ct Args.nil))) (explains_c hd5 hl5 s5 (by omega) hnd) ?_
    rintro y w6 ⟨c6, rfl⟩
    rw [dec_congr (hw.rest a), dec_pos q2]
    have b6 := b5.step c6
    have hd6 := sd_step hd5 c6
    have hl6 := se_step hl5 c6
    have s6 := si_step s5 c6
    refine TW.not rfl rfl rfl ct ?_
    refine TW.move rfl rfl rfl ct ?_
    refine TW.known rfl rfl ?_
    refine TW.move rfl rfl rfl ct ?_
    refine TW.known rfl rfl ?_
    refine TW.move rfl rfl rfl ct ?_
    refine TW.known rfl rfl ?_
    refine TW.call0 (cap := []) rfl rfl en22 rfl (Args.cons rfl ct (Args.cons rfl ct Args.nil)) (rset_c hl6 s6 (by omega) hnd) ?_
    rintro y w7 ⟨c7, rfl⟩
    rw [dec_pos ⟨(recsS_inc l).sublist q1, fun x hx => q1.subset hx⟩]
    have b7 := b6.step c7
    have hd7 := sd_step hd6 c7
    have hl7 := se_step hl6 c7
    have s7 := si_step s6 c7
    have p7 := si_step (si_step hpv c6) c7
    refine TW.known rfl rfl ?_
    refine TW.not rfl rfl rfl ct ?_
    refine TW.pickOr rfl rfl rfl ct rfl pT ?_
    refine TW.nil (KW.pick [0, 1, 2, 6, 7, 8, 9, 10, 51] [(0, _, _), (1, _, _), (2, _, _), (6, _, _), (7, _, _), (8, _, _), (9, _, _), (10, _, _), (51, _, _)] rfl (KW.then_ ?_))
    refine CW.cond rfl (fun hb1 => ?_) (fun hb2 => ?_)
    · exact absurd hb1 (by decide)
    refine CW.skip (KW.then_ (CW.seq (CW.seq (CW.region ?_))))
    refine TW.move rfl rfl rfl ct ?_
    refine TW.lenSlice rfl rfl Tryz.underlying24 rfl ct ?_
    refine TW.move rfl rfl rfl ct ?_
    refine TW.lenSlice rfl rfl Tryz.underlying24 rfl ct ?_
    refine TW.lss rfl rfl rfl ct rfl ct ?_
    refine TW.move rfl rfl rfl ct ?_
    refine TW.move rfl rfl rfl ct ?_
    refine TW.lenSlice rfl rfl Tryz.underlying24 rfl id ?_
    refine TW.move rfl rfl rfl ct ?_
    refine TW.lenSlice rfl rfl Tryz.underlying24 rfl id ?_
    refine TW.eql rfl rfl rfl id rfl id ?_
    refine TW.move rfl rfl rfl id ?_
    refine TW.move rfl rfl rfl ct ?_
    refine TW.move rfl rfl rfl ct ?_
    refine TW.callF (cap := []) rfl rfl en23 rfl ct (Args.cons rfl id (Args.cons rfl id Args.nil)) (fun _ => less30_c p7 s7) ?_
    rintro w8 c8
    refine TW.pickAnd rfl rfl rfl id rfl pAnd1 ?_
    refine TW.pickOr rfl rfl rfl ct rfl pOr0 ?_
    refine TW.nil (KW.pick [0, 1, 2, 6, 7, 8, 9, 10, 68] [(0, _, _), (1, _, _), (2, _, _), (6, _, _), (7, _, _), (8, _, _), (9, _, _), (10, _, _), (68, _, _)] rfl (KW.then_ ?_))
    have b8 := b7.step c8
    refine CW.cond rfl (fun hb1 => ?_) (fun hb2 => ?_)
    · have hbef : befS T a := by
        simp at hb1
        exact hb1.imp id fun h => ⟨by omega, h.2⟩
      refine CW.seq (CW.region ?_)
      refine TW.move rfl rfl rfl ct ?_
      refine TW.move rfl rfl rfl ct ?_
      refine TW.move rfl rfl rfl ct ?_
      refine TW.move rfl rfl rfl ct ?_
      refine TW.move rfl rfl rfl ct ?_
      refine TW.callF (cap := []) rfl rfl en21 rfl ct (Args.cons rfl id (Args.cons rfl id (Args.cons rfl id Args.nil))) (fun _ => explains_c (sd_step hd7 c8) (se_step hl7 c8) (si_step p7 c8) (by omega) hnd) ?_
      rintro w9 c9
      refine TW.not rfl rfl rfl id ?_
      refine TW.pickAnd rfl rfl rfl ct rfl pAnd0 ?_
      refine TW.assign rfl rfl rfl ct ?_
      refine TW.nil (KW.pick [0, 1, 2, 6, 7, 8, 9, 10] [(0, _, _), (1, _, _), (2, _, _), (6, _, _), (7, _, _), (8, _, _), (9, _, _), (10, _, _)] rfl (KW.then_ ?_))
      refine CW.ret (KW.thenR ?_)
      refine ret1 Tryz.results4 rfl (⟨b8.step c9, by rw [dec_congr (hw.rest T), dec_neg (q3 T hsub hbef)]; rfl⟩)
    · refine CW.skip (KW.then_ (CW.seq (CW.region ?_)))
      refine TW.move rfl rfl rfl ct ?_
      refine TW.assign rfl rfl rfl ct ?_
      refine TW.nil (KW.pick [0, 1, 2, 6, 7, 8, 9, 10] [(0, _, _), (1, _, _), (2, _, _), (6, _, _), (7, _, _), (8, _, _), (9, _, _), (10, _, _)] rfl (KW.then_ ?_))
      refine CW.ret ?_
      refine ret1 Tryz.results4 rfl (⟨b8, rfl⟩)

set_option maxRecDepth 20000 in
theorem worlds_law {w : World} {dv lv : Value} {d : Dist} {l : List Ev} (x : Int) (hx0 : 0 ≤ x) (hx1 : x ≤ 255) (hd : SD w dv d) (hl : SE w lv l) :
    Gives Tryz.prog 6 #[dv, lv, .int .u8 x] w fun u w' => Below w.heap.size w w' ∧ u = .bool true := by
  refine gives_of (vs := [dv, lv, .int .u8 x]) [(0, none, _), (1, none, _), (2, none, _)] Tryz.func6 rfl Tryz.ntmps6 rfl rfl ?_
  refine CW.seq (CW.region ?_)
  refine TW.assign rfl rfl rfl ct ?_
  refine TW.nil (KW.pick [0, 1, 2, 6] [(0, _, _), (1, _, _), (2, _, _), (6, _, _)] rfl (KW.then_ ?_))
  refine CW.seq (CW.region ?_)
  refine TW.call0 (cap := []) rfl rfl en11 rfl Args.nil (head_c) ?_
  rintro y w1 ⟨b1, rfl⟩
  refine TW.assign rfl rfl rfl ct ?_
  refine TW.nil (KW.pick [0, 1, 2, 6, 7] [(0, _, _), (1, _, _), (2, _, _), (6, _, _), (7, _, _)] rfl (KW.then_ ?_))
  refine CW.seq (CW.seq (CW.region ?_))
  refine TW.move rfl rfl rfl ct ?_
  refine TW.move rfl rfl rfl ct ?_
  have hd1 := sd_step hd b1
  have hl1 := se_step hl b1
  refine TW.call0 (cap := []) rfl rfl en18 rfl (Args.cons rfl ct (Args.cons rfl ct Args.nil)) (light_c hd1 hl1) ?_
  rintro y w2 ⟨c2, rfl⟩
  have b2 := b1.step c2
  have hd2 := sd_step hd1 c2
  have hl2 := se_step hl1 c2
  refine TW.not rfl rfl rfl ct ?_
  refine TW.nil (KW.pick [0, 1, 2, 6, 7, 20] [(0, _, _), (1, _, _), (2, _, _), (6, _, _), (7, _, _), (20, _, _)] rfl (KW.then_ ?_))
  refine CW.cond rfl (fun hbad => ?_) (fun hgood => ?_)
  · refine CW.seq (CW.region ?_)
    refine TW.move rfl rfl rfl ct ?_
    refine TW.assign rfl rfl rfl ct ?_
    refine TW.nil (KW.pick [0, 1, 2, 6, 7] [(0, _, _), (1, _, _), (2, _, _), (6, _, _), (7, _, _)] rfl (KW.then_ ?_))
    refine CW.ret (KW.thenR ?_)
    refine ret1 Tryz.results6 rfl (⟨b2, rfl⟩)
  have hf : LiP d l := dec_iff.1 (by simpa using hgood)
  have hw := hf.ok.wf
  have hnd := hf.nd
  have hl7 := hf.light.l7
  refine CW.skip (KW.then_ (CW.seq (CW.region ?_)))
  refine TW.move rfl rfl rfl ct ?_
  refine TW.move rfl rfl rfl ct ?_
  refine TW.call0 (cap := []) rfl rfl en13 rfl (Args.cons rfl ct (Args.cons rfl ct Args.nil)) (withdraw_c hd2 hl2 hnd) ?_
  rintro y w3 ⟨c3, v3, rfl, s3⟩
  have b3 := b2.step c3
  have hd3 := sd_step hd2 c3
  have hl3 := se_step hl2 c3
  obtain ⟨V, vcap, rfl, _⟩ := s3.form
  refine TW.move rfl rfl rfl ct ?_
  refine TW.extract rfl rfl rfl rfl ct ?_
  refine TW.extract rfl rfl rfl rfl ct ?_
  refine TW.assign rfl rfl rfl ct ?_
  refine TW.assign rfl rfl rfl ct ?_
  refine TW.nil (KW.pick [0, 1, 2, 6, 7, 8, 9] [(0, _, _), (1, _, _), (2, _, _), (6, _, _), (7, _, _), (8, _, _), (9, _, _)] rfl (KW.then_ ?_))
  refine CW.seq (CW.seq (CW.region ?_))
  refine TW.move rfl rfl rfl ct ?_
  refine TW.neq rfl rfl rfl ct rfl ct ?_
  refine TW.move rfl rfl rfl ct ?_
  refine TW.move rfl rfl rfl ct ?_
  refine TW.lenSlice rfl rfl Tryz.underlying24 rfl id ?_
  refine TW.gtr rfl rfl rfl id rfl ct ?_
  refine TW.pickOr rfl rfl rfl ct rfl pOr0 ?_
  refine TW.nil (KW.pick [0, 1, 2, 6, 7, 8, 9, 34] [(0, _, _), (1, _, _), (2, _, _), (6, _, _), (7, _, _), (8, _, _), (9, _, _), (34, _, _)] rfl (KW.then_ ?_))
  by_cases hbig : ∀ a, firstS d l = some a → (3 : Int) < a.length
  · have hE3 : worldsE d l 3 = 280 := by
      have hk := hf.ok.wok (most := 3) (by decide) (by decide)
      rw [hk.err, if_pos (worlds_few hf.ok (by decide) (by decide) hbig)]
    refine CW.cond rfl (fun hb1 => ?_) (fun hb2 => ?_)
    · refine CW.seq (CW.region ?_)
      refine TW.move rfl rfl rfl ct ?_
      refine TW.move rfl rfl rfl ct ?_
      refine TW.call0 (cap := []) rfl rfl en24 rfl (Args.cons rfl ct (Args.cons rfl ct (Args.cons rfl ct Args.nil))) (worlds_c hd3 hl3 hnd) ?_
      rintro y w4 ⟨c4, v4, rfl, s4⟩
      rw [hE3]
      refine TW.move rfl rfl rfl ct ?_
      refine TW.extract rfl rfl rfl rfl ct ?_
      refine TW.extract rfl rfl rfl rfl ct ?_
      refine TW.assign rfl rfl rfl ct ?_
      refine TW.assign rfl rfl rfl ct ?_
      refine TW.nil (KW.pick [0, 1, 2, 6, 7, 8, 9, 11] [(0, _, _), (1, _, _), (2, _, _), (6, _, _), (7, _, _), (8, _, _), (9, _, _), (11, _, _)] rfl (KW.then_ ?_))
      refine CW.seq (CW.region ?_)
      refine TW.move rfl rfl rfl ct ?_
      refine TW.move rfl rfl rfl ct ?_
      refine TW.move rfl rfl rfl ct ?_
      refine TW.eql rfl rfl rfl id rfl ct ?_
      refine TW.pickAnd rfl rfl rfl ct rfl pAnd0 ?_
      refine TW.assign rfl rfl rfl ct ?_
      refine TW.nil (KW.pick [0, 1, 2, 6, 7, 8, 9, 11] [(0, _, _), (1, _, _), (2, _, _), (6, _, _), (7, _, _), (8, _, _), (9, _, _), (11, _, _)] rfl (KW.then_ ?_))
      refine CW.ret (KW.thenR ?_)
      refine ret1 Tryz.results6 rfl (⟨b3.step c4, rfl⟩)
    · exfalso
      cases hfi : firstS d l with
      | none => rw [(hf.ok.non hfi).1] at hb2; simp at hb2
      | some a =>
        have := hbig a hfi
        rw [(hf.ok.som hfi).1, (hf.ok.som hfi).2] at hb2
        simp at hb2
        omega
  · obtain ⟨a, hfi, ha3⟩ : ∃ a, firstS d l = some a ∧ a.length ≤ 3 := by
      apply Classical.byContradiction
      intro h
      exact hbig fun a ha => by
        rcases Nat.lt_or_ge 3 a.length with h1 | h1
        · omega
        · exact absurd ⟨a, ha, h1⟩ h
    obtain ⟨e1, e2⟩ := hf.ok.som hfi
    obtain ⟨r, hr⟩ := worlds_head hf.ok hfi ha3
    have hE : worldsE d l (a.length : Int) = 0 := by
      rw [(hf.ok.wok (most := (a.length : Int)) (by omega) (by omega)).err, hr, if_neg (by simp)]
    rw [e1]
    rw [e2] at s3
    rw [e2]
    refine CW.cond rfl (fun hb1 => ?_) (fun hb2 => ?_)
    · exfalso
      simp at hb1
      omega
    refine CW.skip (KW.then_ (CW.seq (CW.region ?_)))
    refine TW.move rfl rfl rfl ct ?_
    refine TW.move rfl rfl rfl ct ?_
    refine TW.move rfl rfl rfl ct ?_
    refine TW.lenSlice rfl rfl Tryz.underlying24 rfl ct ?_
    refine TW.call0 (cap := []) rfl rfl en24 rfl (Args.cons rfl ct (Args.cons rfl ct (Args.cons rfl ct Args.nil))) (worlds_c hd3 hl3 hnd) ?_
    rintro y w4 ⟨c4, v4, rfl, s4⟩
    rw [hE]
    rw [hr] at s4
    have b4 := b3.step c4
    have hd4 := sd_step hd3 c4
    have hl4 := se_step hl3 c4
    have s34 := si_step s3 c4
    obtain ⟨W4, wcap, rfl, _⟩ := s4.form
    obtain ⟨ad, rfl⟩ := s4.addr (by simp)
    obtain ⟨rv, hcell, hrow⟩ := s4.row (i := 0) (r := a) rfl
    have hlen1 : 1 ≤ (a :: r).length := by simp
    obtain ⟨n, hn⟩ : ∃ n, n = (a :: r).length := ⟨_, rfl⟩
    rw [← hn] at hlen1
    rw [← hn]
    have hn0 : ¬ n = 0 := by omega
    refine TW.move rfl rfl rfl ct ?_
    refine TW.extract rfl rfl rfl rfl ct ?_
    refine TW.extract rfl rfl rfl rfl ct ?_
    refine TW.assign rfl rfl rfl ct ?_
    refine TW.assign rfl rfl rfl ct ?_
    refine TW.nil (KW.pick [0, 1, 2, 6, 7, 8, 9, 12, 13] [(0, _, _), (1, _, _), (2, _, _), (6, _, _), (7, _, _), (8, _, _), (9, _, _), (12, _, _), (13, _, _)] rfl (KW.then_ ?_))
    refine CW.seq (CW.seq (CW.region ?_))
    refine TW.move rfl rfl rfl ct ?_
    refine TW.neq rfl rfl rfl ct rfl ct ?_
    refine TW.move rfl rfl rfl ct ?_
    refine TW.known rfl (by simp [Cnd, hn0]) ?_
    refine TW.move rfl rfl rfl ct ?_
    refine TW.known rfl (by simp [Cnd, hn0]) ?_
    refine TW.lenSlice rfl rfl Tryz.underlying22 rfl ct ?_
    refine TW.known rfl (by simp [Cnd, hn0]) ?_
    refine TW.eql rfl rfl rfl ct rfl ct ?_
    refine TW.pickOr rfl rfl rfl ct rfl pT ?_
    refine TW.move rfl rfl rfl ct ?_
    refine TW.known rfl (by simp [Cnd, hn0]) ?_
    refine TW.move rfl rfl rfl ct ?_
    refine TW.known rfl (by simp [Cnd, hn0]) ?_
    refine TW.indexAddr rfl rfl Tryz.underlying22 sz24 rfl ct rfl ct (fun _ => by (try dsimp only); omega) ?_
    refine TW.known rfl (by simp [Cnd, hn0]) ?_
    refine TW.load rfl rfl one24 rfl ct (fun _ => hcell) ?_
    refine TW.known rfl (by simp [Cnd, hn0]) ?_
    refine TW.move rfl rfl rfl ct ?_
    refine TW.known rfl (by simp [Cnd, hn0]) ?_
    refine TW.call0 (cap := []) rfl rfl en15 rfl (Args.cons rfl ct (Args.cons rfl ct Args.nil)) (ints_c hrow s34) ?_
    rintro y w5 ⟨c5, rfl⟩
    rw [decide_eq_true rfl]
    refine TW.known rfl (by simp [Cnd, hn0]) ?_
    refine TW.not rfl rfl rfl ct ?_
    refine TW.pickOr rfl rfl rfl ct rfl pT ?_
    refine TW.nil (KW.pick [0, 1, 2, 6, 7, 8, 9, 12, 13, 68] [(0, _, _), (1, _, _), (2, _, _), (6, _, _), (7, _, _), (8, _, _), (9, _, _), (12, _, _), (13, _, _), (68, _, _)] rfl (KW.then_ ?_))
    refine CW.cond rfl (fun hb1 => ?_) (fun hb2 => ?_)
    · exfalso
      simp [hn0] at hb1
    refine CW.skip (KW.then_ (CW.seq (CW.seq (CW.region ?_))))
    refine TW.move rfl rfl rfl ct ?_
    refine TW.lenSlice rfl rfl Tryz.underlying24 rfl ct ?_
    refine TW.eql rfl rfl rfl ct rfl ct ?_
    refine TW.nil (KW.pick [0, 1, 2, 6, 7, 8, 9, 12, 13, 71] [(0, _, _), (1, _, _), (2, _, _), (6, _, _), (7, _, _), (8, _, _), (9, _, _), (12, _, _), (13, _, _), (71, _, _)] rfl (KW.then_ ?_))
    refine CW.condP rfl (fun hz => ?_) (fun hnz => ?_)
    · refine CW.seq (CW.region ?_)
      refine TW.move rfl rfl rfl ct ?_
      refine TW.assign rfl rfl rfl ct ?_
      refine TW.nil (KW.pick [0, 1, 2, 6, 7, 8, 9, 12, 13] [(0, _, _), (1, _, _), (2, _, _), (6, _, _), (7, _, _), (8, _, _), (9, _, _), (12, _, _), (13, _, _)] rfl (KW.then_ ?_))
      refine CW.ret (KW.thenR ?_)
      refine ret1 Tryz.results6 rfl (⟨b4.step c5, rfl⟩)
    have hm := Int.emod_lt_of_pos x (show (0 : Int) < (a.length : Int) by omega)
    have hm0 := Int.emod_nonneg x (show (a.length : Int) ≠ 0 by omega)
    have hwx : IntKind.i64.wrap x = x := wrap_fits (by omega)
    have hE5 : worldsE d l (x % (a.length : Int)) = 280 := by
      have hk := hf.ok.wok (most := x % (a.length : Int)) hm0 (by omega)
      rw [hk.err, if_pos (worlds_few hf.ok hm0 (by omega) (fun a' h' => by rw [hfi] at h'; cases h'; exact hm))]
    refine CW.skip (KW.then_ (CW.seq (CW.region ?_)))
    refine TW.move rfl rfl rfl ct ?_
    refine TW.move rfl rfl rfl ct ?_
    refine TW.move rfl rfl rfl ct ?_
    refine TW.conv rfl rfl rfl Tryz.underlying3 rfl ct ?_
    refine TW.move rfl rfl rfl ct ?_
    refine TW.lenSlice rfl rfl Tryz.underlying24 rfl ct ?_
    refine TW.rem rfl rfl rfl ct rfl ct (fun _ => by rw [hwx]; exact ⟨hx0, by omega, by omega⟩) ?_
    rw [hwx]
    refine TW.call0 (cap := []) rfl rfl en24 rfl (Args.cons rfl ct (Args.cons rfl ct (Args.cons rfl ct Args.nil))) (worlds_c (sd_step hd4 c5) (se_step hl4 c5) hnd) ?_
    rintro y w6 ⟨c6, v6, rfl, s6⟩
    rw [hE5]
    refine TW.move rfl rfl rfl ct ?_
    refine TW.extract rfl rfl rfl rfl ct ?_
    refine TW.extract rfl rfl rfl rfl ct ?_
    refine TW.assign rfl rfl rfl ct ?_
    refine TW.assign rfl rfl rfl ct ?_
    refine TW.nil (KW.pick [0, 1, 2, 6, 7, 8, 9, 12, 13, 15] [(0, _, _), (1, _, _), (2, _, _), (6, _, _), (7, _, _), (8, _, _), (9, _, _), (12, _, _), (13, _, _), (15, _, _)] rfl (KW.then_ ?_))
    refine CW.seq (CW.region ?_)
    refine TW.move rfl rfl rfl ct ?_
    refine TW.move rfl rfl rfl ct ?_
    refine TW.move rfl rfl rfl ct ?_
    refine TW.eql rfl rfl rfl id rfl ct ?_
    refine TW.pickAnd rfl rfl rfl ct rfl pAnd0 ?_
    refine TW.assign rfl rfl rfl ct ?_
    refine TW.nil (KW.pick [0, 1, 2, 6, 7, 8, 9, 12, 13, 15] [(0, _, _), (1, _, _), (2, _, _), (6, _, _), (7, _, _), (8, _, _), (9, _, _), (12, _, _), (13, _, _), (15, _, _)] rfl (KW.then_ ?_))
    refine CW.ret ?_
    refine ret1 Tryz.results6 rfl (⟨(b4.step c5).step c6, rfl⟩)
end Go.Proofs.YtmhfeehkpndadaaGreat
