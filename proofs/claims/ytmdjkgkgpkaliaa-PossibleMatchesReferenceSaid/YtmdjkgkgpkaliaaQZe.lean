import Derived.Test.YtmdjkgkgpkaliaaQOy
import Derived.Test.YtmdjkgkgpkaliaaQZa
set_option linter.unusedSimpArgs false
set_option linter.unusedVariables false
namespace Go.Proofs.Ytmdjkgkgpkaliaa
open Go.PF Go.RowKit Go.Ord

set_option maxRecDepth 20000 in
theorem matches_law {w : World} {dv lv sv : Value} {d : Dist} {l : List Ev} {s : List Int} {F : Nat → Prop} (most : Int) (hd : SD w dv d) (hl : SE w lv l) (hs : SL intT F w sv s) :
    Gives Try.prog 3 #[dv, lv, .int .i64 most, sv] w fun u w' => Below w.heap.size w w' ∧ u = .bool true := by
  obtain ⟨B, bcap, rfl, _⟩ := hs.form
  refine gives_of (vs := [dv, lv, .int .i64 most, .slice B s.length bcap]) [(0, none, _), (1, none, _), (2, none, _), (3, none, _)] Try.func3 rfl Try.ntmps3 rfl rfl ?_
  refine CW.seq (CW.region ?_)
  refine TW.assign rfl rfl rfl ct ?_
  refine TW.nil (KW.pick [0, 1, 2, 3, 8] [(0, _, _), (1, _, _), (2, _, _), (3, _, _), (8, _, _)] rfl (KW.then_ ?_))
  refine CW.seq (CW.region ?_)
  refine TW.call0 (cap := []) rfl rfl en10 rfl Args.nil (head_c) ?_
  rintro y w1 ⟨b1, rfl⟩
  refine TW.assign rfl rfl rfl ct ?_
  refine TW.nil (KW.pick [0, 1, 2, 3, 8, 9] [(0, _, _), (1, _, _), (2, _, _), (3, _, _), (8, _, _), (9, _, _)] rfl (KW.then_ ?_))
  refine CW.seq (CW.seq (CW.region ?_))
  refine TW.move rfl rfl rfl ct ?_
  refine TW.move rfl rfl rfl ct ?_
  refine TW.call0 (cap := []) rfl rfl en11 rfl (Args.cons rfl ct (Args.cons rfl ct Args.nil)) (rfew28_c (sd_step hd b1) (se_step hl b1)) ?_
  rintro y w2 ⟨c2, rfl⟩
  have b2 := b1.step c2
  have hd2 := sd_step hd b2
  have hl2 := se_step hl b2
  refine TW.not rfl rfl rfl ct ?_
  refine TW.move rfl rfl rfl ct ?_
  refine TW.move rfl rfl rfl ct ?_
  refine TW.lenSlice rfl rfl Try.underlying24 rfl id ?_
  refine TW.gtr rfl rfl rfl id rfl ct ?_
  refine TW.pickOr rfl rfl rfl ct rfl pOr0 ?_
  refine TW.nil (KW.pick [0, 1, 2, 3, 8, 9, 23] [(0, _, _), (1, _, _), (2, _, _), (3, _, _), (8, _, _), (9, _, _), (23, _, _)] rfl (KW.then_ ?_))
  refine CW.cond rfl (fun hbad => ?_) (fun hgood => ?_)
  · refine CW.seq (CW.region ?_)
    refine TW.move rfl rfl rfl ct ?_
    refine TW.assign rfl rfl rfl ct ?_
    refine TW.nil (KW.pick [0, 1, 2, 3, 8, 9] [(0, _, _), (1, _, _), (2, _, _), (3, _, _), (8, _, _), (9, _, _)] rfl (KW.then_ ?_))
    refine CW.ret (KW.thenR ?_)
    refine ret1 Try.results3 rfl (⟨b2, rfl⟩)
  have hf : FewP d l := dec_iff.1 (by cases hq : dec (FewP d l) <;> simp_all)
  have hl8 : l.length ≤ 8 := by have := hf.fd.l1; omega
  have hnd : ∀ e ∈ l, e.needs.length ≤ 1000 := fun e he => by have := hf.nd e he; omega
  refine CW.skip (KW.then_ (CW.seq (CW.region ?_)))
  refine TW.move rfl rfl rfl ct ?_
  refine TW.move rfl rfl rfl ct ?_
  refine TW.move rfl rfl rfl ct ?_
  refine TW.call0 (cap := []) rfl rfl en12 rfl (Args.cons rfl ct (Args.cons rfl ct (Args.cons rfl ct Args.nil))) (worlds_c hd2 hl2 hnd) ?_
  rintro y w3 ⟨c3, wv, rfl, hw3⟩
  have b3 := b2.step c3
  refine TW.move rfl rfl rfl ct ?_
  refine TW.extract rfl rfl rfl rfl ct ?_
  refine TW.extract rfl rfl rfl rfl ct ?_
  refine TW.assign rfl rfl rfl ct ?_
  refine TW.assign rfl rfl rfl ct ?_
  refine TW.nil (KW.pick [0, 1, 2, 3, 8, 9, 10, 11] [(0, _, _), (1, _, _), (2, _, _), (3, _, _), (8, _, _), (9, _, _), (10, _, _), (11, _, _)] rfl (KW.then_ ?_))
  refine CW.seq (CW.region ?_)
  refine TW.move rfl rfl rfl ct ?_
  refine TW.move rfl rfl rfl ct ?_
  refine TW.move rfl rfl rfl ct ?_
  refine TW.call0 (cap := []) rfl rfl en13 rfl (Args.cons rfl ct (Args.cons rfl ct (Args.cons rfl ct Args.nil))) (rworlds_c (sd_step hd2 c3) (se_step hl2 c3) hnd) ?_
  rintro y w4 ⟨c4, vv, rfl, hv4⟩
  have b4 := b3.step c4
  refine TW.move rfl rfl rfl ct ?_
  refine TW.extract rfl rfl rfl rfl ct ?_
  refine TW.extract rfl rfl rfl rfl ct ?_
  refine TW.assign rfl rfl rfl ct ?_
  refine TW.assign rfl rfl rfl ct ?_
  refine TW.nil (KW.pick [0, 1, 2, 3, 8, 9, 10, 11, 12, 13] [(0, _, _), (1, _, _), (2, _, _), (3, _, _), (8, _, _), (9, _, _), (10, _, _), (11, _, _), (12, _, _), (13, _, _)] rfl (KW.then_ ?_))
  refine CW.seq (CW.region ?_)
  refine TW.move rfl rfl rfl ct ?_
  refine TW.move rfl rfl rfl ct ?_
  refine TW.known rfl (by simp [Cnd]) ?_
  refine TW.move rfl rfl rfl ct ?_
  refine TW.known rfl (by simp [Cnd]) ?_
  refine TW.move rfl rfl rfl ct ?_
  refine TW.known rfl (by simp [Cnd]) ?_
  refine TW.eql rfl rfl rfl ct rfl ct ?_
  refine TW.pickAnd rfl rfl rfl ct rfl pT ?_
  refine TW.move rfl rfl rfl ct ?_
  refine TW.known rfl (by simp [Cnd]) ?_
  refine TW.move rfl rfl rfl ct ?_
  refine TW.known rfl (by simp [Cnd]) ?_
  refine TW.move rfl rfl rfl ct ?_
  refine TW.known rfl (by simp [Cnd]) ?_
  refine TW.call0 (cap := []) rfl rfl en14 rfl (Args.cons rfl ct (Args.cons rfl ct Args.nil)) (rsame_c (hw3.below c4) hv4) ?_
  rintro y w5 ⟨c5, rfl⟩
  have b5 := b4.step c5
  refine TW.pickAnd rfl rfl rfl ct rfl pT ?_
  refine TW.move rfl rfl rfl ct ?_
  refine TW.known rfl (by simp [Cnd]) ?_
  refine TW.move rfl rfl rfl ct ?_
  refine TW.known rfl (by simp [Cnd]) ?_
  refine TW.move rfl rfl rfl ct ?_
  refine TW.known rfl (by simp [Cnd]) ?_
  refine TW.call0 (cap := []) rfl rfl en16 rfl (Args.cons rfl ct (Args.cons rfl ct Args.nil)) (rest_c (se_step hl b5) (hs.below b5) (by omega) (fun e he => by have := hnd e he; omega)) ?_
  rintro rv6 w6 ⟨c6, hr6⟩
  have b6 := b5.step c6
  refine TW.known rfl (by simp [Cnd]) ?_
  refine TW.move rfl rfl rfl ct ?_
  refine TW.known rfl (by simp [Cnd]) ?_
  refine TW.move rfl rfl rfl ct ?_
  refine TW.known rfl (by simp [Cnd]) ?_
  refine TW.call0 (cap := []) rfl rfl en17 rfl (Args.cons rfl ct (Args.cons rfl ct Args.nil)) (rrest_c (se_step hl b6) (hs.below b6) (by omega)) ?_
  rintro rv7 w7 ⟨c7, hr7⟩
  have b7 := b6.step c7
  refine TW.known rfl (by simp [Cnd]) ?_
  refine TW.call0 (cap := []) rfl rfl en15 rfl (Args.cons rfl ct (Args.cons rfl ct Args.nil)) (rsameE_c (hr6.below c7) hr7) ?_
  rintro y w8 ⟨c8, rfl⟩
  refine TW.pickAnd rfl rfl rfl ct rfl pT ?_
  refine TW.assign rfl rfl rfl ct ?_
  refine TW.nil (KW.pick [0, 1, 2, 3, 8, 9, 10, 11, 12, 13] [(0, _, _), (1, _, _), (2, _, _), (3, _, _), (8, _, _), (9, _, _), (10, _, _), (11, _, _), (12, _, _), (13, _, _)] rfl (KW.then_ ?_))
  refine CW.ret ?_
  refine ret1 Try.results3 rfl (⟨b7.step c8, ?_⟩)
  rw [dec_pos rfl]
  simp
end Go.Proofs.Ytmdjkgkgpkaliaa
