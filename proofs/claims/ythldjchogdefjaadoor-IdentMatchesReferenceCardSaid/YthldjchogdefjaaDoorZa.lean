import Derived.Test.YthldjchogdefjaaDoorN
namespace Go.Proofs.YthldjchogdefjaaDoor
open Go.PF Go.RowKit

set_option maxRecDepth 20000 in
theorem matches_law {w : World} (s kind op : ByteArray) (n : Int) (ht : Tabs w) : Gives Tryd.prog 3 #[.string s, .string kind, .int .i64 n, .string op] w fun u w' => Below w.heap.size w w' ∧ u = .bool true := by
  refine gives_of (vs := [.string s, .string kind, .int .i64 n, .string op]) [(0, none, _), (1, none, _), (2, none, _), (3, none, _)] Tryd.func3 rfl Tryd.ntmps3 rfl rfl ?_
  refine CW.seq (CW.region ?_)
  refine TW.assign rfl rfl rfl ct ?_
  refine TW.nil (KW.pick [0, 1, 2, 3, 8] [(0, _, _), (1, _, _), (2, _, _), (3, _, _), (8, _, _)] rfl (KW.then_ ?_))
  refine CW.seq (CW.region ?_)
  refine TW.callF (cap := []) rfl rfl en9 rfl ct Args.nil (fun _ => head_c ht) ?_
  rintro w1 b1
  refine TW.assign rfl rfl rfl ct ?_
  refine TW.nil (KW.pick [0, 1, 2, 3, 8, 9] [(0, _, _), (1, _, _), (2, _, _), (3, _, _), (8, _, _), (9, _, _)] rfl (KW.then_ ?_))
  refine CW.seq (CW.seq (CW.region ?_))
  refine TW.move rfl rfl rfl ct ?_
  refine TW.lenString rfl rfl Tryd.underlying9 rfl ct ?_
  refine TW.gtr rfl rfl rfl ct rfl ct ?_
  refine TW.move rfl rfl rfl ct ?_
  refine TW.move rfl rfl rfl ct ?_
  refine TW.lenString rfl rfl Tryd.underlying9 rfl id ?_
  refine TW.gtr rfl rfl rfl id rfl ct ?_
  refine TW.pickOr rfl rfl rfl ct rfl pOr0 ?_
  refine TW.move rfl rfl rfl ct ?_
  refine TW.move rfl rfl rfl ct ?_
  refine TW.lenString rfl rfl Tryd.underlying9 rfl id ?_
  refine TW.gtr rfl rfl rfl id rfl ct ?_
  refine TW.pickOr rfl rfl rfl ct rfl pOr0 ?_
  refine TW.nil (KW.pick [0, 1, 2, 3, 8, 9, 35] [(0, _, _), (1, _, _), (2, _, _), (3, _, _), (8, _, _), (9, _, _), (35, _, _)] rfl (KW.then_ ?_))
  have t1 := ht.below b1
  refine CW.cond rfl (fun hx => ?_) (fun hy => ?_)
  · refine CW.seq (CW.region ?_)
    refine TW.move rfl rfl rfl ct ?_
    refine TW.assign rfl rfl rfl ct ?_
    refine TW.nil (KW.pick [0, 1, 2, 3, 8, 9] [(0, _, _), (1, _, _), (2, _, _), (3, _, _), (8, _, _), (9, _, _)] rfl (KW.then_ ?_))
    refine CW.ret (KW.thenR ?_)
    refine ret1 Tryd.results3 rfl (⟨b1, rfl⟩)
  refine CW.skip (KW.then_ (CW.seq (CW.region ?_)))
  refine TW.move rfl rfl rfl ct ?_
  refine TW.call0 (cap := []) rfl rfl en10 rfl (Args.cons rfl ct Args.nil) (check_c _ t1) ?_
  rintro _ w2 ⟨c2, rfl⟩
  have t2 := t1.below c2
  have b2 := b1.step c2
  refine TW.move rfl rfl rfl ct ?_
  refine TW.extract rfl rfl rfl rfl ct ?_
  refine TW.extract rfl rfl rfl rfl ct ?_
  refine TW.assign rfl rfl rfl ct ?_
  refine TW.assign rfl rfl rfl ct ?_
  refine TW.nil (KW.pick [0, 1, 2, 3, 8, 9, 10, 11] [(0, _, _), (1, _, _), (2, _, _), (3, _, _), (8, _, _), (9, _, _), (10, _, _), (11, _, _)] rfl (KW.then_ ?_))
  refine CW.seq (CW.region ?_)
  refine TW.move rfl rfl rfl ct ?_
  refine TW.call0 (cap := []) rfl rfl en11 rfl (Args.cons rfl ct Args.nil) (rcheck_c _) ?_
  rintro _ w3 ⟨c3, rfl⟩
  have t3 := t2.below c3
  have b3 := b2.step c3
  refine TW.move rfl rfl rfl ct ?_
  refine TW.extract rfl rfl rfl rfl ct ?_
  refine TW.extract rfl rfl rfl rfl ct ?_
  refine TW.assign rfl rfl rfl ct ?_
  refine TW.assign rfl rfl rfl ct ?_
  refine TW.nil (KW.pick [0, 1, 2, 3, 8, 9, 10, 11, 12, 13] [(0, _, _), (1, _, _), (2, _, _), (3, _, _), (8, _, _), (9, _, _), (10, _, _), (11, _, _), (12, _, _), (13, _, _)] rfl (KW.then_ ?_))
  refine CW.seq (CW.region ?_)
  refine TW.move rfl rfl rfl ct ?_
  refine TW.move rfl rfl rfl ct ?_
  refine TW.move rfl rfl rfl ct ?_
  refine TW.call0 (cap := []) rfl rfl en12 rfl (Args.cons rfl ct (Args.cons rfl ct (Args.cons rfl ct Args.nil))) (make_c _ _ _ t3) ?_
  rintro _ w4 ⟨c4, rfl⟩
  have t4 := t3.below c4
  have b4 := b3.step c4
  refine TW.move rfl rfl rfl ct ?_
  refine TW.extract rfl rfl rfl rfl ct ?_
  refine TW.extract rfl rfl rfl rfl ct ?_
  refine TW.assign rfl rfl rfl ct ?_
  refine TW.assign rfl rfl rfl ct ?_
  refine TW.nil (KW.pick [0, 1, 2, 3, 8, 9, 10, 11, 12, 13, 14, 15] [(0, _, _), (1, _, _), (2, _, _), (3, _, _), (8, _, _), (9, _, _), (10, _, _), (11, _, _), (12, _, _), (13, _, _), (14, _, _), (15, _, _)] rfl (KW.then_ ?_))
  refine CW.seq (CW.region ?_)
  refine TW.move rfl rfl rfl ct ?_
  refine TW.move rfl rfl rfl ct ?_
  refine TW.move rfl rfl rfl ct ?_
  refine TW.call0 (cap := []) rfl rfl en13 rfl (Args.cons rfl ct (Args.cons rfl ct (Args.cons rfl ct Args.nil))) (rmake_c _ _ _) ?_
  rintro _ w5 ⟨c5, rfl⟩
  have t5 := t4.below c5
  have b5 := b4.step c5
  refine TW.move rfl rfl rfl ct ?_
  refine TW.extract rfl rfl rfl rfl ct ?_
  refine TW.extract rfl rfl rfl rfl ct ?_
  refine TW.assign rfl rfl rfl ct ?_
  refine TW.assign rfl rfl rfl ct ?_
  refine TW.nil (KW.pick [0, 1, 2, 3, 8, 9, 10, 11, 12, 13, 14, 15, 16, 17] [(0, _, _), (1, _, _), (2, _, _), (3, _, _), (8, _, _), (9, _, _), (10, _, _), (11, _, _), (12, _, _), (13, _, _), (14, _, _), (15, _, _), (16, _, _), (17, _, _)] rfl (KW.then_ ?_))
  refine CW.seq (CW.region ?_)
  refine TW.move rfl rfl rfl ct ?_
  refine TW.call0 (cap := []) rfl rfl en14 rfl (Args.cons rfl ct Args.nil) (serial_c _ t5) ?_
  rintro _ w6 ⟨c6, rfl⟩
  have t6 := t5.below c6
  have b6 := b5.step c6
  refine TW.move rfl rfl rfl ct ?_
  refine TW.extract rfl rfl rfl rfl ct ?_
  refine TW.extract rfl rfl rfl rfl ct ?_
  refine TW.assign rfl rfl rfl ct ?_
  refine TW.assign rfl rfl rfl ct ?_
  refine TW.nil (KW.pick [0, 1, 2, 3, 8, 9, 10, 11, 12, 13, 14, 15, 16, 17, 18, 19] [(0, _, _), (1, _, _), (2, _, _), (3, _, _), (8, _, _), (9, _, _), (10, _, _), (11, _, _), (12, _, _), (13, _, _), (14, _, _), (15, _, _), (16, _, _), (17, _, _), (18, _, _), (19, _, _)] rfl (KW.then_ ?_))
  refine CW.seq (CW.region ?_)
  refine TW.move rfl rfl rfl ct ?_
  refine TW.call0 (cap := []) rfl rfl en15 rfl (Args.cons rfl ct Args.nil) (rserial_c _) ?_
  rintro _ w7 ⟨c7, rfl⟩
  have t7 := t6.below c7
  have b7 := b6.step c7
  refine TW.move rfl rfl rfl ct ?_
  refine TW.extract rfl rfl rfl rfl ct ?_
  refine TW.extract rfl rfl rfl rfl ct ?_
  refine TW.assign rfl rfl rfl ct ?_
  refine TW.assign rfl rfl rfl ct ?_
  refine TW.nil (KW.pick [0, 1, 2, 3, 8, 9, 10, 11, 12, 13, 14, 15, 16, 17, 18, 19, 20, 21] [(0, _, _), (1, _, _), (2, _, _), (3, _, _), (8, _, _), (9, _, _), (10, _, _), (11, _, _), (12, _, _), (13, _, _), (14, _, _), (15, _, _), (16, _, _), (17, _, _), (18, _, _), (19, _, _), (20, _, _), (21, _, _)] rfl (KW.then_ ?_))
  refine CW.seq (CW.region ?_)
  refine TW.move rfl rfl rfl ct ?_
  refine TW.move rfl rfl rfl ct ?_
  refine TW.known rfl (by simp [Cnd]) ?_
  refine TW.move rfl rfl rfl ct ?_
  refine TW.known rfl (by simp [Cnd]) ?_
  refine TW.move rfl rfl rfl ct ?_
  refine TW.known rfl (by simp [Cnd]) ?_
  refine TW.eql rfl rfl rfl ct rfl ct ?_
  refine TW.pickAnd rfl rfl rfl ct rfl pT ?_
  refine TW.move rfl rfl rfl ct ?_
  refine TW.known rfl (by simp [Cnd]) ?_
  refine TW.move rfl rfl rfl ct ?_
  refine TW.known rfl (by simp [Cnd]) ?_
  refine TW.move rfl rfl rfl ct ?_
  refine TW.known rfl (by simp [Cnd]) ?_
  refine TW.eql rfl rfl rfl ct rfl ct ?_
  refine TW.pickAnd rfl rfl rfl ct rfl pT ?_
  refine TW.move rfl rfl rfl ct ?_
  refine TW.known rfl (by simp [Cnd]) ?_
  refine TW.move rfl rfl rfl ct ?_
  refine TW.known rfl (by simp [Cnd]) ?_
  refine TW.move rfl rfl rfl ct ?_
  refine TW.known rfl (by simp [Cnd]) ?_
  refine TW.eqlS rfl rfl rfl ct rfl ct ?_
  refine TW.pickAnd rfl rfl rfl ct rfl pT ?_
  refine TW.move rfl rfl rfl ct ?_
  refine TW.known rfl (by simp [Cnd]) ?_
  refine TW.move rfl rfl rfl ct ?_
  refine TW.known rfl (by simp [Cnd]) ?_
  refine TW.move rfl rfl rfl ct ?_
  refine TW.known rfl (by simp [Cnd]) ?_
  refine TW.eql rfl rfl rfl ct rfl ct ?_
  refine TW.pickAnd rfl rfl rfl ct rfl pT ?_
  refine TW.move rfl rfl rfl ct ?_
  refine TW.known rfl (by simp [Cnd]) ?_
  refine TW.move rfl rfl rfl ct ?_
  refine TW.known rfl (by simp [Cnd]) ?_
  refine TW.move rfl rfl rfl ct ?_
  refine TW.known rfl (by simp [Cnd]) ?_
  refine TW.eql rfl rfl rfl ct rfl ct ?_
  refine TW.pickAnd rfl rfl rfl ct rfl pT ?_
  refine TW.move rfl rfl rfl ct ?_
  refine TW.known rfl (by simp [Cnd]) ?_
  refine TW.move rfl rfl rfl ct ?_
  refine TW.known rfl (by simp [Cnd]) ?_
  refine TW.move rfl rfl rfl ct ?_
  refine TW.known rfl (by simp [Cnd]) ?_
  refine TW.eql rfl rfl rfl ct rfl ct ?_
  refine TW.pickAnd rfl rfl rfl ct rfl pT ?_
  refine TW.move rfl rfl rfl ct ?_
  refine TW.known rfl (by simp [Cnd]) ?_
  refine TW.move rfl rfl rfl ct ?_
  refine TW.known rfl (by simp [Cnd]) ?_
  refine TW.callF (cap := []) rfl rfl en16 rfl ct (Args.cons rfl ct Args.nil) (fun _ => valid_c _ t7) ?_
  rintro w8 c8
  refine TW.known rfl (by simp [Cnd]) ?_
  refine TW.move rfl rfl rfl ct ?_
  refine TW.known rfl (by simp [Cnd]) ?_
  have t8 := t7.below c8
  have b8 := b7.step c8
  refine TW.callF (cap := []) rfl rfl en17 rfl ct (Args.cons rfl ct Args.nil) (fun _ => rvalid_c _) ?_
  rintro w9 c9
  refine TW.known rfl (by simp [Cnd]) ?_
  refine TW.eqlB rfl rfl Tryd.underlying4 rfl ct rfl ct ?_
  refine TW.pickAnd rfl rfl rfl ct rfl pT ?_
  refine TW.move rfl rfl rfl ct ?_
  refine TW.known rfl (by simp [Cnd]) ?_
  refine TW.move rfl rfl rfl ct ?_
  refine TW.known rfl (by simp [Cnd]) ?_
  have t9 := t8.below c9
  have b9 := b8.step c9
  refine TW.call0 (cap := []) rfl rfl en19 rfl (Args.cons rfl ct Args.nil) (misread_s _ t9) ?_
  rintro v10 w10 ⟨c10, s10⟩
  have b10 := b9.step c10
  refine TW.known rfl (by simp [Cnd]) ?_
  refine TW.move rfl rfl rfl ct ?_
  refine TW.known rfl (by simp [Cnd]) ?_
  refine TW.call0 (cap := []) rfl rfl en20 rfl (Args.cons rfl ct Args.nil) (rmisread_s _) ?_
  rintro v11 w11 ⟨c11, s11⟩
  have b11 := b10.step c11
  refine TW.known rfl (by simp [Cnd]) ?_
  refine TW.callF (cap := []) rfl rfl en18 rfl ct (Args.cons rfl ct (Args.cons rfl ct Args.nil)) (fun _ => strings_t (ss_step s10 c11) s11) ?_
  rintro w12 c12
  refine TW.pickAnd rfl rfl rfl ct rfl pT ?_
  refine TW.assign rfl rfl rfl ct ?_
  refine TW.nil (KW.pick [0, 1, 2, 3, 8, 9, 10, 11, 12, 13, 14, 15, 16, 17, 18, 19, 20, 21] [(0, _, _), (1, _, _), (2, _, _), (3, _, _), (8, _, _), (9, _, _), (10, _, _), (11, _, _), (12, _, _), (13, _, _), (14, _, _), (15, _, _), (16, _, _), (17, _, _), (18, _, _), (19, _, _), (20, _, _), (21, _, _)] rfl (KW.then_ ?_))
  refine CW.ret ?_
  refine ret1 Tryd.results3 rfl (⟨b11.step c12, by simp⟩)
end Go.Proofs.YthldjchogdefjaaDoor
