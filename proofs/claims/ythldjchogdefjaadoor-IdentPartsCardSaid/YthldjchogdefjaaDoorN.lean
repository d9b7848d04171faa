import Derived.Test.YthldjchogdefjaaDoorEx
namespace Go.Proofs.YthldjchogdefjaaDoor
open Go.PF Go.RowKit

theorem mis_size {s t : ByteArray} (h : t ∈ mis s) : t.size = 13 := by
  obtain ⟨hs, hc, _⟩ := mem_mis.1 h
  obtain ⟨i, d, hi, hd, _, rfl⟩ := mem_cands.1 hc
  exact nbr_size hs.size (by omega)
theorem mis_len (s : ByteArray) : (mis s).length ≤ 90 := by
  unfold mis
  split
  · rw [(misS_perm s).length_eq]
    unfold found
    refine Nat.le_trans (List.length_filter_le _ _) ?_
    have := candsTo_len s 9
    unfold cands
    omega
  · simp
theorem misread_s {w : World} (s : ByteArray) (ht : Tabs w) : Gives Tryd.prog 19 #[.string s] w fun u w' => Below w.heap.size w w' ∧ SS w' u (mis s) := by
  refine (misread_c s ht).mono ?_
  rintro u w' ⟨hb, ts, h, ho, _⟩
  have e : ts = mis s := by
    unfold mis
    rcases h with ⟨h1, h2⟩ | ⟨h1, h2⟩
    · rw [if_neg h1, h2]
    · rw [if_pos h1, h2]
  subst e
  exact ⟨hb, own_strs ho (fun t ht => size13 (mis_size ht)) (by have := mis_len s; omega)⟩
theorem rmisread_s {w : World} (s : ByteArray) : Gives Tryd.prog 20 #[.string s] w fun u w' => Below w.heap.size w w' ∧ SS w' u (mis s) := by
  refine (rmisread_c s).mono ?_
  rintro u w' ⟨hb, ts, h, ho⟩
  have e : ts = mis s := by
    unfold mis
    rcases h with ⟨h1, h2⟩ | ⟨h1, h2⟩
    · rw [if_neg h1, h2]
    · rw [if_pos h1, h2]
  subst e
  exact ⟨hb, ho⟩
theorem valid_t {w : World} {s : ByteArray} (hv : Val s) (ht : Tabs w) : Gives Tryd.prog 16 #[.string s] w fun u w' => Below w.heap.size w w' ∧ u = .bool true := by
  have := valid_c s ht
  rwa [dec_pos hv] at this
theorem valid_f {w : World} {s : ByteArray} (hv : ¬ Val s) (ht : Tabs w) : Gives Tryd.prog 16 #[.string s] w fun u w' => Below w.heap.size w w' ∧ u = .bool false := by
  have := valid_c s ht
  rwa [dec_neg hv] at this
theorem strings_t {w : World} {v v' : Value} {l : List ByteArray} (hl : SS w v l) (hl' : SS w v' l) : Gives Tryd.prog 18 #[v, v'] w fun u w' => Below w.heap.size w w' ∧ u = .bool true := by
  have := strings_c hl hl'
  rwa [dec_pos rfl] at this

set_option maxRecDepth 20000 in
theorem head_c {w : World} (ht : Tabs w) : Gives Tryd.prog 9 #[] w fun u w' => Below w.heap.size w w' ∧ u = .bool true := by
  refine gives_of (vs := []) [] Tryd.func9 rfl Tryd.ntmps9 rfl rfl ?_
  refine CW.seq (CW.region ?_)
  refine TW.assign rfl rfl rfl ct ?_
  refine TW.nil (KW.pick [0] [(0, _, _)] rfl (KW.then_ ?_))
  refine CW.seq (CW.region ?_)
  refine TW.call0 (cap := []) rfl rfl en10 rfl (Args.cons rfl ct Args.nil) (check_c _ ht) ?_
  rintro _ w1 ⟨b1, rfl⟩
  rw [k1]
  have t1 := ht.below b1
  refine TW.move rfl rfl rfl ct ?_
  refine TW.extract rfl rfl rfl rfl ct ?_
  refine TW.extract rfl rfl rfl rfl ct ?_
  refine TW.assign rfl rfl rfl ct ?_
  refine TW.assign rfl rfl rfl ct ?_
  refine TW.nil (KW.pick [0, 1, 2] [(0, _, _), (1, _, _), (2, _, _)] rfl (KW.then_ ?_))
  refine CW.seq (CW.region ?_)
  refine TW.call0 (cap := []) rfl rfl en10 rfl (Args.cons rfl ct Args.nil) (check_c _ t1) ?_
  rintro _ w2 ⟨c2, rfl⟩
  rw [k2]
  have t2 := t1.below c2
  have b2 := b1.step c2
  refine TW.move rfl rfl rfl ct ?_
  refine TW.extract rfl rfl rfl rfl ct ?_
  refine TW.extract rfl rfl rfl rfl ct ?_
  refine TW.assign rfl rfl rfl ct ?_
  refine TW.assign rfl rfl rfl ct ?_
  refine TW.nil (KW.pick [0, 1, 2, 3, 4] [(0, _, _), (1, _, _), (2, _, _), (3, _, _), (4, _, _)] rfl (KW.then_ ?_))
  refine CW.seq (CW.region ?_)
  refine TW.call0 (cap := []) rfl rfl en10 rfl (Args.cons rfl ct Args.nil) (check_c _ t2) ?_
  rintro _ w3 ⟨c3, rfl⟩
  rw [k3]
  have t3 := t2.below c3
  have b3 := b2.step c3
  refine TW.move rfl rfl rfl ct ?_
  refine TW.extract rfl rfl rfl rfl ct ?_
  refine TW.extract rfl rfl rfl rfl ct ?_
  refine TW.assign rfl rfl rfl ct ?_
  refine TW.assign rfl rfl rfl ct ?_
  refine TW.nil (KW.pick [0, 1, 2, 3, 4, 6] [(0, _, _), (1, _, _), (2, _, _), (3, _, _), (4, _, _), (6, _, _)] rfl (KW.then_ ?_))
  refine CW.seq (CW.region ?_)
  refine TW.call0 (cap := []) rfl rfl en12 rfl (Args.cons rfl ct (Args.cons rfl ct (Args.cons rfl ct Args.nil))) (make_c _ _ _ t3) ?_
  rintro _ w4 ⟨c4, rfl⟩
  rw [k4]
  have t4 := t3.below c4
  have b4 := b3.step c4
  refine TW.move rfl rfl rfl ct ?_
  refine TW.extract rfl rfl rfl rfl ct ?_
  refine TW.extract rfl rfl rfl rfl ct ?_
  refine TW.assign rfl rfl rfl ct ?_
  refine TW.assign rfl rfl rfl ct ?_
  refine TW.nil (KW.pick [0, 1, 2, 3, 4, 6, 7, 8] [(0, _, _), (1, _, _), (2, _, _), (3, _, _), (4, _, _), (6, _, _), (7, _, _), (8, _, _)] rfl (KW.then_ ?_))
  refine CW.seq (CW.region ?_)
  refine TW.call0 (cap := []) rfl rfl en14 rfl (Args.cons rfl ct Args.nil) (serial_c exOK t4) ?_
  rintro _ w5 ⟨c5, rfl⟩
  rw [k5]
  have t5 := t4.below c5
  have b5 := b4.step c5
  refine TW.move rfl rfl rfl ct ?_
  refine TW.extract rfl rfl rfl rfl ct ?_
  refine TW.extract rfl rfl rfl rfl ct ?_
  refine TW.assign rfl rfl rfl ct ?_
  refine TW.assign rfl rfl rfl ct ?_
  refine TW.nil (KW.pick [0, 1, 2, 3, 4, 6, 7, 8, 9, 10] [(0, _, _), (1, _, _), (2, _, _), (3, _, _), (4, _, _), (6, _, _), (7, _, _), (8, _, _), (9, _, _), (10, _, _)] rfl (KW.then_ ?_))
  refine CW.seq (CW.region ?_)
  refine TW.call0 (cap := []) rfl rfl en14 rfl (Args.cons rfl ct Args.nil) (serial_c exBad t5) ?_
  rintro _ w6 ⟨c6, rfl⟩
  rw [k6]
  have t6 := t5.below c6
  have b6 := b5.step c6
  refine TW.move rfl rfl rfl ct ?_
  refine TW.extract rfl rfl rfl rfl ct ?_
  refine TW.extract rfl rfl rfl rfl ct ?_
  refine TW.assign rfl rfl rfl ct ?_
  refine TW.assign rfl rfl rfl ct ?_
  refine TW.nil (KW.pick [0, 1, 2, 3, 4, 6, 7, 8, 9, 10, 12] [(0, _, _), (1, _, _), (2, _, _), (3, _, _), (4, _, _), (6, _, _), (7, _, _), (8, _, _), (9, _, _), (10, _, _), (12, _, _)] rfl (KW.then_ ?_))
  refine CW.seq (CW.region ?_)
  refine TW.call0 (cap := []) rfl rfl en14 rfl (Args.cons rfl ct Args.nil) (serial_c exLow t6) ?_
  rintro _ w7 ⟨c7, rfl⟩
  rw [k7]
  have t7 := t6.below c7
  have b7 := b6.step c7
  refine TW.move rfl rfl rfl ct ?_
  refine TW.extract rfl rfl rfl rfl ct ?_
  refine TW.extract rfl rfl rfl rfl ct ?_
  refine TW.assign rfl rfl rfl ct ?_
  refine TW.assign rfl rfl rfl ct ?_
  refine TW.nil (KW.pick [0, 1, 2, 3, 4, 6, 7, 8, 9, 10, 12, 14] [(0, _, _), (1, _, _), (2, _, _), (3, _, _), (4, _, _), (6, _, _), (7, _, _), (8, _, _), (9, _, _), (10, _, _), (12, _, _), (14, _, _)] rfl (KW.then_ ?_))
  refine CW.seq (CW.region ?_)
  refine TW.move rfl rfl rfl ct ?_
  refine TW.eql rfl rfl rfl ct rfl ct ?_
  refine TW.move rfl rfl rfl ct ?_
  refine TW.known rfl (by simp [Cnd, exOK]) ?_
  refine TW.move rfl rfl rfl ct ?_
  refine TW.known rfl (by simp [Cnd, exOK]) ?_
  refine TW.eql rfl rfl rfl ct rfl ct ?_
  refine TW.pickAnd rfl rfl rfl ct rfl pT ?_
  refine TW.move rfl rfl rfl ct ?_
  refine TW.known rfl (by simp [Cnd, exOK]) ?_
  refine TW.move rfl rfl rfl ct ?_
  refine TW.known rfl (by simp [Cnd, exOK]) ?_
  refine TW.eql rfl rfl rfl ct rfl ct ?_
  refine TW.pickAnd rfl rfl rfl ct rfl pT ?_
  refine TW.move rfl rfl rfl ct ?_
  refine TW.known rfl (by simp [Cnd, exOK]) ?_
  refine TW.move rfl rfl rfl ct ?_
  refine TW.known rfl (by simp [Cnd, exOK]) ?_
  refine TW.eql rfl rfl rfl ct rfl ct ?_
  refine TW.pickAnd rfl rfl rfl ct rfl pT ?_
  refine TW.move rfl rfl rfl ct ?_
  refine TW.known rfl (by simp [Cnd, exOK]) ?_
  refine TW.move rfl rfl rfl ct ?_
  refine TW.known rfl (by simp [Cnd, exOK]) ?_
  refine TW.eql rfl rfl rfl ct rfl ct ?_
  refine TW.pickAnd rfl rfl rfl ct rfl pT ?_
  refine TW.move rfl rfl rfl ct ?_
  refine TW.known rfl (by simp [Cnd, exOK]) ?_
  refine TW.move rfl rfl rfl ct ?_
  refine TW.known rfl (by simp [Cnd, exOK]) ?_
  refine TW.eqlS rfl rfl rfl ct rfl ct ?_
  refine TW.pickAnd rfl rfl rfl ct rfl pT ?_
  refine TW.move rfl rfl rfl ct ?_
  refine TW.known rfl (by simp [Cnd, exOK]) ?_
  refine TW.move rfl rfl rfl ct ?_
  refine TW.known rfl (by simp [Cnd, exOK]) ?_
  refine TW.eql rfl rfl rfl ct rfl ct ?_
  refine TW.pickAnd rfl rfl rfl ct rfl pT ?_
  refine TW.move rfl rfl rfl ct ?_
  refine TW.known rfl (by simp [Cnd, exOK]) ?_
  refine TW.move rfl rfl rfl ct ?_
  refine TW.known rfl (by simp [Cnd, exOK]) ?_
  refine TW.eql rfl rfl rfl ct rfl ct ?_
  refine TW.pickAnd rfl rfl rfl ct rfl pT ?_
  refine TW.move rfl rfl rfl ct ?_
  refine TW.known rfl (by simp [Cnd, exOK]) ?_
  refine TW.move rfl rfl rfl ct ?_
  refine TW.known rfl (by simp [Cnd, exOK]) ?_
  refine TW.eql rfl rfl rfl ct rfl ct ?_
  refine TW.pickAnd rfl rfl rfl ct rfl pT ?_
  refine TW.move rfl rfl rfl ct ?_
  refine TW.known rfl (by simp [Cnd, exOK]) ?_
  refine TW.move rfl rfl rfl ct ?_
  refine TW.known rfl (by simp [Cnd, exOK]) ?_
  refine TW.eql rfl rfl rfl ct rfl ct ?_
  refine TW.pickAnd rfl rfl rfl ct rfl pT ?_
  refine TW.move rfl rfl rfl ct ?_
  refine TW.known rfl (by simp [Cnd, exOK]) ?_
  refine TW.move rfl rfl rfl ct ?_
  refine TW.known rfl (by simp [Cnd, exOK]) ?_
  refine TW.eql rfl rfl rfl ct rfl ct ?_
  refine TW.pickAnd rfl rfl rfl ct rfl pT ?_
  refine TW.assign rfl rfl rfl ct ?_
  refine TW.nil (KW.pick [0, 1, 2, 3, 4, 6, 7, 8, 9, 10, 12, 14, 15] [(0, _, _), (1, _, _), (2, _, _), (3, _, _), (4, _, _), (6, _, _), (7, _, _), (8, _, _), (9, _, _), (10, _, _), (12, _, _), (14, _, _), (15, _, _)] rfl (KW.then_ ?_))
  refine CW.seq (CW.region ?_)
  refine TW.move rfl rfl rfl ct ?_
  refine TW.move rfl rfl rfl ct ?_
  refine TW.known rfl (by simp [Cnd, exOK]) ?_
  refine TW.move rfl rfl rfl ct ?_
  refine TW.known rfl (by simp [Cnd, exOK]) ?_
  refine TW.callF (cap := []) rfl rfl en16 rfl ct (Args.cons rfl ct Args.nil) (fun _ => valid_t vOK t7) ?_
  rintro w8 c8
  refine TW.pickAnd rfl rfl rfl ct rfl pT ?_
  refine TW.move rfl rfl rfl ct ?_
  refine TW.known rfl (by simp [Cnd, exOK]) ?_
  have t8 := t7.below c8
  have b8 := b7.step c8
  refine TW.callF (cap := []) rfl rfl en16 rfl ct (Args.cons rfl ct Args.nil) (fun _ => valid_f vBad t8) ?_
  rintro w9 c9
  refine TW.known rfl (by simp [Cnd, exOK]) ?_
  refine TW.not rfl rfl rfl ct ?_
  refine TW.pickAnd rfl rfl rfl ct rfl pT ?_
  refine TW.move rfl rfl rfl ct ?_
  refine TW.known rfl (by simp [Cnd, exOK]) ?_
  refine TW.move rfl rfl rfl ct ?_
  refine TW.known rfl (by simp [Cnd, exOK]) ?_
  have t9 := t8.below c9
  have b9 := b8.step c9
  refine TW.call0 (cap := []) rfl rfl en19 rfl (Args.cons rfl ct Args.nil) (misread_s exOK t9) ?_
  rintro v10 w10 ⟨c10, s10⟩
  rw [k8] at s10
  obtain ⟨A10, cap10, rfl, _⟩ := ss_form s10
  have t10 := t9.below c10
  have b10 := b9.step c10
  refine TW.known rfl (by simp [Cnd, exOK]) ?_
  refine TW.lenSlice rfl rfl Tryd.underlying30 rfl ct ?_
  refine TW.known rfl (by simp [Cnd, exOK]) ?_
  refine TW.eql rfl rfl rfl ct rfl ct ?_
  refine TW.pickAnd rfl rfl rfl ct rfl pT ?_
  refine TW.move rfl rfl rfl ct ?_
  refine TW.known rfl (by simp [Cnd, exOK]) ?_
  refine TW.call0 (cap := []) rfl rfl en19 rfl (Args.cons rfl ct Args.nil) (misread_s exBad t10) ?_
  rintro v11 w11 ⟨c11, s11⟩
  have t11 := t10.below c11
  have b11 := b10.step c11
  refine TW.known rfl (by simp [Cnd, exOK]) ?_
  refine TW.call0 (cap := []) rfl rfl en20 rfl (Args.cons rfl ct Args.nil) (rmisread_s exBad) ?_
  rintro v12 w12 ⟨c12, s12⟩
  have t12 := t11.below c12
  have b12 := b11.step c12
  refine TW.known rfl (by simp [Cnd, exOK]) ?_
  refine TW.callF (cap := []) rfl rfl en18 rfl ct (Args.cons rfl ct (Args.cons rfl ct Args.nil)) (fun _ => strings_t (ss_step s11 c12) s12) ?_
  rintro w13 c13
  refine TW.pickAnd rfl rfl rfl ct rfl pT ?_
  refine TW.move rfl rfl rfl ct ?_
  refine TW.known rfl (by simp [Cnd, exOK]) ?_
  have t13 := t12.below c13
  have b13 := b12.step c13
  refine TW.call0 (cap := []) rfl rfl en19 rfl (Args.cons rfl ct Args.nil) (misread_s exBad t13) ?_
  rintro v14 w14 ⟨c14, s14⟩
  obtain ⟨A14, cap14, rfl, _⟩ := ss_form s14
  have hpos : 0 < (mis exBad).length := List.length_pos_of_mem k9
  refine TW.known rfl (by simp [Cnd, exOK]) ?_
  refine TW.lenSlice rfl rfl Tryd.underlying30 rfl ct ?_
  refine TW.known rfl (by simp [Cnd, exOK]) ?_
  refine TW.gtr rfl rfl rfl ct rfl ct ?_
  refine TW.pickAnd rfl rfl rfl ct rfl pT ?_
  refine TW.assign rfl rfl rfl ct ?_
  refine TW.nil (KW.pick [0, 1, 2, 3, 4, 6, 7, 8, 9, 10, 12, 14, 15] [(0, _, _), (1, _, _), (2, _, _), (3, _, _), (4, _, _), (6, _, _), (7, _, _), (8, _, _), (9, _, _), (10, _, _), (12, _, _), (14, _, _), (15, _, _)] rfl (KW.then_ ?_))
  refine CW.ret ?_
  refine ret1 Tryd.results9 rfl (⟨b13.step c14, ?_⟩)
  have : (0 : Int) < ((mis exBad).length : Int) := by omega
  simp [exOK]
  exact hpos
end Go.Proofs.YthldjchogdefjaaDoor
