import Derived.Test.YthldjchogdefjaaDoorPrt
namespace Go.Proofs.YthldjchogdefjaaDoor
open Go.PF Go.RowKit

theorem serial_val {s : ByteArray} (hv : Val s) : serialS s = (sval (s.extract 2 10) 8, 0) := by
  unfold serialS
  rw [if_neg (by simpa using hv.1), if_neg (by simpa using hv)]

set_option maxRecDepth 20000 in
theorem parts_law {w : World} (kind op s : ByteArray) (n : Int) (hn : I64 n) (ht : Tabs w) : Gives Tryd.prog 4 #[.string kind, .int .i64 n, .string op, .string s] w fun u w' => Below w.heap.size w w' ∧ u = .bool true := by
  refine gives_of (vs := [.string kind, .int .i64 n, .string op, .string s]) [(0, none, _), (1, none, _), (2, none, _), (3, none, _)] Tryd.func4 rfl Tryd.ntmps4 rfl rfl ?_
  refine CW.seq (CW.region ?_)
  refine TW.assign rfl rfl rfl ct ?_
  refine TW.nil (KW.pick [0, 1, 2, 3, 8] [(0, _, _), (1, _, _), (2, _, _), (3, _, _), (8, _, _)] rfl (KW.then_ ?_))
  refine CW.seq (CW.region ?_)
  refine TW.callF (cap := []) rfl rfl en9 rfl ct Args.nil (fun _ => head_c ht) ?_
  rintro w1 b1
  refine TW.assign rfl rfl rfl ct ?_
  refine TW.nil (KW.pick [0, 1, 2, 3, 8, 9] [(0, _, _), (1, _, _), (2, _, _), (3, _, _), (8, _, _), (9, _, _)] rfl (KW.then_ ?_))
  refine CW.seq (CW.seq (CW.region ?_))
  refine TW.move rfl rfl rfl ct ?_
  refine TW.lenString rfl rfl Tryd.underlying9 rfl ct ?_
  refine TW.gtr rfl rfl rfl ct rfl ct ?_
  refine TW.move rfl rfl rfl ct ?_
  refine TW.move rfl rfl rfl ct ?_
  refine TW.lenString rfl rfl Tryd.underlying9 rfl id ?_
  refine TW.gtr rfl rfl rfl id rfl ct ?_
  refine TW.pickOr rfl rfl rfl ct rfl pOr0 ?_
  refine TW.move rfl rfl rfl ct ?_
  refine TW.move rfl rfl rfl ct ?_
  refine TW.lenString rfl rfl Tryd.underlying9 rfl id ?_
  refine TW.gtr rfl rfl rfl id rfl ct ?_
  refine TW.pickOr rfl rfl rfl ct rfl pOr0 ?_
  refine TW.nil (KW.pick [0, 1, 2, 3, 8, 9, 31] [(0, _, _), (1, _, _), (2, _, _), (3, _, _), (8, _, _), (9, _, _), (31, _, _)] rfl (KW.then_ ?_))
  have t1 := ht.below b1
  refine CW.cond rfl (fun hx => ?_) (fun hy => ?_)
  · refine CW.seq (CW.region ?_)
    refine TW.move rfl rfl rfl ct ?_
    refine TW.assign rfl rfl rfl ct ?_
    refine TW.nil (KW.pick [0, 1, 2, 3, 8, 9] [(0, _, _), (1, _, _), (2, _, _), (3, _, _), (8, _, _), (9, _, _)] rfl (KW.then_ ?_))
    refine CW.ret (KW.thenR ?_)
    refine ret1 Tryd.results4 rfl (⟨b1, rfl⟩)
  refine CW.skip (KW.then_ (CW.seq (CW.region ?_)))
  refine TW.move rfl rfl rfl ct ?_
  refine TW.move rfl rfl rfl ct ?_
  refine TW.move rfl rfl rfl ct ?_
  refine TW.call0 (cap := []) rfl rfl en12 rfl (Args.cons rfl ct (Args.cons rfl ct (Args.cons rfl ct Args.nil))) (make_c _ _ _ t1) ?_
  rintro _ w2 ⟨c2, rfl⟩
  have t2 := t1.below c2
  have b2 := b1.step c2
  by_cases hok : MakeOK kind n op
  · have hmk : makeS kind n op = (idOf kind n.toNat op, 0) := by unfold makeS; rw [if_pos hok]
    obtain ⟨h1, h2, h3, h4⟩ := hok
    obtain ⟨m, rfl⟩ : ∃ m : Nat, n = m := ⟨n.toNat, by omega⟩
    rw [Int.toNat_natCast] at hmk
    have hser := serial_id (n := m) h1 h2 (by omega)
    have hval := idOf_val (n := m) h1 h2
    have hsz := idOf_size m h1.1 h2.1
    obtain ⟨e1, e2⟩ := idOf_ends (n := m) h1 h2
    have e2l : (idOf kind m op).extract 11 13 = op := by rw [hsz] at e2; exact e2
    have e1' : (idOf kind m op).extract 0 (Int.toNat 2) = kind := e1
    have e2' : (idOf kind m op).extract (Int.toNat 11) (idOf kind m op).size = op := e2
    rw [hmk]
    refine TW.move rfl rfl rfl ct ?_
    refine TW.extract rfl rfl rfl rfl ct ?_
    refine TW.extract rfl rfl rfl rfl ct ?_
    refine TW.assign rfl rfl rfl ct ?_
    refine TW.assign rfl rfl rfl ct ?_
    refine TW.nil (KW.pick [0, 1, 2, 3, 8, 9, 10, 11] [(0, _, _), (1, _, _), (2, _, _), (3, _, _), (8, _, _), (9, _, _), (10, _, _), (11, _, _)] rfl (KW.then_ ?_))
    refine CW.seq (CW.seq (CW.region ?_))
    refine TW.move rfl rfl rfl ct ?_
    refine TW.eql rfl rfl rfl ct rfl ct ?_
    refine TW.nil (KW.pick [0, 1, 2, 3, 8, 9, 10, 11, 41] [(0, _, _), (1, _, _), (2, _, _), (3, _, _), (8, _, _), (9, _, _), (10, _, _), (11, _, _), (41, _, _)] rfl (KW.then_ ?_))
    refine CW.condP rfl (fun hz => ?_) (fun hnz => ?_)
    · refine CW.seq (CW.region ?_)
      refine TW.move rfl rfl rfl ct ?_
      refine TW.call0 (cap := []) rfl rfl en14 rfl (Args.cons rfl ct Args.nil) (serial_c _ t2) ?_
      rintro _ w3 ⟨c3, rfl⟩
      rw [hser]
      have t3 := t2.below c3
      have b3 := b2.step c3
      refine TW.move rfl rfl rfl ct ?_
      refine TW.extract rfl rfl rfl rfl ct ?_
      refine TW.extract rfl rfl rfl rfl ct ?_
      refine TW.assign rfl rfl rfl ct ?_
      refine TW.assign rfl rfl rfl ct ?_
      refine TW.nil (KW.pick [0, 1, 2, 3, 8, 9, 10, 11, 12, 13] [(0, _, _), (1, _, _), (2, _, _), (3, _, _), (8, _, _), (9, _, _), (10, _, _), (11, _, _), (12, _, _), (13, _, _)] rfl (KW.then_ ?_))
      refine CW.seq (CW.region ?_)
      refine TW.move rfl rfl rfl ct ?_
      refine TW.neq rfl rfl rfl ct rfl ct ?_
      refine TW.move rfl rfl rfl ct ?_
      refine TW.known rfl (by simp [Cnd, hsz, e1, e2l]) ?_
      refine TW.move rfl rfl rfl ct ?_
      refine TW.known rfl (by simp [Cnd, hsz, e1, e2l]) ?_
      refine TW.move rfl rfl rfl ct ?_
      refine TW.known rfl (by simp [Cnd, hsz, e1, e2l]) ?_
      refine TW.neq rfl rfl rfl ct rfl ct ?_
      refine TW.pickOr rfl rfl rfl ct rfl pT ?_
      refine TW.move rfl rfl rfl ct ?_
      refine TW.known rfl (by simp [Cnd, hsz, e1, e2l]) ?_
      refine TW.move rfl rfl rfl ct ?_
      refine TW.known rfl (by simp [Cnd, hsz, e1, e2l]) ?_
      refine TW.callF (cap := []) rfl rfl en16 rfl ct (Args.cons rfl ct Args.nil) (fun _ => valid_t hval t3) ?_
      rintro w4 c4
      refine TW.known rfl (by simp [Cnd, hsz, e1, e2l]) ?_
      refine TW.not rfl rfl rfl ct ?_
      refine TW.pickOr rfl rfl rfl ct rfl pT ?_
      refine TW.move rfl rfl rfl ct ?_
      refine TW.known rfl (by simp [Cnd, hsz, e1, e2l]) ?_
      refine TW.move rfl rfl rfl ct ?_
      refine TW.known rfl (by simp [Cnd, hsz, e1, e2l]) ?_
      refine TW.lenString rfl rfl Tryd.underlying9 rfl ct ?_
      refine TW.known rfl (by simp [Cnd, hsz, e1, e2l]) ?_
      refine TW.neq rfl rfl rfl ct rfl ct ?_
      refine TW.pickOr rfl rfl rfl ct rfl pT ?_
      refine TW.move rfl rfl rfl ct ?_
      refine TW.known rfl (by simp [Cnd, hsz, e1, e2l]) ?_
      refine TW.move rfl rfl rfl ct ?_
      refine TW.known rfl (by simp [Cnd, hsz, e1, e2l]) ?_
      refine TW.sliceSH rfl rfl Tryd.underlying9 rfl ct rfl ct (fun _ => by (try dsimp only); omega) ?_
      refine TW.known rfl (by simp [Cnd, hsz, e1, e2l]) ?_
      refine TW.move rfl rfl rfl ct ?_
      refine TW.known rfl (by simp [Cnd, hsz, e1, e2l]) ?_
      refine TW.neqS rfl rfl rfl ct rfl ct ?_
      refine TW.pickOr rfl rfl rfl ct rfl pT ?_
      refine TW.move rfl rfl rfl ct ?_
      refine TW.known rfl (by simp [Cnd, hsz, e1, e2l]) ?_
      refine TW.move rfl rfl rfl ct ?_
      refine TW.known rfl (by simp [Cnd, hsz, e1, e2l]) ?_
      refine TW.sliceSL rfl rfl Tryd.underlying9 rfl ct rfl ct (fun _ => by (try dsimp only); omega) ?_
      refine TW.known rfl (by simp [Cnd, hsz, e1, e2l]) ?_
      refine TW.move rfl rfl rfl ct ?_
      refine TW.known rfl (by simp [Cnd, hsz, e1, e2l]) ?_
      refine TW.neqS rfl rfl rfl ct rfl ct ?_
      refine TW.pickOr rfl rfl rfl ct rfl pT ?_
      refine TW.nil (KW.pick [0, 1, 2, 3, 8, 9, 10, 11, 12, 13, 75] [(0, _, _), (1, _, _), (2, _, _), (3, _, _), (8, _, _), (9, _, _), (10, _, _), (11, _, _), (12, _, _), (13, _, _), (75, _, _)] rfl (KW.then_ ?_))
      have t4 := t3.below c4
      have b4 := b3.step c4
      refine CW.cond rfl (fun hbad => ?_) (fun hgood => ?_)
      · exfalso; simp [hsz, e1, e2l] at hbad
      refine CW.skip (KW.then_ (CW.seq (CW.seq (CW.region ?_))))
      refine TW.move rfl rfl rfl ct ?_
      refine TW.callF (cap := []) rfl rfl en16 rfl ct (Args.cons rfl ct Args.nil) (fun _ => valid_c s t4) ?_
      rintro w7 c7
      refine TW.not rfl rfl rfl ct ?_
      refine TW.nil (KW.pick [0, 1, 2, 3, 8, 9, 10, 11, 12, 13, 78] [(0, _, _), (1, _, _), (2, _, _), (3, _, _), (8, _, _), (9, _, _), (10, _, _), (11, _, _), (12, _, _), (13, _, _), (78, _, _)] rfl (KW.then_ ?_))
      have t7 := (t4).below c7
      have b7 := (b4).step c7
      refine CW.cond rfl (fun hnv => ?_) (fun hyv => ?_)
      · refine CW.seq (CW.region ?_)
        refine TW.move rfl rfl rfl ct ?_
        refine TW.assign rfl rfl rfl ct ?_
        refine TW.nil (KW.pick [0, 1, 2, 3, 8, 9, 10, 11, 12, 13] [(0, _, _), (1, _, _), (2, _, _), (3, _, _), (8, _, _), (9, _, _), (10, _, _), (11, _, _), (12, _, _), (13, _, _)] rfl (KW.then_ ?_))
        refine CW.ret (KW.thenR ?_)
        refine ret1 Tryd.results4 rfl (⟨b7, rfl⟩)
      have hv : Val s := dec_iff.1 (by simpa using hyv)
      have hs := hv.1.size
      have hsv := serial_val hv
      have hmb' : makeS (s.extract 0 (Int.toNat 2)) (sval (s.extract 2 10) 8, (0 : Int)).1 (s.extract (Int.toNat 11) s.size) = (s, 0) := make_back hv
      refine CW.skip (KW.then_ (CW.seq (CW.region ?_)))
      refine TW.move rfl rfl rfl ct ?_
      refine TW.call0 (cap := []) rfl rfl en14 rfl (Args.cons rfl ct Args.nil) (serial_c s t7) ?_
      rintro _ w8 ⟨c8, rfl⟩
      rw [hsv]
      have t8 := t7.below c8
      have b8 := b7.step c8
      refine TW.move rfl rfl rfl ct ?_
      refine TW.extract rfl rfl rfl rfl ct ?_
      refine TW.extract rfl rfl rfl rfl ct ?_
      refine TW.assign rfl rfl rfl ct ?_
      refine TW.assign rfl rfl rfl ct ?_
      refine TW.nil (KW.pick [0, 1, 2, 3, 8, 9, 10, 11, 12, 13, 14, 15] [(0, _, _), (1, _, _), (2, _, _), (3, _, _), (8, _, _), (9, _, _), (10, _, _), (11, _, _), (12, _, _), (13, _, _), (14, _, _), (15, _, _)] rfl (KW.then_ ?_))
      refine CW.seq (CW.seq (CW.region ?_))
      refine TW.move rfl rfl rfl ct ?_
      refine TW.neq rfl rfl rfl ct rfl ct ?_
      refine TW.move rfl rfl rfl ct ?_
      refine TW.move rfl rfl rfl ct ?_
      refine TW.lenString rfl rfl Tryd.underlying9 rfl id ?_
      refine TW.neq rfl rfl rfl id rfl ct ?_
      refine TW.pickOr rfl rfl rfl ct rfl pOr0 ?_
      refine TW.nil (KW.pick [0, 1, 2, 3, 8, 9, 10, 11, 12, 13, 14, 15, 91] [(0, _, _), (1, _, _), (2, _, _), (3, _, _), (8, _, _), (9, _, _), (10, _, _), (11, _, _), (12, _, _), (13, _, _), (14, _, _), (15, _, _), (91, _, _)] rfl (KW.then_ ?_))
      refine CW.cond rfl (fun hbad => ?_) (fun hgood => ?_)
      · exfalso; simp [hs] at hbad
      refine CW.skip (KW.then_ (CW.seq (CW.draw mixed (by kernel_rfl) ?_)))
      refine DW.move rfl rfl rfl ct ?_
      refine DW.sliceSH rfl rfl Tryd.underlying9 rfl ct rfl ct (fun _ => by (try dsimp only); omega) ?_
      refine DW.move rfl rfl rfl ct ?_
      refine DW.move rfl rfl rfl ct ?_
      refine DW.sliceSL rfl rfl Tryd.underlying9 rfl ct rfl ct (fun _ => by (try dsimp only); omega) ?_
      refine DW.call (.ex (.tuple #[.string s, .int .i64 0])) trivial rfl rfl en12 rfl ct (DArgs.cons rfl ct (DArgs.cons rfl ct (DArgs.cons rfl ct DArgs.nil))) (fun _ w' hb' => (make_c _ _ _ (t8.below hb')).mono (fun u w'' h => ⟨h.1, h.2.trans (by rw [hmb'])⟩)) ?_
      refine DW.move rfl rfl rfl ct ?_
      refine DW.extract rfl rfl rfl rfl ct ?_
      refine DW.extract rfl rfl rfl rfl ct ?_
      refine DW.assign rfl rfl rfl ct ?_
      refine DW.assign rfl rfl rfl ct ?_
      refine DW.nil (DW.fin [0, 1, 2, 3, 8, 9, 10, 11, 12, 13, 14, 15, 16, 17] [(0, _, _), (1, _, _), (2, _, _), (3, _, _), (8, _, _), (9, _, _), (10, _, _), (11, _, _), (12, _, _), (13, _, _), (14, _, _), (15, _, _), (16, _, _), (17, _, _)] rfl (fun w9 c9 => KW.then_ ?_))
      refine CW.seq (CW.region ?_)
      refine TW.move rfl rfl rfl ct ?_
      refine TW.move rfl rfl rfl ct ?_
      refine TW.move rfl rfl rfl ct ?_
      refine TW.eql rfl rfl rfl id rfl ct ?_
      refine TW.pickAnd rfl rfl rfl ct rfl pAnd0 ?_
      refine TW.move rfl rfl rfl ct ?_
      refine TW.move rfl rfl rfl ct ?_
      refine TW.move rfl rfl rfl ct ?_
      refine TW.eqlS rfl rfl rfl id rfl id ?_
      refine TW.pickAnd rfl rfl rfl ct rfl pAnd0 ?_
      refine TW.assign rfl rfl rfl ct ?_
      refine TW.nil (KW.pick [0, 1, 2, 3, 8, 9, 10, 11, 12, 13, 14, 15, 16, 17] [(0, _, _), (1, _, _), (2, _, _), (3, _, _), (8, _, _), (9, _, _), (10, _, _), (11, _, _), (12, _, _), (13, _, _), (14, _, _), (15, _, _), (16, _, _), (17, _, _)] rfl (KW.then_ ?_))
      refine CW.ret ?_
      refine ret1 Tryd.results4 rfl (⟨b8.step c9, by simp⟩)
    · exact absurd rfl hnz
  · have hmk : makeS kind n op = (ByteArray.empty, 1) := by unfold makeS; rw [if_neg hok]
    rw [hmk]
    refine TW.move rfl rfl rfl ct ?_
    refine TW.extract rfl rfl rfl rfl ct ?_
    refine TW.extract rfl rfl rfl rfl ct ?_
    refine TW.assign rfl rfl rfl ct ?_
    refine TW.assign rfl rfl rfl ct ?_
    refine TW.nil (KW.pick [0, 1, 2, 3, 8, 9, 10, 11] [(0, _, _), (1, _, _), (2, _, _), (3, _, _), (8, _, _), (9, _, _), (10, _, _), (11, _, _)] rfl (KW.then_ ?_))
    refine CW.seq (CW.seq (CW.region ?_))
    refine TW.move rfl rfl rfl ct ?_
    refine TW.eql rfl rfl rfl ct rfl ct ?_
    refine TW.nil (KW.pick [0, 1, 2, 3, 8, 9, 10, 11, 41] [(0, _, _), (1, _, _), (2, _, _), (3, _, _), (8, _, _), (9, _, _), (10, _, _), (11, _, _), (41, _, _)] rfl (KW.then_ ?_))
    refine CW.condP rfl (fun hz => ?_) (fun hnz => ?_)
    · exact absurd hz (by decide)
    refine CW.skip (KW.then_ (CW.seq (CW.seq (CW.region ?_))))
    refine TW.move rfl rfl rfl ct ?_
    refine TW.callF (cap := []) rfl rfl en16 rfl ct (Args.cons rfl ct Args.nil) (fun _ => valid_c s t2) ?_
    rintro w7 c7
    refine TW.not rfl rfl rfl ct ?_
    refine TW.nil (KW.pick [0, 1, 2, 3, 8, 9, 10, 11, 78] [(0, _, _), (1, _, _), (2, _, _), (3, _, _), (8, _, _), (9, _, _), (10, _, _), (11, _, _), (78, _, _)] rfl (KW.then_ ?_))
    have t7 := (t2).below c7
    have b7 := (b2).step c7
    refine CW.cond rfl (fun hnv => ?_) (fun hyv => ?_)
    · refine CW.seq (CW.region ?_)
      refine TW.move rfl rfl rfl ct ?_
      refine TW.assign rfl rfl rfl ct ?_
      refine TW.nil (KW.pick [0, 1, 2, 3, 8, 9, 10, 11] [(0, _, _), (1, _, _), (2, _, _), (3, _, _), (8, _, _), (9, _, _), (10, _, _), (11, _, _)] rfl (KW.then_ ?_))
      refine CW.ret (KW.thenR ?_)
      refine ret1 Tryd.results4 rfl (⟨b7, rfl⟩)
    have hv : Val s := dec_iff.1 (by simpa using hyv)
    have hs := hv.1.size
    have hsv := serial_val hv
    have hmb' : makeS (s.extract 0 (Int.toNat 2)) (sval (s.extract 2 10) 8, (0 : Int)).1 (s.extract (Int.toNat 11) s.size) = (s, 0) := make_back hv
    refine CW.skip (KW.then_ (CW.seq (CW.region ?_)))
    refine TW.move rfl rfl rfl ct ?_
    refine TW.call0 (cap := []) rfl rfl en14 rfl (Args.cons rfl ct Args.nil) (serial_c s t7) ?_
    rintro _ w8 ⟨c8, rfl⟩
    rw [hsv]
    have t8 := t7.below c8
    have b8 := b7.step c8
    refine TW.move rfl rfl rfl ct ?_
    refine TW.extract rfl rfl rfl rfl ct ?_
    refine TW.extract rfl rfl rfl rfl ct ?_
    refine TW.assign rfl rfl rfl ct ?_
    refine TW.assign rfl rfl rfl ct ?_
    refine TW.nil (KW.pick [0, 1, 2, 3, 8, 9, 10, 11, 14, 15] [(0, _, _), (1, _, _), (2, _, _), (3, _, _), (8, _, _), (9, _, _), (10, _, _), (11, _, _), (14, _, _), (15, _, _)] rfl (KW.then_ ?_))
    refine CW.seq (CW.seq (CW.region ?_))
    refine TW.move rfl rfl rfl ct ?_
    refine TW.neq rfl rfl rfl ct rfl ct ?_
    refine TW.move rfl rfl rfl ct ?_
    refine TW.move rfl rfl rfl ct ?_
    refine TW.lenString rfl rfl Tryd.underlying9 rfl id ?_
    refine TW.neq rfl rfl rfl id rfl ct ?_
    refine TW.pickOr rfl rfl rfl ct rfl pOr0 ?_
    refine TW.nil (KW.pick [0, 1, 2, 3, 8, 9, 10, 11, 14, 15, 91] [(0, _, _), (1, _, _), (2, _, _), (3, _, _), (8, _, _), (9, _, _), (10, _, _), (11, _, _), (14, _, _), (15, _, _), (91, _, _)] rfl (KW.then_ ?_))
    refine CW.cond rfl (fun hbad => ?_) (fun hgood => ?_)
    · exfalso; simp [hs] at hbad
    refine CW.skip (KW.then_ (CW.seq (CW.draw mixed (by kernel_rfl) ?_)))
    refine DW.move rfl rfl rfl ct ?_
    refine DW.sliceSH rfl rfl Tryd.underlying9 rfl ct rfl ct (fun _ => by (try dsimp only); omega) ?_
    refine DW.move rfl rfl rfl ct ?_
    refine DW.move rfl rfl rfl ct ?_
    refine DW.sliceSL rfl rfl Tryd.underlying9 rfl ct rfl ct (fun _ => by (try dsimp only); omega) ?_
    refine DW.call (.ex (.tuple #[.string s, .int .i64 0])) trivial rfl rfl en12 rfl ct (DArgs.cons rfl ct (DArgs.cons rfl ct (DArgs.cons rfl ct DArgs.nil))) (fun _ w' hb' => (make_c _ _ _ (t8.below hb')).mono (fun u w'' h => ⟨h.1, h.2.trans (by rw [hmb'])⟩)) ?_
    refine DW.move rfl rfl rfl ct ?_
    refine DW.extract rfl rfl rfl rfl ct ?_
    refine DW.extract rfl rfl rfl rfl ct ?_
    refine DW.assign rfl rfl rfl ct ?_
    refine DW.assign rfl rfl rfl ct ?_
    refine DW.nil (DW.fin [0, 1, 2, 3, 8, 9, 10, 11, 14, 15, 16, 17] [(0, _, _), (1, _, _), (2, _, _), (3, _, _), (8, _, _), (9, _, _), (10, _, _), (11, _, _), (14, _, _), (15, _, _), (16, _, _), (17, _, _)] rfl (fun w9 c9 => KW.then_ ?_))
    refine CW.seq (CW.region ?_)
    refine TW.move rfl rfl rfl ct ?_
    refine TW.move rfl rfl rfl ct ?_
    refine TW.move rfl rfl rfl ct ?_
    refine TW.eql rfl rfl rfl id rfl ct ?_
    refine TW.pickAnd rfl rfl rfl ct rfl pAnd0 ?_
    refine TW.move rfl rfl rfl ct ?_
    refine TW.move rfl rfl rfl ct ?_
    refine TW.move rfl rfl rfl ct ?_
    refine TW.eqlS rfl rfl rfl id rfl id ?_
    refine TW.pickAnd rfl rfl rfl ct rfl pAnd0 ?_
    refine TW.assign rfl rfl rfl ct ?_
    refine TW.nil (KW.pick [0, 1, 2, 3, 8, 9, 10, 11, 14, 15, 16, 17] [(0, _, _), (1, _, _), (2, _, _), (3, _, _), (8, _, _), (9, _, _), (10, _, _), (11, _, _), (14, _, _), (15, _, _), (16, _, _), (17, _, _)] rfl (KW.then_ ?_))
    refine CW.ret ?_
    refine ret1 Tryd.results4 rfl (⟨b8.step c9, by simp⟩)
end Go.Proofs.YthldjchogdefjaaDoor
