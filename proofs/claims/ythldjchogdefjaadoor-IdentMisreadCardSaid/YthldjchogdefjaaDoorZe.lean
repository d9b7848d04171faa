import Derived.Test.YthldjchogdefjaaDoorMis
namespace Go.Proofs.YthldjchogdefjaaDoor
open Go.PF Go.RowKit

set_option maxRecDepth 20000 in
theorem misread_law {w : World} (s : ByteArray) (ht : Tabs w) : Gives Tryd.prog 6 #[.string s] w fun u w' => Below w.heap.size w w' ∧ u = .bool true := by
  refine gives_of (vs := [.string s]) [(0, none, _)] Tryd.func6 rfl Tryd.ntmps6 rfl rfl ?_
  refine CW.seq (CW.region ?_)
  refine TW.assign rfl rfl rfl ct ?_
  refine TW.nil (KW.pick [0, 2] [(0, _, _), (2, _, _)] rfl (KW.then_ ?_))
  refine CW.seq (CW.region ?_)
  refine TW.callF (cap := []) rfl rfl en9 rfl ct Args.nil (fun _ => head_c ht) ?_
  rintro w1 b1
  refine TW.assign rfl rfl rfl ct ?_
  refine TW.nil (KW.pick [0, 2, 3] [(0, _, _), (2, _, _), (3, _, _)] rfl (KW.then_ ?_))
  refine CW.seq (CW.seq (CW.region ?_))
  refine TW.move rfl rfl rfl ct ?_
  refine TW.lenString rfl rfl Tryd.underlying9 rfl ct ?_
  refine TW.gtr rfl rfl rfl ct rfl ct ?_
  refine TW.nil (KW.pick [0, 2, 3, 11] [(0, _, _), (2, _, _), (3, _, _), (11, _, _)] rfl (KW.then_ ?_))
  have t1 := ht.below b1
  refine CW.condP rfl (fun hx => ?_) (fun hy => ?_)
  · refine CW.seq (CW.region ?_)
    refine TW.move rfl rfl rfl ct ?_
    refine TW.assign rfl rfl rfl ct ?_
    refine TW.nil (KW.pick [0, 2, 3] [(0, _, _), (2, _, _), (3, _, _)] rfl (KW.then_ ?_))
    refine CW.ret (KW.thenR ?_)
    refine ret1 Tryd.results6 rfl (⟨b1, rfl⟩)
  refine CW.skip (KW.then_ (CW.seq (CW.region ?_)))
  refine TW.move rfl rfl rfl ct ?_
  refine TW.call0 (cap := []) rfl rfl en19 rfl (Args.cons rfl ct Args.nil) (misread_s s t1) ?_
  rintro vl w2 ⟨c2, s2⟩
  have t2 := t1.below c2
  have b2 := b1.step c2
  obtain ⟨A, cap, rfl, hcap⟩ := ss_form s2
  have hlen90 := mis_len s
  refine TW.assign rfl rfl rfl ct ?_
  refine TW.nil (KW.pick [0, 2, 3, 4] [(0, _, _), (2, _, _), (3, _, _), (4, _, _)] rfl (KW.then_ ?_))
  refine CW.seq (CW.seq (CW.region ?_))
  refine TW.move rfl rfl rfl ct ?_
  refine TW.callF (cap := []) rfl rfl en22 rfl ct (Args.cons rfl ct Args.nil) (fun _ => rShape_c _) ?_
  rintro w3 c3
  refine TW.not rfl rfl rfl ct ?_
  refine TW.nil (KW.pick [0, 2, 3, 4, 17] [(0, _, _), (2, _, _), (3, _, _), (4, _, _), (17, _, _)] rfl (KW.then_ ?_))
  have t3 := t2.below c3
  have b3 := b2.step c3
  have s3 := ss_step s2 c3
  refine CW.cond rfl (fun hno => ?_) (fun hyes => ?_)
  · have hm : mis s = [] := by
      unfold mis; rw [if_neg]
      intro h; rw [dec_pos h] at hno; cases hno
    refine CW.seq (CW.region ?_)
    refine TW.move rfl rfl rfl ct ?_
    refine TW.move rfl rfl rfl ct ?_
    refine TW.move rfl rfl rfl ct ?_
    refine TW.lenSlice rfl rfl Tryd.underlying30 rfl id ?_
    refine TW.eql rfl rfl rfl id rfl ct ?_
    refine TW.pickAnd rfl rfl rfl ct rfl pAnd0 ?_
    refine TW.assign rfl rfl rfl ct ?_
    refine TW.nil (KW.pick [0, 2, 3, 4] [(0, _, _), (2, _, _), (3, _, _), (4, _, _)] rfl (KW.then_ ?_))
    refine CW.ret (KW.thenR ?_)
    refine ret1 Tryd.results6 rfl (⟨b3, by simp [hm]⟩)
  have hsh : Shape s := dec_iff.1 (by simpa using hyes)
  have hs := hsh.size
  refine CW.skip (KW.then_ (CW.seq (CW.seq (CW.region ?_))))
  refine TW.assign rfl rfl rfl ct ?_
  refine TW.nil (KW.pick [0, 2, 3, 4, 5] [(0, _, _), (2, _, _), (3, _, _), (4, _, _), (5, _, _)] rfl (KW.then_ ?_))
  refine CW.block ?_
  refine CW.loopS (fun k : Nat => [(0, none, .string s), (3, none, .bool true), (4, none, .slice A (mis s).length cap), (5, none, .int .i64 (k : Int))])
    (fun k W => k ≤ (mis s).length ∧ Below w3.heap.size w3 W) (fun k => (mis s).length - k) 0 [0, 3, 4, 5] ⟨by omega, Below.refl _ _⟩ rfl ?_
  rintro k W ⟨hk, hbW⟩
  have sW := ss_step s3 hbW
  have tW := t3.below hbW
  refine CW.seq (CW.seq (CW.region ?_))
  refine TW.move rfl rfl rfl ct ?_
  refine TW.move rfl rfl rfl ct ?_
  refine TW.lenSlice rfl rfl Tryd.underlying30 rfl ct ?_
  refine TW.lss rfl rfl rfl ct rfl ct ?_
  refine TW.nil (KW.pick [0, 3, 4, 5, 27] [(0, _, _), (3, _, _), (4, _, _), (5, _, _), (27, _, _)] rfl (KW.then_ ?_))
  refine CW.condP rfl (fun hlt => ?_) (fun hge => ?_)
  · have hkl : k < (mis s).length := by omega
    obtain ⟨x, hx⟩ : ∃ x, (mis s)[k]? = some x := ⟨(mis s)[k], List.getElem?_eq_getElem hkl⟩
    obtain ⟨ad, rfl⟩ := ss_addr sW (by omega)
    have hxm := List.mem_of_getElem? hx
    obtain ⟨_, hxc, hxv⟩ := mem_mis.1 hxm
    obtain ⟨i, d, hi, hd, hne, hxe⟩ := mem_cands.1 hxc
    have hxs : x.size = 13 := mis_size hxm
    obtain ⟨q1, q2⟩ := nbr_letters hs hi hd
    rw [← hxe] at q1 q2
    have q2l : x.extract 11 13 = s.extract 11 13 := by rw [hxs, hs] at q2; exact q2
    have q1' : x.extract 0 (Int.toNat 2) = s.extract 0 (Int.toNat 2) := q1
    have q2' : x.extract (Int.toNat 11) x.size = s.extract (Int.toNat 11) s.size := q2
    obtain ⟨y, hy'⟩ : ∃ y, 0 < k → (mis s)[k - 1]? = some y ∧ ltB y x = true := by
      by_cases h0 : 0 < k
      · obtain ⟨y, hy⟩ : ∃ y, (mis s)[k - 1]? = some y := ⟨(mis s)[k - 1]'(by omega), List.getElem?_eq_getElem (by omega)⟩
        exact ⟨y, fun _ => ⟨hy, mis_lt hsh hy (by rw [show k - 1 + 1 = k by omega]; exact hx)⟩⟩
      · exact ⟨x, fun h => absurd h h0⟩
    have hcy : 0 < k → W.cell? (ad.add (((k : Int) - 1).toNat * 1)) = some (.string y) := by
      intro h0
      have := ss_get sW (hy' h0).1 rfl
      rw [Int.toNat_natCast] at this
      rw [show ((k : Int) - 1).toNat = k - 1 by omega]
      exact this
    refine CW.skip (KW.then_ (CW.seq (CW.block (CW.seq (CW.seq (CW.draw mixed (by kernel_rfl) ?_))))))
    refine DW.move rfl rfl rfl ct ?_
    refine DW.move rfl rfl rfl ct ?_
    refine DW.indexAddr rfl rfl Tryd.underlying30 sz9 rfl ct rfl ct (fun _ => by (try dsimp only); omega) ?_
    refine DW.load rfl rfl one9 rfl ct (fun _ => ss_get sW hx rfl) ?_
    refine DW.call (.ex (.bool true)) trivial rfl rfl en16 rfl ct (DArgs.cons rfl ct DArgs.nil) (fun _ w' hb' => valid_t hxv (tW.below hb')) ?_
    refine DW.not rfl rfl rfl ct ?_
    refine DW.move rfl rfl rfl ct ?_
    refine DW.move rfl rfl rfl ct ?_
    refine DW.gtr rfl rfl rfl id rfl ct ?_
    refine DW.move rfl rfl rfl id ?_
    refine DW.move rfl rfl rfl ct ?_
    refine DW.move rfl rfl rfl ct ?_
    refine DW.sub rfl rfl rfl id rfl ct (fun h => by (try dsimp only); first | omega | (simp [Cnd] at h; omega)) ?_
    refine DW.indexAddr rfl rfl Tryd.underlying30 sz9 rfl id rfl id (fun h => by (try dsimp only); first | omega | (simp [Cnd] at h; omega)) ?_
    refine DW.load rfl rfl one9 rfl id (fun h => hcy (by simp [Cnd] at h; omega)) ?_
    refine DW.move rfl rfl rfl ct ?_
    refine DW.move rfl rfl rfl ct ?_
    refine DW.indexAddr rfl rfl Tryd.underlying30 sz9 rfl id rfl id (fun h => by (try dsimp only); first | omega | (simp [Cnd] at h; omega)) ?_
    refine DW.load rfl rfl one9 rfl id (fun _ => ss_get sW hx rfl) ?_
    refine DW.geqS rfl rfl rfl id rfl id ?_
    refine DW.pickAnd rfl rfl rfl id rfl pAnd1 ?_
    refine DW.pickOr rfl rfl rfl ct rfl pOr0 ?_
    refine DW.move rfl rfl rfl ct ?_
    refine DW.move rfl rfl rfl ct ?_
    refine DW.move rfl rfl rfl ct ?_
    refine DW.indexAddr rfl rfl Tryd.underlying30 sz9 rfl id rfl id (fun h => by (try dsimp only); first | omega | (simp [Cnd] at h; omega)) ?_
    refine DW.load rfl rfl one9 rfl id (fun _ => ss_get sW hx rfl) ?_
    refine DW.lenString rfl rfl Tryd.underlying9 rfl id ?_
    refine DW.neq rfl rfl rfl id rfl ct ?_
    refine DW.pickOr rfl rfl rfl ct rfl pOr0 ?_
    refine DW.move rfl rfl rfl ct ?_
    refine DW.move rfl rfl rfl ct ?_
    refine DW.move rfl rfl rfl ct ?_
    refine DW.indexAddr rfl rfl Tryd.underlying30 sz9 rfl id rfl id (fun h => by (try dsimp only); first | omega | (simp [Cnd] at h; omega)) ?_
    refine DW.load rfl rfl one9 rfl id (fun _ => ss_get sW hx rfl) ?_
    refine DW.sliceSH rfl rfl Tryd.underlying9 rfl id rfl ct (fun h => by (try dsimp only); first | omega | (simp [Cnd] at h; omega)) ?_
    refine DW.move rfl rfl rfl ct ?_
    refine DW.sliceSH rfl rfl Tryd.underlying9 rfl id rfl ct (fun h => by (try dsimp only); first | omega | (simp [Cnd] at h; omega)) ?_
    refine DW.neqS rfl rfl rfl id rfl id ?_
    refine DW.pickOr rfl rfl rfl ct rfl pOr0 ?_
    refine DW.move rfl rfl rfl ct ?_
    refine DW.move rfl rfl rfl ct ?_
    refine DW.move rfl rfl rfl ct ?_
    refine DW.indexAddr rfl rfl Tryd.underlying30 sz9 rfl id rfl id (fun h => by (try dsimp only); first | omega | (simp [Cnd] at h; omega)) ?_
    refine DW.load rfl rfl one9 rfl id (fun _ => ss_get sW hx rfl) ?_
    refine DW.sliceSL rfl rfl Tryd.underlying9 rfl id rfl ct (fun h => by (try dsimp only); first | omega | (simp [Cnd] at h; omega)) ?_
    refine DW.move rfl rfl rfl ct ?_
    refine DW.sliceSL rfl rfl Tryd.underlying9 rfl id rfl ct (fun h => by (try dsimp only); first | omega | (simp [Cnd] at h; omega)) ?_
    refine DW.neqS rfl rfl rfl id rfl id ?_
    refine DW.pickOr rfl rfl rfl ct rfl pOr0 ?_
    refine DW.nil (DW.fin [0, 3, 4, 5, 79] [(0, _, _), (3, _, _), (4, _, _), (5, _, _), (79, _, _)] rfl (fun w4 c4 => KW.then_ ?_))
    have b4 := hbW.step c4
    have t4 := tW.below c4
    have s4 := ss_step sW c4
    refine CW.cond rfl (fun hbad => ?_) (fun hgood => ?_)
    · exfalso
      by_cases h0 : 0 < k
      · have hlt := (hy' h0).2
        unfold ltB at hlt
        simp [hlt, hxs, hs, q1, q2l] at hbad
      · simp [hxs, hs, q1, q2l] at hbad
        omega
    clear hgood
    refine CW.skip (KW.then_ (CW.seq (CW.region ?_)))
    refine TW.assign rfl rfl rfl ct ?_
    refine TW.nil (KW.pick [0, 3, 4, 5, 6] [(0, _, _), (3, _, _), (4, _, _), (5, _, _), (6, _, _)] rfl (KW.then_ ?_))
    refine CW.seq (CW.seq (CW.region ?_))
    refine TW.assign rfl rfl rfl ct ?_
    refine TW.nil (KW.pick [0, 3, 4, 5, 6, 7] [(0, _, _), (3, _, _), (4, _, _), (5, _, _), (6, _, _), (7, _, _)] rfl (KW.then_ ?_))
    refine CW.block ?_
    refine CW.loopS (fun j : Nat => [(0, none, .string s), (3, none, .bool true), (4, none, .slice (some ad) (mis s).length cap), (5, none, .int .i64 (k : Int)), (6, none, .int .i64 (diffs s x j : Int)), (7, none, .int .i64 (j : Int))])
      (fun j W' => j ≤ 13 ∧ Below w4.heap.size w4 W') (fun j => 13 - j) 0 [0, 3, 4, 5, 6, 7] ⟨by omega, Below.refl _ _⟩ rfl ?_
    rintro j W5 ⟨hj, hb5⟩
    have s5 := ss_step s4 hb5
    have hdl := diffs_le s x j
    refine CW.seq (CW.seq (CW.region ?_))
    refine TW.move rfl rfl rfl ct ?_
    refine TW.lss rfl rfl rfl ct rfl ct ?_
    refine TW.nil (KW.pick [0, 3, 4, 5, 6, 7, 81] [(0, _, _), (3, _, _), (4, _, _), (5, _, _), (6, _, _), (7, _, _), (81, _, _)] rfl (KW.then_ ?_))
    refine CW.condP rfl (fun hlt5 => ?_) (fun hge5 => ?_)
    · have hj13 : j < 13 := by omega
      have f1 : (((x.data.getD (j : Int).toNat 0).toNat : Int)) = bt x j := rfl
      have f2 : (((s.data.getD (j : Int).toNat 0).toNat : Int)) = bt s j := rfl
      refine CW.skip (KW.then_ (CW.seq (CW.block (CW.seq (CW.draw mixed (by kernel_rfl) ?_)))))
      refine DW.move rfl rfl rfl ct ?_
      refine DW.move rfl rfl rfl ct ?_
      refine DW.indexAddr rfl rfl Tryd.underlying30 sz9 rfl ct rfl ct (fun _ => by (try dsimp only); omega) ?_
      refine DW.load rfl rfl one9 rfl ct (fun _ => ss_get s5 hx rfl) ?_
      refine DW.move rfl rfl rfl ct ?_
      refine DW.index rfl rfl Tryd.underlying9 rfl ct rfl ct (fun _ => by (try dsimp only); omega) ?_
      refine DW.move rfl rfl rfl ct ?_
      refine DW.move rfl rfl rfl ct ?_
      refine DW.index rfl rfl Tryd.underlying9 rfl ct rfl ct (fun _ => by (try dsimp only); omega) ?_
      refine DW.neq rfl rfl rfl ct rfl ct ?_
      refine DW.nil (DW.fin [0, 3, 4, 5, 6, 7, 93] [(0, _, _), (3, _, _), (4, _, _), (5, _, _), (6, _, _), (7, _, _), (93, _, _)] rfl (fun w6 c6 => KW.then_ ?_))
      rw [f1, f2]
      refine CW.condP rfl (fun hdif => ?_) (fun hsame => ?_)
      · refine CW.region ?_
        refine TW.move rfl rfl rfl ct ?_
        refine TW.add rfl rfl rfl ct rfl ct (fun _ => by (try dsimp only); omega) ?_
        refine TW.assign rfl rfl rfl ct ?_
        refine TW.nil (KW.pick [0, 3, 4, 5, 6, 7] [(0, _, _), (3, _, _), (4, _, _), (5, _, _), (6, _, _), (7, _, _)] rfl (KW.blockN (KW.then_ ?_)))
        refine CW.region ?_
        refine TW.move rfl rfl rfl ct ?_
        refine TW.add rfl rfl rfl ct rfl ct (fun _ => by (try dsimp only); omega) ?_
        refine TW.assign rfl rfl rfl ct ?_
        refine TW.nil (KW.pick [0, 3, 4, 5, 6, 7] [(0, _, _), (3, _, _), (4, _, _), (5, _, _), (6, _, _), (7, _, _)] rfl ?_)
        refine KW.round (j + 1) [0, 3, 4, 5, 6, 7] ?_ ⟨by omega, hb5.step c6⟩ (by omega)
        rw [show ((diffs s x j : Int) + 1) = ((diffs s x (j + 1) : Nat) : Int) by rw [diffs, if_pos hdif]; omega]
        rfl
      · refine CW.skip (KW.blockN (KW.then_ (CW.region ?_)))
        refine TW.move rfl rfl rfl ct ?_
        refine TW.add rfl rfl rfl ct rfl ct (fun _ => by (try dsimp only); omega) ?_
        refine TW.assign rfl rfl rfl ct ?_
        refine TW.nil (KW.pick [0, 3, 4, 5, 6, 7] [(0, _, _), (3, _, _), (4, _, _), (5, _, _), (6, _, _), (7, _, _)] rfl ?_)
        refine KW.round (j + 1) [0, 3, 4, 5, 6, 7] ?_ ⟨by omega, hb5.step c6⟩ (by omega)
        rw [show (diffs s x j : Int) = ((diffs s x (j + 1) : Nat) : Int) by rw [diffs, if_neg hsame]; rfl]
        rfl
    · obtain rfl : j = 13 := by omega
      have hdf : diffs s x 13 = 1 := by
        rw [hxe, nbr_diffs hs (by omega) (by omega) (by omega) 13 (by omega), if_pos (by omega)]
      have t5 := t4.below hb5
      rw [hdf]
      by_cases hvs : Val s
      · have hback := mis_back hvs hxm
        refine CW.exit (KW.thenX (KW.thenX (KW.blockX (KW.then_ (CW.seq (CW.region ?_))))))
        refine TW.move rfl rfl rfl ct ?_
        refine TW.neq rfl rfl rfl ct rfl ct ?_
        refine TW.move rfl rfl rfl ct ?_
        refine TW.known rfl (by simp [Cnd]) ?_
        refine TW.move rfl rfl rfl ct ?_
        refine TW.known rfl (by simp [Cnd]) ?_
        refine TW.callF (cap := []) rfl rfl en16 rfl ct (Args.cons rfl ct Args.nil) (fun _ => valid_t hvs t5) ?_
        rintro w7 c7
        refine TW.known rfl (by simp [Cnd]) ?_
        refine TW.move rfl rfl rfl ct ?_
        refine TW.known rfl (by simp [Cnd]) ?_
        refine TW.move rfl rfl rfl ct ?_
        refine TW.known rfl (by simp [Cnd]) ?_
        refine TW.move rfl rfl rfl ct ?_
        refine TW.known rfl (by simp [Cnd]) ?_
        refine TW.indexAddr rfl rfl Tryd.underlying30 sz9 rfl ct rfl ct (fun _ => by (try dsimp only); omega) ?_
        refine TW.known rfl (by simp [Cnd]) ?_
        have t7 := t5.below c7
        have s7 := ss_step s5 c7
        refine TW.load rfl rfl one9 rfl ct (fun _ => ss_get s7 hx rfl) ?_
        refine TW.known rfl (by simp [Cnd]) ?_
        refine TW.call0 (cap := []) rfl rfl en19 rfl (Args.cons rfl ct Args.nil) (misread_s x t7) ?_
        rintro v8 w8 ⟨c8, s8⟩
        refine TW.known rfl (by simp [Cnd]) ?_
        refine TW.move rfl rfl rfl ct ?_
        refine TW.known rfl (by simp [Cnd]) ?_
        refine TW.callF (cap := []) rfl rfl en23 rfl ct (Args.cons rfl ct (Args.cons rfl ct Args.nil)) (fun _ => in_c s s8) ?_
        rintro w9 c9
        refine TW.known rfl (by simp [Cnd]) ?_
        refine TW.not rfl rfl rfl ct ?_
        refine TW.known rfl (by simp [Cnd]) ?_
        refine TW.pickAnd rfl rfl rfl ct rfl pT ?_
        refine TW.pickOr rfl rfl rfl ct rfl pT ?_
        refine TW.nil (KW.pick [0, 3, 4, 5, 6, 7, 111] [(0, _, _), (3, _, _), (4, _, _), (5, _, _), (6, _, _), (7, _, _), (111, _, _)] rfl (KW.then_ ?_))
        refine CW.cond rfl (fun hbad => ?_) (fun hgood => ?_)
        · exfalso; rw [dec_pos hback] at hbad; simp at hbad
        refine CW.skip (KW.blockN (KW.then_ (CW.region ?_)))
        refine TW.move rfl rfl rfl ct ?_
        refine TW.add rfl rfl rfl ct rfl ct (fun _ => by (try dsimp only); omega) ?_
        refine TW.assign rfl rfl rfl ct ?_
        refine TW.nil (KW.pick [0, 3, 4, 5, 6, 7] [(0, _, _), (3, _, _), (4, _, _), (5, _, _), (6, _, _), (7, _, _)] rfl ?_)
        refine KW.round (k + 1) [0, 3, 4, 5] rfl ⟨by omega, (((b4.step hb5).step c7).step c8).step c9⟩ (by omega)
      · have hvs' := hvs
        refine CW.exit (KW.thenX (KW.thenX (KW.blockX (KW.then_ (CW.seq (CW.region ?_))))))
        refine TW.move rfl rfl rfl ct ?_
        refine TW.neq rfl rfl rfl ct rfl ct ?_
        refine TW.move rfl rfl rfl ct ?_
        refine TW.known rfl (by simp [Cnd]) ?_
        refine TW.move rfl rfl rfl ct ?_
        refine TW.known rfl (by simp [Cnd]) ?_
        refine TW.callF (cap := []) rfl rfl en16 rfl ct (Args.cons rfl ct Args.nil) (fun _ => valid_f hvs t5) ?_
        rintro w7 c7
        refine TW.known rfl (by simp [Cnd]) ?_
        refine TW.move rfl rfl rfl ct ?_
        refine TW.dead (.bool false) rfl (by simp [Cnd]) rfl ?_
        refine TW.dead (.bool false) rfl (by simp [Cnd]) rfl ?_
        refine TW.dead (.bool false) rfl (by simp [Cnd]) rfl ?_
        refine TW.dead (.bool false) rfl (by simp [Cnd]) rfl ?_
        refine TW.dead (.bool false) rfl (by simp [Cnd]) rfl ?_
        refine TW.dead (.bool false) rfl (by simp [Cnd]) rfl ?_
        refine TW.dead (.bool false) rfl (by simp [Cnd]) rfl ?_
        refine TW.dead (.bool false) rfl (by simp [Cnd]) rfl ?_
        refine TW.known rfl (by simp [Cnd]) ?_
        refine TW.pickAnd rfl rfl rfl ct rfl pAnd0 ?_
        refine TW.pickOr rfl rfl rfl ct rfl pT ?_
        refine TW.nil (KW.pick [0, 3, 4, 5, 6, 7, 111] [(0, _, _), (3, _, _), (4, _, _), (5, _, _), (6, _, _), (7, _, _), (111, _, _)] rfl (KW.then_ ?_))
        refine CW.cond rfl (fun hbad => ?_) (fun hgood => ?_)
        · exfalso; simp at hbad
        refine CW.skip (KW.blockN (KW.then_ (CW.region ?_)))
        refine TW.move rfl rfl rfl ct ?_
        refine TW.add rfl rfl rfl ct rfl ct (fun _ => by (try dsimp only); omega) ?_
        refine TW.assign rfl rfl rfl ct ?_
        refine TW.nil (KW.pick [0, 3, 4, 5, 6, 7] [(0, _, _), (3, _, _), (4, _, _), (5, _, _), (6, _, _), (7, _, _)] rfl ?_)
        refine KW.round (k + 1) [0, 3, 4, 5] rfl ⟨by omega, (b4.step hb5).step c7⟩ (by omega)
  · refine CW.exit (KW.thenX (KW.thenX (KW.blockX (KW.then_ (CW.seq (CW.region ?_))))))
    refine TW.move rfl rfl rfl ct ?_
    refine TW.assign rfl rfl rfl ct ?_
    refine TW.nil (KW.pick [0, 2, 3, 4, 5] [(0, _, _), (2, _, _), (3, _, _), (4, _, _), (5, _, _)] rfl (KW.then_ ?_))
    refine CW.ret ?_
    refine ret1 Tryd.results6 rfl (⟨b3.step hbW, rfl⟩)
end Go.Proofs.YthldjchogdefjaaDoor
