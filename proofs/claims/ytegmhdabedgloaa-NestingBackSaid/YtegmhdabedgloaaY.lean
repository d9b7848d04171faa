import Derived.Test.YtegmhdabedgloaaX
namespace Go.Proofs.Ytegmhdabedgloaa
open Go.PF Go.RowKit

theorem i0 : I64 0 := i64_small (by decide) (by decide)
theorem i1 : I64 1 := i64_small (by decide) (by decide)
theorem i2 : I64 2 := i64_small (by decide) (by decide)
theorem i3 : I64 3 := i64_small (by decide) (by decide)
theorem i01 : ∀ x ∈ [(0 : Int), 1], I64 x := by
  intro x hx
  simp at hx
  rcases hx with rfl | rfl
  · exact i0
  · exact i1
theorem sb_form {w : World} {v : Value} {l : List Box} (h : SB w v l) : ∃ A cap, v = .slice A l.length cap := by
  obtain ⟨A, cap, e, _⟩ := h
  exact ⟨A, cap, e⟩
theorem sbF {w : World} : ∀ k, k < w.heap.size → k < w.heap.size := fun _ h => h

set_option maxRecDepth 20000 in
theorem head_c {w : World} : Gives Try.prog 10 #[] w fun u w' => Below w.heap.size w w' ∧ u = .bool true := by
  refine gives_of (vs := []) [] Try.func10 rfl Try.ntmps10 rfl rfl ?_
  refine CW.seq (CW.region ?_)
  refine TW.assign rfl rfl rfl ct ?_
  refine TW.nil (KW.pick [0] [(0, _, _)] rfl (KW.then_ ?_))
  refine CW.seq (CW.region ?_)
  refine TW.call0 (cap := []) rfl rfl en33 rfl Args.nil (example_c) ?_
  rintro vl w1 ⟨hb1, hl1⟩
  obtain ⟨A1, c1, rfl⟩ := sb_form hl1
  refine TW.assign rfl rfl rfl ct ?_
  refine TW.nil (KW.pick [0, 1] [(0, _, _), (1, _, _)] rfl (KW.then_ ?_))
  refine CW.seq (CW.region ?_)
  refine TW.move rfl rfl rfl ct ?_
  refine TW.call0 (cap := []) rfl rfl en18 rfl (Args.cons rfl ct (Args.cons rfl ct (Args.cons rfl ct Args.nil))) ((put_c 0 1 sbF i0 i1 hl1).mono (res_of p1)) ?_
  rintro _ w2 ⟨va, rfl, ha2, hb2⟩
  obtain ⟨A2, c2, rfl⟩ := sb_form ha2
  refine TW.move rfl rfl rfl ct ?_
  refine TW.extract rfl rfl rfl rfl ct ?_
  refine TW.extract rfl rfl rfl rfl ct ?_
  refine TW.assign rfl rfl rfl ct ?_
  refine TW.assign rfl rfl rfl ct ?_
  refine TW.nil (KW.pick [0, 1, 2, 3] [(0, _, _), (1, _, _), (2, _, _), (3, _, _)] rfl (KW.then_ ?_))
  refine CW.seq (CW.region ?_)
  refine TW.move rfl rfl rfl ct ?_
  refine TW.call0 (cap := []) rfl rfl en18 rfl (Args.cons rfl ct (Args.cons rfl ct (Args.cons rfl ct Args.nil))) ((put_c 1 2 sbF i1 i2 ha2).mono (res_of p2)) ?_
  rintro _ w3 ⟨vb, rfl, hv3, hb3⟩
  obtain ⟨A3, c3, rfl⟩ := sb_form hv3
  have hl3 := sb_step (sb_step hl1 hb2) hb3
  have ha3 := sb_step ha2 hb3
  refine TW.move rfl rfl rfl ct ?_
  refine TW.extract rfl rfl rfl rfl ct ?_
  refine TW.extract rfl rfl rfl rfl ct ?_
  refine TW.assign rfl rfl rfl ct ?_
  refine TW.assign rfl rfl rfl ct ?_
  refine TW.nil (KW.pick [0, 1, 2, 3, 4, 5] [(0, _, _), (1, _, _), (2, _, _), (3, _, _), (4, _, _), (5, _, _)] rfl (KW.then_ ?_))
  refine CW.seq (CW.seq (CW.region ?_))
  refine TW.move rfl rfl rfl ct ?_
  refine TW.neq rfl rfl rfl ct rfl ct ?_
  refine TW.move rfl rfl rfl ct ?_
  refine TW.known rfl rfl ?_
  refine TW.move rfl rfl rfl ct ?_
  refine TW.known rfl rfl ?_
  refine TW.neq rfl rfl rfl ct rfl ct ?_
  refine TW.pickOr rfl rfl rfl ct rfl pT ?_
  refine TW.move rfl rfl rfl ct ?_
  refine TW.known rfl rfl ?_
  refine TW.move rfl rfl rfl ct ?_
  refine TW.known rfl rfl ?_
  refine TW.lenSlice rfl rfl Try.underlying22 rfl ct ?_
  refine TW.known rfl rfl ?_
  refine TW.neq rfl rfl rfl ct rfl ct ?_
  refine TW.pickOr rfl rfl rfl ct rfl pT ?_
  refine TW.move rfl rfl rfl ct ?_
  refine TW.known rfl rfl ?_
  refine TW.move rfl rfl rfl ct ?_
  refine TW.known rfl rfl ?_
  refine TW.lenSlice rfl rfl Try.underlying22 rfl ct ?_
  refine TW.known rfl rfl ?_
  refine TW.neq rfl rfl rfl ct rfl ct ?_
  refine TW.pickOr rfl rfl rfl ct rfl pT ?_
  refine TW.nil (KW.pick [0, 1, 2, 3, 4, 5, 46] [(0, _, _), (1, _, _), (2, _, _), (3, _, _), (4, _, _), (5, _, _), (46, _, _)] rfl (KW.then_ ?_))
  refine CW.cond rfl (fun hx => ?_) (fun hy => ?_)
  · exact absurd hx (by decide)
  refine CW.skip (KW.then_ (CW.seq (CW.region ?_)))
  refine TW.move rfl rfl rfl ct ?_
  refine TW.call0 (cap := []) rfl rfl en23 rfl (Args.cons rfl ct (Args.cons rfl ct Args.nil)) ((close_c 2 sbF i2 hv3).mono (res_of p3)) ?_
  rintro _ w4 ⟨vc, rfl, hc4, hb4⟩
  obtain ⟨A4, c4, rfl⟩ := sb_form hc4
  refine TW.move rfl rfl rfl ct ?_
  refine TW.extract rfl rfl rfl rfl ct ?_
  refine TW.extract rfl rfl rfl rfl ct ?_
  refine TW.assign rfl rfl rfl ct ?_
  refine TW.assign rfl rfl rfl ct ?_
  refine TW.nil (KW.pick [0, 1, 2, 3, 4, 5, 6, 7] [(0, _, _), (1, _, _), (2, _, _), (3, _, _), (4, _, _), (5, _, _), (6, _, _), (7, _, _)] rfl (KW.then_ ?_))
  refine CW.seq (CW.region ?_)
  refine TW.move rfl rfl rfl ct ?_
  refine TW.call0 (cap := []) rfl rfl en21 rfl (Args.cons rfl ct (Args.cons rfl ct Args.nil)) ((take_c 0 sbF i0 hc4).mono (res_of p4)) ?_
  rintro _ w5 ⟨_, rfl, _, hb5⟩
  have hb35 := hb4.step hb5
  refine TW.move rfl rfl rfl ct ?_
  refine TW.extract rfl rfl rfl rfl ct ?_
  refine TW.extract rfl rfl rfl rfl ct ?_
  refine TW.assign rfl rfl rfl ct ?_
  refine TW.assign rfl rfl rfl ct ?_
  refine TW.nil (KW.pick [0, 1, 2, 3, 4, 5, 6, 7, 9] [(0, _, _), (1, _, _), (2, _, _), (3, _, _), (4, _, _), (5, _, _), (6, _, _), (7, _, _), (9, _, _)] rfl (KW.then_ ?_))
  refine CW.seq (CW.region ?_)
  refine TW.move rfl rfl rfl ct ?_
  refine TW.call0 (cap := []) rfl rfl en18 rfl (Args.cons rfl ct (Args.cons rfl ct (Args.cons rfl ct Args.nil))) ((put_c 2 1 sbF i2 i1 (sb_step hl3 hb35)).mono (res_of p5)) ?_
  rintro _ w6 ⟨_, rfl, _, hb6⟩
  have hb36 := hb35.step hb6
  refine TW.move rfl rfl rfl ct ?_
  refine TW.extract rfl rfl rfl rfl ct ?_
  refine TW.extract rfl rfl rfl rfl ct ?_
  refine TW.assign rfl rfl rfl ct ?_
  refine TW.assign rfl rfl rfl ct ?_
  refine TW.nil (KW.pick [0, 1, 2, 3, 4, 5, 6, 7, 9, 11] [(0, _, _), (1, _, _), (2, _, _), (3, _, _), (4, _, _), (5, _, _), (6, _, _), (7, _, _), (9, _, _), (11, _, _)] rfl (KW.then_ ?_))
  refine CW.seq (CW.region ?_)
  refine TW.move rfl rfl rfl ct ?_
  refine TW.call0 (cap := []) rfl rfl en15 rfl (Args.cons rfl ct (Args.cons rfl ct (Args.cons rfl ct Args.nil))) ((move_c 0 1 sbF i0 (sb_step ha3 hb36)).mono (res_of p6)) ?_
  rintro _ w7 ⟨_, rfl, _, hb7⟩
  have hb37 := hb36.step hb7
  refine TW.move rfl rfl rfl ct ?_
  refine TW.extract rfl rfl rfl rfl ct ?_
  refine TW.extract rfl rfl rfl rfl ct ?_
  refine TW.assign rfl rfl rfl ct ?_
  refine TW.assign rfl rfl rfl ct ?_
  refine TW.nil (KW.pick [0, 1, 2, 3, 4, 5, 6, 7, 9, 11, 13] [(0, _, _), (1, _, _), (2, _, _), (3, _, _), (4, _, _), (5, _, _), (6, _, _), (7, _, _), (9, _, _), (11, _, _), (13, _, _)] rfl (KW.then_ ?_))
  refine CW.seq (CW.region ?_)
  refine TW.move rfl rfl rfl ct ?_
  have hc7 := sb_step (sb_step (sb_step hc4 hb5) hb6) hb7
  refine TW.call0 (cap := []) rfl rfl en15 rfl (Args.cons rfl ct (Args.cons rfl ct (Args.cons rfl ct Args.nil))) ((move_c 2 5 sbF i2 hc7).mono (res_of p7)) ?_
  rintro _ w8 ⟨vd, rfl, hd8, hb8⟩
  obtain ⟨A8, c8, rfl⟩ := sb_form hd8
  obtain ⟨ad, hA8, _⟩ := box_at hd8 (i := 0) (b := exBox 105 0 1 5 false) rfl
  subst hA8
  have hb38 := hb37.step hb8
  refine TW.move rfl rfl rfl ct ?_
  refine TW.extract rfl rfl rfl rfl ct ?_
  refine TW.extract rfl rfl rfl rfl ct ?_
  refine TW.assign rfl rfl rfl ct ?_
  refine TW.assign rfl rfl rfl ct ?_
  refine TW.nil (KW.pick [0, 1, 2, 3, 4, 5, 6, 7, 9, 11, 13, 14, 15] [(0, _, _), (1, _, _), (2, _, _), (3, _, _), (4, _, _), (5, _, _), (6, _, _), (7, _, _), (9, _, _), (11, _, _), (13, _, _), (14, _, _), (15, _, _)] rfl (KW.then_ ?_))
  refine CW.seq (CW.region ?_)
  refine TW.move rfl rfl rfl ct ?_
  refine TW.call0 (cap := []) rfl rfl en18 rfl (Args.cons rfl ct (Args.cons rfl ct (Args.cons rfl ct Args.nil))) ((put_c 0 3 sbF i0 i3 (sb_step hl3 hb38)).mono (res_of p8)) ?_
  rintro _ w9 ⟨_, rfl, _, hb9⟩
  have hb39 := hb38.step hb9
  refine TW.move rfl rfl rfl ct ?_
  refine TW.extract rfl rfl rfl rfl ct ?_
  refine TW.extract rfl rfl rfl rfl ct ?_
  refine TW.assign rfl rfl rfl ct ?_
  refine TW.assign rfl rfl rfl ct ?_
  refine TW.nil (KW.pick [0, 1, 2, 3, 4, 5, 6, 7, 9, 11, 13, 14, 15, 17] [(0, _, _), (1, _, _), (2, _, _), (3, _, _), (4, _, _), (5, _, _), (6, _, _), (7, _, _), (9, _, _), (11, _, _), (13, _, _), (14, _, _), (15, _, _), (17, _, _)] rfl (KW.then_ ?_))
  refine CW.seq (CW.region ?_)
  refine TW.move rfl rfl rfl ct ?_
  refine TW.call0 (cap := []) rfl rfl en18 rfl (Args.cons rfl ct (Args.cons rfl ct (Args.cons rfl ct Args.nil))) ((put_c 0 2 sbF i0 i2 (sb_step hv3 hb39)).mono (res_of p9)) ?_
  rintro _ w10 ⟨_, rfl, _, hb10⟩
  have hb310 := hb39.step hb10
  have hd10 := sb_step (sb_step hd8 hb9) hb10
  refine TW.move rfl rfl rfl ct ?_
  refine TW.extract rfl rfl rfl rfl ct ?_
  refine TW.extract rfl rfl rfl rfl ct ?_
  refine TW.assign rfl rfl rfl ct ?_
  refine TW.assign rfl rfl rfl ct ?_
  refine TW.nil (KW.pick [0, 1, 2, 3, 4, 5, 6, 7, 9, 11, 13, 14, 15, 17, 19] [(0, _, _), (1, _, _), (2, _, _), (3, _, _), (4, _, _), (5, _, _), (6, _, _), (7, _, _), (9, _, _), (11, _, _), (13, _, _), (14, _, _), (15, _, _), (17, _, _), (19, _, _)] rfl (KW.then_ ?_))
  refine CW.seq (CW.seq (CW.region ?_))
  refine TW.move rfl rfl rfl ct ?_
  refine TW.neq rfl rfl rfl ct rfl ct ?_
  refine TW.move rfl rfl rfl ct ?_
  refine TW.known rfl rfl ?_
  refine TW.move rfl rfl rfl ct ?_
  refine TW.known rfl rfl ?_
  refine TW.neq rfl rfl rfl ct rfl ct ?_
  refine TW.pickOr rfl rfl rfl ct rfl pT ?_
  refine TW.move rfl rfl rfl ct ?_
  refine TW.known rfl rfl ?_
  refine TW.move rfl rfl rfl ct ?_
  refine TW.known rfl rfl ?_
  refine TW.neq rfl rfl rfl ct rfl ct ?_
  refine TW.pickOr rfl rfl rfl ct rfl pT ?_
  refine TW.move rfl rfl rfl ct ?_
  refine TW.known rfl rfl ?_
  refine TW.move rfl rfl rfl ct ?_
  refine TW.known rfl rfl ?_
  refine TW.neq rfl rfl rfl ct rfl ct ?_
  refine TW.pickOr rfl rfl rfl ct rfl pT ?_
  refine TW.move rfl rfl rfl ct ?_
  refine TW.known rfl rfl ?_
  refine TW.move rfl rfl rfl ct ?_
  refine TW.known rfl rfl ?_
  refine TW.neq rfl rfl rfl ct rfl ct ?_
  refine TW.pickOr rfl rfl rfl ct rfl pT ?_
  refine TW.move rfl rfl rfl ct ?_
  refine TW.known rfl rfl ?_
  refine TW.move rfl rfl rfl ct ?_
  refine TW.known rfl rfl ?_
  refine TW.neq rfl rfl rfl ct rfl ct ?_
  refine TW.pickOr rfl rfl rfl ct rfl pT ?_
  refine TW.move rfl rfl rfl ct ?_
  refine TW.known rfl rfl ?_
  refine TW.move rfl rfl rfl ct ?_
  refine TW.known rfl rfl ?_
  refine TW.neq rfl rfl rfl ct rfl ct ?_
  refine TW.pickOr rfl rfl rfl ct rfl pT ?_
  refine TW.move rfl rfl rfl ct ?_
  refine TW.known rfl rfl ?_
  refine TW.move rfl rfl rfl ct ?_
  refine TW.known rfl rfl ?_
  refine TW.lenSlice rfl rfl Try.underlying22 rfl ct ?_
  refine TW.known rfl rfl ?_
  refine TW.neq rfl rfl rfl ct rfl ct ?_
  refine TW.pickOr rfl rfl rfl ct rfl pT ?_
  refine TW.nil (KW.pick [0, 1, 2, 3, 4, 5, 6, 7, 9, 11, 13, 14, 15, 17, 19, 112] [(0, _, _), (1, _, _), (2, _, _), (3, _, _), (4, _, _), (5, _, _), (6, _, _), (7, _, _), (9, _, _), (11, _, _), (13, _, _), (14, _, _), (15, _, _), (17, _, _), (19, _, _), (112, _, _)] rfl (KW.then_ ?_))
  refine CW.cond rfl (fun hx2 => ?_) (fun hy2 => ?_)
  · exact absurd hx2 (by decide)
  refine CW.skip (KW.then_ (CW.seq (CW.region ?_)))
  refine TW.move rfl rfl rfl ct ?_
  have hlD : exD.length = 3 := rfl
  have hr10 := root_c 0 sbF i0 (sb_step hv3 hb310)
  rw [p10] at hr10
  refine TW.callF (cap := []) rfl rfl en14 rfl ct (Args.cons rfl ct (Args.cons rfl ct Args.nil)) (fun _ => hr10) ?_
  rintro w11 hb11
  refine TW.eql rfl rfl rfl ct rfl ct ?_
  refine TW.move rfl rfl rfl ct ?_
  refine TW.known rfl rfl ?_
  refine TW.move rfl rfl rfl ct ?_
  refine TW.known rfl rfl ?_
  have hb311 := hb310.step hb11
  have hi11 := inside_c 2 sbF i2 (sb_step hv3 hb311)
  rw [p11] at hi11
  refine TW.call0 (cap := []) rfl rfl en12 rfl (Args.cons rfl ct (Args.cons rfl ct Args.nil)) (hi11) ?_
  rintro vi w12 ⟨hb12, hi12⟩
  have hb312 := hb311.step hb12
  refine TW.known rfl rfl ?_
  refine TW.buildSlice 3 _ rfl rfl rfl eo25 (Args.cons rfl ct (Args.cons rfl ct Args.nil)) rfl rfl rfl rfl rfl ?_
  rintro g13 w13 f13
  have hb313 := hb312.step f13.below
  refine TW.known rfl rfl ?_
  refine TW.callF (cap := []) rfl rfl en16 rfl ct (Args.cons rfl ct (Args.cons rfl ct Args.nil)) (fun _ => rints_c (hi12.below f13.below) (lies_ints (is := [0, 1]) ⟨g13, rfl, f13.blk⟩ i01 (by simp))) ?_
  rintro w14 hb14
  refine TW.pickAnd rfl rfl rfl ct rfl pT ?_
  refine TW.move rfl rfl rfl ct ?_
  refine TW.known rfl rfl ?_
  refine TW.move rfl rfl rfl ct ?_
  refine TW.known rfl rfl ?_
  refine TW.indexAddr rfl rfl Try.underlying22 sz28 rfl ct rfl ct (fun _ => by (try dsimp only); omega) ?_
  refine TW.known rfl rfl ?_
  refine TW.fieldAddr rfl rfl fo28_3 rfl ct ?_
  refine TW.known rfl rfl ?_
  have hd14 := sb_step (sb_step (sb_step (sb_step hd10 hb11) hb12) f13.below) hb14
  have hb314 := hb313.step hb14
  refine TW.load rfl rfl one3 rfl ct (fun _ => box_cell hd14 (i := 0) (b := exBox 105 0 1 5 false) rfl rfl) ?_
  refine TW.known rfl rfl ?_
  refine TW.eql rfl rfl rfl ct rfl ct ?_
  refine TW.pickAnd rfl rfl rfl ct rfl pT ?_
  refine TW.move rfl rfl rfl ct ?_
  refine TW.known rfl rfl ?_
  refine TW.move rfl rfl rfl ct ?_
  refine TW.known rfl rfl ?_
  have hvD := valid_c hd14
  rw [dec_pos (show Valid (exD, (0 : Int)).1 from vD)] at hvD
  refine TW.callF (cap := []) rfl rfl en28 rfl ct (Args.cons rfl ct Args.nil) (fun _ => hvD) ?_
  rintro w15 hb15
  refine TW.pickAnd rfl rfl rfl ct rfl pT ?_
  refine TW.move rfl rfl rfl ct ?_
  refine TW.known rfl rfl ?_
  have hb315 := hb314.step hb15
  refine TW.build [0] _ (boxCells (exBox 120 0 0 0 false)) rfl rfl rfl (Args.cons rfl ct Args.nil) (by kernel_rfl) ?_
  refine TW.known rfl rfl ?_
  refine TW.buildSlice 28 (cs := exX.flatMap boxCells) _ rfl rfl rfl eo22 (Args.cons rfl ct Args.nil) rfl rfl rfl rfl rfl ?_
  rintro g16 w16 f16
  refine TW.known rfl rfl ?_
  have hX : SB w16 (.slice (some ⟨g16, 0, none⟩) 1 1) exX := by
    refine sb_of (own_boxes (F := fun _ => True) (l := exX) (OwnS.of_blk (sz := 5) (n := 1) f16.blk rfl (by omega)) ?_ (fun _ _ => trivial) (by decide))
    intro b hb
    simp [exX] at hb
    subst hb
    exact ⟨by decide, i64_small (by decide) (by decide), i64_small (by decide) (by decide), i64_small (by decide) (by decide)⟩
  have hvX := valid_c hX
  rw [dec_neg vX] at hvX
  refine TW.callF (cap := []) rfl rfl en28 rfl ct (Args.cons rfl ct Args.nil) (fun _ => hvX) ?_
  rintro w17 hb17
  refine TW.known rfl rfl ?_
  refine TW.not rfl rfl rfl ct ?_
  refine TW.pickAnd rfl rfl rfl ct rfl pT ?_
  refine TW.move rfl rfl rfl ct ?_
  refine TW.known rfl rfl ?_
  refine TW.move rfl rfl rfl ct ?_
  refine TW.known rfl rfl ?_
  have hb317 := (hb315.step f16.below).step hb17
  have hr17 := root_c 3 sbF i3 (sb_step hl3 hb317)
  rw [p12] at hr17
  refine TW.callF (cap := []) rfl rfl en14 rfl ct (Args.cons rfl ct (Args.cons rfl ct Args.nil)) (fun _ => hr17) ?_
  rintro w18 hb18
  refine TW.known rfl rfl ?_
  refine TW.eql rfl rfl rfl ct rfl ct ?_
  refine TW.pickAnd rfl rfl rfl ct rfl pT ?_
  refine TW.assign rfl rfl rfl ct ?_
  refine TW.nil (KW.pick [0, 1, 2, 3, 4, 5, 6, 7, 9, 11, 13, 14, 15, 17, 19] [(0, _, _), (1, _, _), (2, _, _), (3, _, _), (4, _, _), (5, _, _), (6, _, _), (7, _, _), (9, _, _), (11, _, _), (13, _, _), (14, _, _), (15, _, _), (17, _, _), (19, _, _)] rfl (KW.then_ ?_))
  refine CW.ret ?_
  refine ret1 Try.results10 rfl (⟨((hb1.step hb2).step hb3).step (hb317.step hb18), rfl⟩)
end Go.Proofs.Ytegmhdabedgloaa
