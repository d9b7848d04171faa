import Derived.Test.YtegmhdabedgloaaY
namespace Go.Proofs.Ytegmhdabedgloaa
open Go.PF Go.RowKit

theorem res_self {w : World} {r : List Box × Int} (u : Value) (w' : World) : ResB w r u w' → ResS w r u w' := res_of rfl u w'
theorem same_true {w : World} {v v' : Value} {l : List Box} (h : SB w v l) (h' : SB w v' l) : Gives Try.prog 20 #[v, v'] w fun u w' => Below w.heap.size w w' ∧ u = .bool true := by
  have := rsame_c h h'
  rw [dec_pos rfl] at this
  exact this

set_option maxRecDepth 20000 in
theorem matches_law {w : World} {v : Value} {l : List Box} (box into place : Int) (hi1 : I64 box) (hi2 : I64 into) (hl : SB w v l) : Gives Try.prog 6 #[v, .int .i64 box, .int .i64 into, .int .i64 place] w fun u w' => Below w.heap.size w w' ∧ u = .bool true := by
  refine gives_of (vs := [v, .int .i64 box, .int .i64 into, .int .i64 place]) [(0, none, _), (1, none, _), (2, none, _), (3, none, _)] Try.func6 rfl Try.ntmps6 rfl rfl ?_
  refine CW.seq (CW.region ?_)
  refine TW.assign rfl rfl rfl ct ?_
  refine TW.nil (KW.pick [0, 1, 2, 3, 8] [(0, _, _), (1, _, _), (2, _, _), (3, _, _), (8, _, _)] rfl (KW.then_ ?_))
  refine CW.seq (CW.region ?_)
  refine TW.callF (cap := []) rfl rfl en10 rfl ct Args.nil (fun _ => head_c) ?_
  rintro w0 b0
  refine TW.assign rfl rfl rfl ct ?_
  refine TW.nil (KW.pick [0, 1, 2, 3, 8, 9] [(0, _, _), (1, _, _), (2, _, _), (3, _, _), (8, _, _), (9, _, _)] rfl (KW.then_ ?_))
  refine CW.seq (CW.seq (CW.region ?_))
  refine TW.move rfl rfl rfl ct ?_
  have l0 := sb_step hl b0
  refine TW.callF (cap := []) rfl rfl en17 rfl ct (Args.cons rfl ct Args.nil) (fun _ => rfew_c l0) ?_
  rintro w1 c1
  refine TW.not rfl rfl rfl ct ?_
  refine TW.nil (KW.pick [0, 1, 2, 3, 8, 9, 18] [(0, _, _), (1, _, _), (2, _, _), (3, _, _), (8, _, _), (9, _, _), (18, _, _)] rfl (KW.then_ ?_))
  have b1 := b0.step c1
  have l1 := sb_step l0 c1
  refine CW.cond rfl (fun hx => ?_) (fun hy => ?_)
  · refine CW.seq (CW.region ?_)
    refine TW.move rfl rfl rfl ct ?_
    refine TW.assign rfl rfl rfl ct ?_
    refine TW.nil (KW.pick [0, 1, 2, 3, 8, 9] [(0, _, _), (1, _, _), (2, _, _), (3, _, _), (8, _, _), (9, _, _)] rfl (KW.then_ ?_))
    refine CW.ret (KW.thenR ?_)
    refine ret1 Try.results6 rfl (⟨b1, rfl⟩)
  refine CW.skip (KW.then_ (CW.seq (CW.region ?_)))
  refine TW.move rfl rfl rfl ct ?_
  refine TW.move rfl rfl rfl ct ?_
  refine TW.move rfl rfl rfl ct ?_
  refine TW.call0 (cap := []) rfl rfl en18 rfl (Args.cons rfl ct (Args.cons rfl ct (Args.cons rfl ct Args.nil))) ((put_c box into sbF hi1 hi2 l1).mono res_self) ?_
  rintro _ w2 ⟨va1, rfl, ha1, c2⟩
  have b2 := b1.step c2
  have l2 := sb_step l1 c2
  refine TW.move rfl rfl rfl ct ?_
  refine TW.extract rfl rfl rfl rfl ct ?_
  refine TW.extract rfl rfl rfl rfl ct ?_
  refine TW.assign rfl rfl rfl ct ?_
  refine TW.assign rfl rfl rfl ct ?_
  refine TW.nil (KW.pick [0, 1, 2, 3, 8, 9, 10, 11] [(0, _, _), (1, _, _), (2, _, _), (3, _, _), (8, _, _), (9, _, _), (10, _, _), (11, _, _)] rfl (KW.then_ ?_))
  refine CW.seq (CW.region ?_)
  refine TW.move rfl rfl rfl ct ?_
  refine TW.move rfl rfl rfl ct ?_
  refine TW.move rfl rfl rfl ct ?_
  refine TW.call0 (cap := []) rfl rfl en19 rfl (Args.cons rfl ct (Args.cons rfl ct (Args.cons rfl ct Args.nil))) ((rput_c box into l2).mono res_self) ?_
  rintro _ w3 ⟨vb1, rfl, hb1, c3⟩
  have b3 := b2.step c3
  have l3 := sb_step l2 c3
  refine TW.move rfl rfl rfl ct ?_
  refine TW.extract rfl rfl rfl rfl ct ?_
  refine TW.extract rfl rfl rfl rfl ct ?_
  refine TW.assign rfl rfl rfl ct ?_
  refine TW.assign rfl rfl rfl ct ?_
  refine TW.nil (KW.pick [0, 1, 2, 3, 8, 9, 10, 11, 12, 13] [(0, _, _), (1, _, _), (2, _, _), (3, _, _), (8, _, _), (9, _, _), (10, _, _), (11, _, _), (12, _, _), (13, _, _)] rfl (KW.then_ ?_))
  refine CW.seq (CW.region ?_)
  refine TW.move rfl rfl rfl ct ?_
  refine TW.move rfl rfl rfl ct ?_
  refine TW.eql rfl rfl rfl ct rfl ct ?_
  refine TW.move rfl rfl rfl ct ?_
  refine TW.known rfl (by simp [Cnd]) ?_
  refine TW.move rfl rfl rfl ct ?_
  refine TW.known rfl (by simp [Cnd]) ?_
  refine TW.move rfl rfl rfl ct ?_
  refine TW.known rfl (by simp [Cnd]) ?_
  refine TW.callF (cap := []) rfl rfl en20 rfl ct (Args.cons rfl ct (Args.cons rfl ct Args.nil)) (fun _ => same_true (sb_step ha1 c3) hb1) ?_
  rintro w4 c4
  refine TW.pickAnd rfl rfl rfl ct rfl (by intro hG hb; simp_all [Cnd]) ?_
  refine TW.assign rfl rfl rfl ct ?_
  refine TW.nil (KW.pick [0, 1, 2, 3, 8, 9, 10, 11, 12, 13, 14] [(0, _, _), (1, _, _), (2, _, _), (3, _, _), (8, _, _), (9, _, _), (10, _, _), (11, _, _), (12, _, _), (13, _, _), (14, _, _)] rfl (KW.then_ ?_))
  refine CW.seq (CW.region ?_)
  refine TW.move rfl rfl rfl ct ?_
  refine TW.move rfl rfl rfl ct ?_
  have b4 := b3.step c4
  have l4 := sb_step l3 c4
  refine TW.call0 (cap := []) rfl rfl en21 rfl (Args.cons rfl ct (Args.cons rfl ct Args.nil)) ((take_c box sbF hi1 l4).mono res_self) ?_
  rintro _ w5 ⟨va4, rfl, ha4, c5⟩
  have b5 := b4.step c5
  have l5 := sb_step l4 c5
  refine TW.move rfl rfl rfl ct ?_
  refine TW.extract rfl rfl rfl rfl ct ?_
  refine TW.extract rfl rfl rfl rfl ct ?_
  refine TW.assign rfl rfl rfl ct ?_
  refine TW.assign rfl rfl rfl ct ?_
  refine TW.nil (KW.pick [0, 1, 2, 3, 8, 9, 10, 11, 12, 13, 14] [(0, _, _), (1, _, _), (2, _, _), (3, _, _), (8, _, _), (9, _, _), (10, _, _), (11, _, _), (12, _, _), (13, _, _), (14, _, _)] rfl (KW.then_ ?_))
  refine CW.seq (CW.region ?_)
  refine TW.move rfl rfl rfl ct ?_
  refine TW.move rfl rfl rfl ct ?_
  refine TW.call0 (cap := []) rfl rfl en22 rfl (Args.cons rfl ct (Args.cons rfl ct Args.nil)) ((rtake_c box l5).mono res_self) ?_
  rintro _ w6 ⟨vb4, rfl, hb4, c6⟩
  have b6 := b5.step c6
  have l6 := sb_step l5 c6
  refine TW.move rfl rfl rfl ct ?_
  refine TW.extract rfl rfl rfl rfl ct ?_
  refine TW.extract rfl rfl rfl rfl ct ?_
  refine TW.assign rfl rfl rfl ct ?_
  refine TW.assign rfl rfl rfl ct ?_
  refine TW.nil (KW.pick [0, 1, 2, 3, 8, 9, 10, 11, 12, 13, 14] [(0, _, _), (1, _, _), (2, _, _), (3, _, _), (8, _, _), (9, _, _), (10, _, _), (11, _, _), (12, _, _), (13, _, _), (14, _, _)] rfl (KW.then_ ?_))
  refine CW.seq (CW.region ?_)
  refine TW.move rfl rfl rfl ct ?_
  refine TW.move rfl rfl rfl ct ?_
  refine TW.known rfl (by simp [Cnd]) ?_
  refine TW.move rfl rfl rfl ct ?_
  refine TW.known rfl (by simp [Cnd]) ?_
  refine TW.move rfl rfl rfl ct ?_
  refine TW.known rfl (by simp [Cnd]) ?_
  refine TW.eql rfl rfl rfl ct rfl ct ?_
  refine TW.pickAnd rfl rfl rfl ct rfl (by intro hG hb; simp_all [Cnd]) ?_
  refine TW.move rfl rfl rfl ct ?_
  refine TW.known rfl (by simp [Cnd]) ?_
  refine TW.move rfl rfl rfl ct ?_
  refine TW.known rfl (by simp [Cnd]) ?_
  refine TW.move rfl rfl rfl ct ?_
  refine TW.known rfl (by simp [Cnd]) ?_
  refine TW.callF (cap := []) rfl rfl en20 rfl ct (Args.cons rfl ct (Args.cons rfl ct Args.nil)) (fun _ => same_true (sb_step ha4 c6) hb4) ?_
  rintro w7 c7
  refine TW.pickAnd rfl rfl rfl ct rfl (by intro hG hb; simp_all [Cnd]) ?_
  refine TW.assign rfl rfl rfl ct ?_
  refine TW.nil (KW.pick [0, 1, 2, 3, 8, 9, 10, 11, 12, 13, 14] [(0, _, _), (1, _, _), (2, _, _), (3, _, _), (8, _, _), (9, _, _), (10, _, _), (11, _, _), (12, _, _), (13, _, _), (14, _, _)] rfl (KW.then_ ?_))
  refine CW.seq (CW.region ?_)
  refine TW.move rfl rfl rfl ct ?_
  refine TW.move rfl rfl rfl ct ?_
  have b7 := b6.step c7
  have l7 := sb_step l6 c7
  refine TW.call0 (cap := []) rfl rfl en23 rfl (Args.cons rfl ct (Args.cons rfl ct Args.nil)) ((close_c box sbF hi1 l7).mono res_self) ?_
  rintro _ w8 ⟨va7, rfl, ha7, c8⟩
  have b8 := b7.step c8
  have l8 := sb_step l7 c8
  refine TW.move rfl rfl rfl ct ?_
  refine TW.extract rfl rfl rfl rfl ct ?_
  refine TW.extract rfl rfl rfl rfl ct ?_
  refine TW.assign rfl rfl rfl ct ?_
  refine TW.assign rfl rfl rfl ct ?_
  refine TW.nil (KW.pick [0, 1, 2, 3, 8, 9, 10, 11, 12, 13, 14] [(0, _, _), (1, _, _), (2, _, _), (3, _, _), (8, _, _), (9, _, _), (10, _, _), (11, _, _), (12, _, _), (13, _, _), (14, _, _)] rfl (KW.then_ ?_))
  refine CW.seq (CW.region ?_)
  refine TW.move rfl rfl rfl ct ?_
  refine TW.move rfl rfl rfl ct ?_
  refine TW.call0 (cap := []) rfl rfl en24 rfl (Args.cons rfl ct (Args.cons rfl ct Args.nil)) ((rclose_c box l8).mono res_self) ?_
  rintro _ w9 ⟨vb7, rfl, hb7, c9⟩
  have b9 := b8.step c9
  have l9 := sb_step l8 c9
  refine TW.move rfl rfl rfl ct ?_
  refine TW.extract rfl rfl rfl rfl ct ?_
  refine TW.extract rfl rfl rfl rfl ct ?_
  refine TW.assign rfl rfl rfl ct ?_
  refine TW.assign rfl rfl rfl ct ?_
  refine TW.nil (KW.pick [0, 1, 2, 3, 8, 9, 10, 11, 12, 13, 14] [(0, _, _), (1, _, _), (2, _, _), (3, _, _), (8, _, _), (9, _, _), (10, _, _), (11, _, _), (12, _, _), (13, _, _), (14, _, _)] rfl (KW.then_ ?_))
  refine CW.seq (CW.region ?_)
  refine TW.move rfl rfl rfl ct ?_
  refine TW.move rfl rfl rfl ct ?_
  refine TW.known rfl (by simp [Cnd]) ?_
  refine TW.move rfl rfl rfl ct ?_
  refine TW.known rfl (by simp [Cnd]) ?_
  refine TW.move rfl rfl rfl ct ?_
  refine TW.known rfl (by simp [Cnd]) ?_
  refine TW.eql rfl rfl rfl ct rfl ct ?_
  refine TW.pickAnd rfl rfl rfl ct rfl (by intro hG hb; simp_all [Cnd]) ?_
  refine TW.move rfl rfl rfl ct ?_
  refine TW.known rfl (by simp [Cnd]) ?_
  refine TW.move rfl rfl rfl ct ?_
  refine TW.known rfl (by simp [Cnd]) ?_
  refine TW.move rfl rfl rfl ct ?_
  refine TW.known rfl (by simp [Cnd]) ?_
  refine TW.callF (cap := []) rfl rfl en20 rfl ct (Args.cons rfl ct (Args.cons rfl ct Args.nil)) (fun _ => same_true (sb_step ha7 c9) hb7) ?_
  rintro w10 c10
  refine TW.pickAnd rfl rfl rfl ct rfl (by intro hG hb; simp_all [Cnd]) ?_
  refine TW.assign rfl rfl rfl ct ?_
  refine TW.nil (KW.pick [0, 1, 2, 3, 8, 9, 10, 11, 12, 13, 14] [(0, _, _), (1, _, _), (2, _, _), (3, _, _), (8, _, _), (9, _, _), (10, _, _), (11, _, _), (12, _, _), (13, _, _), (14, _, _)] rfl (KW.then_ ?_))
  refine CW.seq (CW.region ?_)
  refine TW.move rfl rfl rfl ct ?_
  refine TW.move rfl rfl rfl ct ?_
  have b10 := b9.step c10
  have l10 := sb_step l9 c10
  refine TW.call0 (cap := []) rfl rfl en25 rfl (Args.cons rfl ct (Args.cons rfl ct Args.nil)) ((reopen_c box sbF hi1 l10).mono res_self) ?_
  rintro _ w11 ⟨va10, rfl, ha10, c11⟩
  have b11 := b10.step c11
  have l11 := sb_step l10 c11
  refine TW.move rfl rfl rfl ct ?_
  refine TW.extract rfl rfl rfl rfl ct ?_
  refine TW.extract rfl rfl rfl rfl ct ?_
  refine TW.assign rfl rfl rfl ct ?_
  refine TW.assign rfl rfl rfl ct ?_
  refine TW.nil (KW.pick [0, 1, 2, 3, 8, 9, 10, 11, 12, 13, 14] [(0, _, _), (1, _, _), (2, _, _), (3, _, _), (8, _, _), (9, _, _), (10, _, _), (11, _, _), (12, _, _), (13, _, _), (14, _, _)] rfl (KW.then_ ?_))
  refine CW.seq (CW.region ?_)
  refine TW.move rfl rfl rfl ct ?_
  refine TW.move rfl rfl rfl ct ?_
  refine TW.call0 (cap := []) rfl rfl en26 rfl (Args.cons rfl ct (Args.cons rfl ct Args.nil)) ((rreopen_c box l11).mono res_self) ?_
  rintro _ w12 ⟨vb10, rfl, hb10, c12⟩
  have b12 := b11.step c12
  have l12 := sb_step l11 c12
  refine TW.move rfl rfl rfl ct ?_
  refine TW.extract rfl rfl rfl rfl ct ?_
  refine TW.extract rfl rfl rfl rfl ct ?_
  refine TW.assign rfl rfl rfl ct ?_
  refine TW.assign rfl rfl rfl ct ?_
  refine TW.nil (KW.pick [0, 1, 2, 3, 8, 9, 10, 11, 12, 13, 14] [(0, _, _), (1, _, _), (2, _, _), (3, _, _), (8, _, _), (9, _, _), (10, _, _), (11, _, _), (12, _, _), (13, _, _), (14, _, _)] rfl (KW.then_ ?_))
  refine CW.seq (CW.region ?_)
  refine TW.move rfl rfl rfl ct ?_
  refine TW.move rfl rfl rfl ct ?_
  refine TW.known rfl (by simp [Cnd]) ?_
  refine TW.move rfl rfl rfl ct ?_
  refine TW.known rfl (by simp [Cnd]) ?_
  refine TW.move rfl rfl rfl ct ?_
  refine TW.known rfl (by simp [Cnd]) ?_
  refine TW.eql rfl rfl rfl ct rfl ct ?_
  refine TW.pickAnd rfl rfl rfl ct rfl (by intro hG hb; simp_all [Cnd]) ?_
  refine TW.move rfl rfl rfl ct ?_
  refine TW.known rfl (by simp [Cnd]) ?_
  refine TW.move rfl rfl rfl ct ?_
  refine TW.known rfl (by simp [Cnd]) ?_
  refine TW.move rfl rfl rfl ct ?_
  refine TW.known rfl (by simp [Cnd]) ?_
  refine TW.callF (cap := []) rfl rfl en20 rfl ct (Args.cons rfl ct (Args.cons rfl ct Args.nil)) (fun _ => same_true (sb_step ha10 c12) hb10) ?_
  rintro w13 c13
  refine TW.pickAnd rfl rfl rfl ct rfl (by intro hG hb; simp_all [Cnd]) ?_
  refine TW.assign rfl rfl rfl ct ?_
  refine TW.nil (KW.pick [0, 1, 2, 3, 8, 9, 10, 11, 12, 13, 14] [(0, _, _), (1, _, _), (2, _, _), (3, _, _), (8, _, _), (9, _, _), (10, _, _), (11, _, _), (12, _, _), (13, _, _), (14, _, _)] rfl (KW.then_ ?_))
  refine CW.seq (CW.region ?_)
  refine TW.move rfl rfl rfl ct ?_
  refine TW.move rfl rfl rfl ct ?_
  refine TW.move rfl rfl rfl ct ?_
  have b13 := b12.step c13
  have l13 := sb_step l12 c13
  refine TW.call0 (cap := []) rfl rfl en15 rfl (Args.cons rfl ct (Args.cons rfl ct (Args.cons rfl ct Args.nil))) ((move_c box place sbF hi1 l13).mono res_self) ?_
  rintro _ w14 ⟨va13, rfl, ha13, c14⟩
  have b14 := b13.step c14
  have l14 := sb_step l13 c14
  refine TW.move rfl rfl rfl ct ?_
  refine TW.extract rfl rfl rfl rfl ct ?_
  refine TW.extract rfl rfl rfl rfl ct ?_
  refine TW.assign rfl rfl rfl ct ?_
  refine TW.assign rfl rfl rfl ct ?_
  refine TW.nil (KW.pick [0, 1, 2, 3, 8, 9, 10, 11, 12, 13, 14] [(0, _, _), (1, _, _), (2, _, _), (3, _, _), (8, _, _), (9, _, _), (10, _, _), (11, _, _), (12, _, _), (13, _, _), (14, _, _)] rfl (KW.then_ ?_))
  refine CW.seq (CW.region ?_)
  refine TW.move rfl rfl rfl ct ?_
  refine TW.move rfl rfl rfl ct ?_
  refine TW.move rfl rfl rfl ct ?_
  refine TW.call0 (cap := []) rfl rfl en27 rfl (Args.cons rfl ct (Args.cons rfl ct (Args.cons rfl ct Args.nil))) ((rmove_c box place l14).mono res_self) ?_
  rintro _ w15 ⟨vb13, rfl, hb13, c15⟩
  have b15 := b14.step c15
  have l15 := sb_step l14 c15
  refine TW.move rfl rfl rfl ct ?_
  refine TW.extract rfl rfl rfl rfl ct ?_
  refine TW.extract rfl rfl rfl rfl ct ?_
  refine TW.assign rfl rfl rfl ct ?_
  refine TW.assign rfl rfl rfl ct ?_
  refine TW.nil (KW.pick [0, 1, 2, 3, 8, 9, 10, 11, 12, 13, 14] [(0, _, _), (1, _, _), (2, _, _), (3, _, _), (8, _, _), (9, _, _), (10, _, _), (11, _, _), (12, _, _), (13, _, _), (14, _, _)] rfl (KW.then_ ?_))
  refine CW.seq (CW.region ?_)
  refine TW.move rfl rfl rfl ct ?_
  refine TW.move rfl rfl rfl ct ?_
  refine TW.known rfl (by simp [Cnd]) ?_
  refine TW.move rfl rfl rfl ct ?_
  refine TW.known rfl (by simp [Cnd]) ?_
  refine TW.move rfl rfl rfl ct ?_
  refine TW.known rfl (by simp [Cnd]) ?_
  refine TW.eql rfl rfl rfl ct rfl ct ?_
  refine TW.pickAnd rfl rfl rfl ct rfl (by intro hG hb; simp_all [Cnd]) ?_
  refine TW.move rfl rfl rfl ct ?_
  refine TW.known rfl (by simp [Cnd]) ?_
  refine TW.move rfl rfl rfl ct ?_
  refine TW.known rfl (by simp [Cnd]) ?_
  refine TW.move rfl rfl rfl ct ?_
  refine TW.known rfl (by simp [Cnd]) ?_
  refine TW.callF (cap := []) rfl rfl en20 rfl ct (Args.cons rfl ct (Args.cons rfl ct Args.nil)) (fun _ => same_true (sb_step ha13 c15) hb13) ?_
  rintro w16 c16
  refine TW.pickAnd rfl rfl rfl ct rfl (by intro hG hb; simp_all [Cnd]) ?_
  refine TW.assign rfl rfl rfl ct ?_
  refine TW.nil (KW.pick [0, 1, 2, 3, 8, 9, 10, 11, 12, 13, 14] [(0, _, _), (1, _, _), (2, _, _), (3, _, _), (8, _, _), (9, _, _), (10, _, _), (11, _, _), (12, _, _), (13, _, _), (14, _, _)] rfl (KW.then_ ?_))
  refine CW.seq (CW.region ?_)
  refine TW.move rfl rfl rfl ct ?_
  refine TW.move rfl rfl rfl ct ?_
  refine TW.known rfl (by simp [Cnd]) ?_
  refine TW.move rfl rfl rfl ct ?_
  refine TW.pickAnd rfl rfl rfl ct rfl (by intro hG hb; simp_all [Cnd]) ?_
  refine TW.move rfl rfl rfl ct ?_
  refine TW.known rfl (by simp [Cnd]) ?_
  refine TW.move rfl rfl rfl ct ?_
  refine TW.known rfl (by simp [Cnd]) ?_
  have b16 := b15.step c16
  have l16 := sb_step l15 c16
  refine TW.callF (cap := []) rfl rfl en28 rfl ct (Args.cons rfl ct Args.nil) (fun _ => valid_c l16) ?_
  rintro w17 c17
  refine TW.known rfl (by simp [Cnd]) ?_
  refine TW.move rfl rfl rfl ct ?_
  refine TW.known rfl (by simp [Cnd]) ?_
  have b17 := b16.step c17
  have l17 := sb_step l16 c17
  refine TW.callF (cap := []) rfl rfl en29 rfl ct (Args.cons rfl ct Args.nil) (fun _ => rvalid_c l17) ?_
  rintro w18 c18
  refine TW.known rfl (by simp [Cnd]) ?_
  refine TW.eqlB rfl rfl Try.underlying4 rfl ct rfl ct ?_
  refine TW.pickAnd rfl rfl rfl ct rfl (by intro hG hb; simp_all [Cnd]) ?_
  refine TW.move rfl rfl rfl ct ?_
  refine TW.known rfl (by simp [Cnd]) ?_
  refine TW.move rfl rfl rfl ct ?_
  refine TW.known rfl (by simp [Cnd]) ?_
  refine TW.move rfl rfl rfl ct ?_
  refine TW.known rfl (by simp [Cnd]) ?_
  have b18 := b17.step c18
  have l18 := sb_step l17 c18
  refine TW.callF (cap := []) rfl rfl en14 rfl ct (Args.cons rfl ct (Args.cons rfl ct Args.nil)) (fun _ => root_c box sbF hi1 l18) ?_
  rintro w19 c19
  refine TW.known rfl (by simp [Cnd]) ?_
  refine TW.move rfl rfl rfl ct ?_
  refine TW.known rfl (by simp [Cnd]) ?_
  refine TW.move rfl rfl rfl ct ?_
  refine TW.known rfl (by simp [Cnd]) ?_
  have b19 := b18.step c19
  have l19 := sb_step l18 c19
  refine TW.callF (cap := []) rfl rfl en30 rfl ct (Args.cons rfl ct (Args.cons rfl ct Args.nil)) (fun _ => rroot_c box l19) ?_
  rintro w20 c20
  refine TW.known rfl (by simp [Cnd]) ?_
  refine TW.eql rfl rfl rfl ct rfl ct ?_
  refine TW.pickAnd rfl rfl rfl ct rfl (by intro hG hb; simp_all [Cnd]) ?_
  refine TW.move rfl rfl rfl ct ?_
  refine TW.known rfl (by simp [Cnd]) ?_
  refine TW.move rfl rfl rfl ct ?_
  refine TW.known rfl (by simp [Cnd]) ?_
  refine TW.move rfl rfl rfl ct ?_
  refine TW.known rfl (by simp [Cnd]) ?_
  have b20 := b19.step c20
  have l20 := sb_step l19 c20
  refine TW.call0 (cap := []) rfl rfl en12 rfl (Args.cons rfl ct (Args.cons rfl ct Args.nil)) (inside_c box sbF hi1 l20) ?_
  rintro u1 w21 ⟨c21, hu1⟩
  have b21 := b20.step c21
  have l21 := sb_step l20 c21
  refine TW.known rfl (by simp [Cnd]) ?_
  refine TW.move rfl rfl rfl ct ?_
  refine TW.known rfl (by simp [Cnd]) ?_
  refine TW.move rfl rfl rfl ct ?_
  refine TW.known rfl (by simp [Cnd]) ?_
  refine TW.call0 (cap := []) rfl rfl en31 rfl (Args.cons rfl ct (Args.cons rfl ct Args.nil)) (rinside_c box l21) ?_
  rintro u2 w22 ⟨c22, hu2⟩
  have b22 := b21.step c22
  refine TW.known rfl (by simp [Cnd]) ?_
  refine TW.callF (cap := []) rfl rfl en16 rfl ct (Args.cons rfl ct (Args.cons rfl ct Args.nil)) (fun _ => rints_c (hu1.below c22) hu2) ?_
  rintro w23 c23
  refine TW.pickAnd rfl rfl rfl ct rfl (by intro hG hb; simp_all [Cnd]) ?_
  refine TW.assign rfl rfl rfl ct ?_
  refine TW.nil (KW.pick [0, 1, 2, 3, 8, 9, 10, 11, 12, 13, 14] [(0, _, _), (1, _, _), (2, _, _), (3, _, _), (8, _, _), (9, _, _), (10, _, _), (11, _, _), (12, _, _), (13, _, _), (14, _, _)] rfl (KW.then_ ?_))
  refine CW.ret ?_
  refine ret1 Try.results6 rfl (⟨b22.step c23, by simp⟩)
end Go.Proofs.Ytegmhdabedgloaa
