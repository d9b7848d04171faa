import Derived.Test.YtegmhdabedgloaaZe
namespace Go.Proofs.Ytegmhdabedgloaa
open Go.PF Go.RowKit

theorem opp_at {k : Int} (h0 : 0 ≤ k) (h1 : k ≤ 4) : ([1, 0, 3, 2, 4] : List Int)[k.toNat]? = some (opp k) := by
  obtain rfl | rfl | rfl | rfl | rfl : k = 0 ∨ k = 1 ∨ k = 2 ∨ k = 3 ∨ k = 4 := by omega
  all_goals rfl
theorem opp_in {k : Int} (h0 : 0 ≤ k) (h1 : k ≤ 4) : 0 ≤ opp k ∧ opp k ≤ 4 ∧ (opp k = 4 → k = 4) := by
  obtain rfl | rfl | rfl | rfl | rfl : k = 0 ∨ k = 1 ∨ k = 2 ∨ k = 3 ∨ k = 4 := by omega
  all_goals decide

theorem same_self {w : World} {v v' : Value} {l : List Box} (h : SB w v l) (h' : SB w v' l) : Gives Try.prog 20 #[v, v'] w fun u w' => Below w.heap.size w w' ∧ u = .bool true := by
  have := rsame_c h h'
  rw [dec_pos rfl] at this
  exact this

set_option maxRecDepth 20000 in
theorem back_law {w : World} {v : Value} {l : List Box} (z x y : Int) (hz0 : 0 ≤ z) (hz1 : z ≤ 255) (hx0 : 0 ≤ x) (hx1 : x ≤ 255) (hy0 : 0 ≤ y) (hy1 : y ≤ 255) (hl : SB w v l) : Gives Try.prog 8 #[v, .int .u8 z, .int .u8 x, .int .u8 y] w fun u w' => Below w.heap.size w w' ∧ u = .bool true := by
  obtain ⟨A, cap, rfl⟩ := sb_form hl
  refine gives_of (vs := [.slice A l.length cap, .int .u8 z, .int .u8 x, .int .u8 y]) [(0, none, _), (1, none, _), (2, none, _), (3, none, _)] Try.func8 rfl Try.ntmps8 rfl rfl ?_
  refine CW.seq (CW.region ?_)
  refine TW.assign rfl rfl rfl ct ?_
  refine TW.nil (KW.pick [0, 1, 2, 3, 8] [(0, _, _), (1, _, _), (2, _, _), (3, _, _), (8, _, _)] rfl (KW.then_ ?_))
  refine CW.seq (CW.region ?_)
  refine TW.callF (cap := []) rfl rfl en10 rfl ct Args.nil (fun _ => head_c) ?_
  rintro w0 b0
  refine TW.assign rfl rfl rfl ct ?_
  refine TW.nil (KW.pick [0, 1, 2, 3, 8, 9] [(0, _, _), (1, _, _), (2, _, _), (3, _, _), (8, _, _), (9, _, _)] rfl (KW.then_ ?_))
  refine CW.seq (CW.seq (CW.region ?_))
  refine TW.move rfl rfl rfl ct ?_
  have l0 := sb_step hl b0
  refine TW.callF (cap := []) rfl rfl en11 rfl ct (Args.cons rfl ct Args.nil) (fun _ => fine_c l0) ?_
  rintro w1 c1
  refine TW.not rfl rfl rfl ct ?_
  refine TW.nil (KW.pick [0, 1, 2, 3, 8, 9, 21] [(0, _, _), (1, _, _), (2, _, _), (3, _, _), (8, _, _), (9, _, _), (21, _, _)] rfl (KW.then_ ?_))
  have b1 := b0.step c1
  have l1 := sb_step l0 c1
  refine CW.cond rfl (fun hf => ?_) (fun ht => ?_)
  · refine CW.seq (CW.region ?_)
    refine TW.move rfl rfl rfl ct ?_
    refine TW.assign rfl rfl rfl ct ?_
    refine TW.nil (KW.pick [0, 1, 2, 3, 8, 9] [(0, _, _), (1, _, _), (2, _, _), (3, _, _), (8, _, _), (9, _, _)] rfl (KW.then_ ?_))
    refine CW.ret (KW.thenR ?_)
    refine ret1 Try.results8 rfl (⟨b1, rfl⟩)
  have hok := dec_iff.1 (by simpa using ht)
  obtain ⟨hfew, hpos, hv⟩ := hok
  have hwz := wrap_fits (z := z) (by omega)
  have hwx := wrap_fits (z := x) (by omega)
  have hwy := wrap_fits (z := y) (by omega)
  have hlen := hv.few
  obtain ⟨k, hkz, hk0, hk1⟩ : ∃ k : Int, IntKind.i64.wrap z % 5 = k ∧ 0 ≤ k ∧ k ≤ 4 := ⟨_, rfl, by omega, by omega⟩
  obtain ⟨bn, hbn⟩ : ∃ bn : Nat, IntKind.i64.wrap x % (l.length : Int) = bn := ⟨(IntKind.i64.wrap x % (l.length : Int)).toNat, by rw [Int.toNat_of_nonneg (Int.emod_nonneg _ (by omega))]⟩
  have hbl : bn < l.length := by have := Int.emod_lt_of_pos (IntKind.i64.wrap x) (show (0 : Int) < l.length by omega); omega
  obtain ⟨on, hon⟩ : ∃ on : Nat, IntKind.i64.wrap y % (l.length : Int) = on := ⟨(IntKind.i64.wrap y % (l.length : Int)).toNat, by rw [Int.toNat_of_nonneg (Int.emod_nonneg _ (by omega))]⟩
  have hol : on < l.length := by have := Int.emod_lt_of_pos (IntKind.i64.wrap y) (show (0 : Int) < l.length by omega); omega
  obtain ⟨bb, hbb⟩ : ∃ q, l[bn]? = some q := ⟨l[bn], List.getElem?_eq_getElem hbl⟩
  obtain ⟨ad, hAd, _⟩ := box_at l1 hbb
  subst hAd
  refine CW.skip (KW.then_ (CW.seq (CW.region ?_)))
  refine TW.move rfl rfl rfl ct ?_
  refine TW.conv rfl rfl rfl Try.underlying3 rfl ct ?_
  refine TW.rem rfl rfl rfl ct rfl ct (fun _ => by (try dsimp only); omega) ?_
  refine TW.assign rfl rfl rfl ct ?_
  refine TW.nil (KW.pick [0, 1, 2, 3, 8, 9, 10] [(0, _, _), (1, _, _), (2, _, _), (3, _, _), (8, _, _), (9, _, _), (10, _, _)] rfl (KW.then_ ?_))
  refine CW.seq (CW.region ?_)
  refine TW.move rfl rfl rfl ct ?_
  refine TW.conv rfl rfl rfl Try.underlying3 rfl ct ?_
  refine TW.move rfl rfl rfl ct ?_
  refine TW.lenSlice rfl rfl Try.underlying22 rfl ct ?_
  refine TW.rem rfl rfl rfl ct rfl ct (fun _ => by (try dsimp only); omega) ?_
  refine TW.assign rfl rfl rfl ct ?_
  refine TW.nil (KW.pick [0, 1, 2, 3, 8, 9, 10, 11] [(0, _, _), (1, _, _), (2, _, _), (3, _, _), (8, _, _), (9, _, _), (10, _, _), (11, _, _)] rfl (KW.then_ ?_))
  refine CW.seq (CW.region ?_)
  refine TW.move rfl rfl rfl ct ?_
  refine TW.move rfl rfl rfl ct ?_
  refine TW.move rfl rfl rfl ct ?_
  refine TW.move rfl rfl rfl ct ?_
  refine TW.conv rfl rfl rfl Try.underlying3 rfl ct ?_
  refine TW.move rfl rfl rfl ct ?_
  refine TW.lenSlice rfl rfl Try.underlying22 rfl ct ?_
  refine TW.rem rfl rfl rfl ct rfl ct (fun _ => by (try dsimp only); omega) ?_
  rw [hkz, hbn, hon]
  obtain ⟨r, hr⟩ : ∃ r, chS l k (bn : Int) (on : Int) = r := ⟨_, rfl⟩
  obtain ⟨m, e⟩ := r
  refine TW.call0 (cap := []) rfl rfl en32 rfl (Args.cons rfl ct (Args.cons rfl ct (Args.cons rfl ct (Args.cons rfl ct Args.nil)))) (changed_c k (bn : Int) (on : Int) hk0 hk1 (nat_i64 hbl (by omega)) (nat_i64 hol (by omega)) (fun _ => by omega) l1) ?_
  rintro _ w2 ⟨vm, rfl, hm2, c2⟩
  rw [hr] at hm2 ⊢
  have b2 := b1.step c2
  have l2 := sb_step l1 c2
  have hw := ch_went hv ⟨hk0, hk1⟩ hbl hr
  refine TW.move rfl rfl rfl ct ?_
  refine TW.extract rfl rfl rfl rfl ct ?_
  refine TW.extract rfl rfl rfl rfl ct ?_
  refine TW.assign rfl rfl rfl ct ?_
  refine TW.assign rfl rfl rfl ct ?_
  refine TW.nil (KW.pick [0, 1, 2, 3, 8, 9, 10, 11, 12, 13] [(0, _, _), (1, _, _), (2, _, _), (3, _, _), (8, _, _), (9, _, _), (10, _, _), (11, _, _), (12, _, _), (13, _, _)] rfl (KW.then_ ?_))
  refine CW.seq (CW.seq (CW.region ?_))
  refine TW.move rfl rfl rfl ct ?_
  refine TW.neq rfl rfl rfl ct rfl ct ?_
  refine TW.nil (KW.pick [0, 1, 2, 3, 8, 9, 10, 11, 12, 13, 44] [(0, _, _), (1, _, _), (2, _, _), (3, _, _), (8, _, _), (9, _, _), (10, _, _), (11, _, _), (12, _, _), (13, _, _), (44, _, _)] rfl (KW.then_ ?_))
  refine CW.condP rfl (fun he => ?_) (fun hne => ?_)
  · refine CW.seq (CW.region ?_)
    refine TW.move rfl rfl rfl ct ?_
    refine TW.assign rfl rfl rfl ct ?_
    refine TW.nil (KW.pick [0, 1, 2, 3, 8, 9, 10, 11, 12, 13] [(0, _, _), (1, _, _), (2, _, _), (3, _, _), (8, _, _), (9, _, _), (10, _, _), (11, _, _), (12, _, _), (13, _, _)] rfl (KW.then_ ?_))
    refine CW.ret (KW.thenR ?_)
    refine ret1 Try.results8 rfl (⟨b2, rfl⟩)
  have hwent : Went l m k bn on := by
    rcases hw with h | h
    · exact absurd h.1 hne
    · exact h.2
  have hbk := went_back hv hbb hwent
  have hokb := hv.each _ _ hbb
  have ipl : I64 bb.place := i64_small (by have := hokb.p1; omega) (by have := hokb.p2; omega)
  have ipa : I64 bb.parent := i64_small (by have := hokb.q1; omega) (by have := hokb.q2; omega)
  obtain ⟨o0, o1, o2⟩ := opp_in hk0 hk1
  refine CW.skip (KW.then_ (CW.seq (CW.region ?_)))
  refine TW.buildSlice 3 _ rfl rfl rfl eo25 (Args.cons rfl ct (Args.cons rfl ct (Args.cons rfl ct (Args.cons rfl ct (Args.cons rfl ct Args.nil))))) rfl rfl rfl rfl rfl ?_
  rintro g3 w3 f3
  refine TW.assign rfl rfl rfl ct ?_
  refine TW.nil (KW.pick [0, 1, 2, 3, 8, 9, 10, 11, 12, 13, 14] [(0, _, _), (1, _, _), (2, _, _), (3, _, _), (8, _, _), (9, _, _), (10, _, _), (11, _, _), (12, _, _), (13, _, _), (14, _, _)] rfl (KW.then_ ?_))
  refine CW.seq (CW.region ?_)
  refine TW.move rfl rfl rfl ct ?_
  refine TW.move rfl rfl rfl ct ?_
  refine TW.indexAddr rfl rfl Try.underlying22 sz28 rfl ct rfl ct (fun _ => by (try dsimp only); omega) ?_
  refine TW.fieldAddr rfl rfl fo28_2 rfl ct ?_
  have b3 := b2.step f3.below
  have l3 := sb_step l2 f3.below
  have m3 := sb_step hm2 f3.below
  have ho3 : w3.cell? ((⟨g3, 0, none⟩ : Addr).add (k.toNat * 1)) = some (.int .i64 (opp k)) := by
    refine f3.blk.fld ?_
    have := opp_at hk0 hk1
    rw [Nat.mul_one]
    obtain rfl | rfl | rfl | rfl | rfl : k = 0 ∨ k = 1 ∨ k = 2 ∨ k = 3 ∨ k = 4 := by omega
    all_goals rfl
  refine TW.load rfl rfl one3 rfl ct (fun _ => box_cell l3 hbb rfl) ?_
  refine TW.assign rfl rfl rfl ct ?_
  refine TW.nil (KW.pick [0, 1, 2, 3, 8, 9, 10, 11, 12, 13, 14, 15] [(0, _, _), (1, _, _), (2, _, _), (3, _, _), (8, _, _), (9, _, _), (10, _, _), (11, _, _), (12, _, _), (13, _, _), (14, _, _), (15, _, _)] rfl (KW.then_ ?_))
  refine CW.seq (CW.seq (CW.region ?_))
  refine TW.move rfl rfl rfl ct ?_
  refine TW.eql rfl rfl rfl ct rfl ct ?_
  refine TW.nil (KW.pick [0, 1, 2, 3, 8, 9, 10, 11, 12, 13, 14, 15, 53] [(0, _, _), (1, _, _), (2, _, _), (3, _, _), (8, _, _), (9, _, _), (10, _, _), (11, _, _), (12, _, _), (13, _, _), (14, _, _), (15, _, _), (53, _, _)] rfl (KW.then_ ?_))
  refine CW.condP rfl (fun h4 => ?_) (fun hn4 => ?_)
  · rw [if_pos h4] at hbk
    refine CW.region ?_
    refine TW.move rfl rfl rfl ct ?_
    refine TW.move rfl rfl rfl ct ?_
    refine TW.indexAddr rfl rfl Try.underlying22 sz28 rfl ct rfl ct (fun _ => by (try dsimp only); omega) ?_
    refine TW.fieldAddr rfl rfl fo28_3 rfl ct ?_
    refine TW.load rfl rfl one3 rfl ct (fun _ => box_cell l3 hbb rfl) ?_
    refine TW.assign rfl rfl rfl ct ?_
    refine TW.nil (KW.pick [0, 1, 2, 3, 8, 9, 10, 11, 12, 13, 14, 15] [(0, _, _), (1, _, _), (2, _, _), (3, _, _), (8, _, _), (9, _, _), (10, _, _), (11, _, _), (12, _, _), (13, _, _), (14, _, _), (15, _, _)] rfl (KW.then_ ?_))
    refine CW.seq (CW.region ?_)
    refine TW.move rfl rfl rfl ct ?_
    refine TW.move rfl rfl rfl ct ?_
    refine TW.move rfl rfl rfl ct ?_
    refine TW.indexAddr rfl rfl Try.underlying25 sz3 rfl ct rfl ct (fun _ => by (try dsimp only); omega) ?_
    refine TW.load rfl rfl one3 rfl ct (fun _ => ho3) ?_
    refine TW.move rfl rfl rfl ct ?_
    refine TW.move rfl rfl rfl ct ?_
    refine TW.call0 (cap := []) rfl rfl en32 rfl (Args.cons rfl ct (Args.cons rfl ct (Args.cons rfl ct (Args.cons rfl ct Args.nil)))) (changed_c (opp k) (bn : Int) bb.place o0 o1 (nat_i64 hbl (by omega)) ipl (fun _ => hokb.p1) m3) ?_
    rintro _ w4 ⟨vn, rfl, hn4, c4⟩
    rw [hbk] at hn4 ⊢
    refine TW.move rfl rfl rfl ct ?_
    refine TW.extract rfl rfl rfl rfl ct ?_
    refine TW.extract rfl rfl rfl rfl ct ?_
    refine TW.assign rfl rfl rfl ct ?_
    refine TW.assign rfl rfl rfl ct ?_
    refine TW.nil (KW.pick [0, 1, 2, 3, 8, 9, 10, 11, 12, 13, 14, 15, 16, 17] [(0, _, _), (1, _, _), (2, _, _), (3, _, _), (8, _, _), (9, _, _), (10, _, _), (11, _, _), (12, _, _), (13, _, _), (14, _, _), (15, _, _), (16, _, _), (17, _, _)] rfl (KW.then_ ?_))
    refine CW.seq (CW.region ?_)
    refine TW.move rfl rfl rfl ct ?_
    refine TW.move rfl rfl rfl ct ?_
    refine TW.known rfl (by simp [Cnd]) ?_
    refine TW.move rfl rfl rfl ct ?_
    refine TW.known rfl (by simp [Cnd]) ?_
    refine TW.eql rfl rfl rfl ct rfl ct ?_
    refine TW.pickAnd rfl rfl rfl ct rfl pT ?_
    refine TW.move rfl rfl rfl ct ?_
    refine TW.known rfl (by simp [Cnd]) ?_
    refine TW.move rfl rfl rfl ct ?_
    refine TW.known rfl (by simp [Cnd]) ?_
    refine TW.move rfl rfl rfl ct ?_
    refine TW.known rfl (by simp [Cnd]) ?_
    refine TW.callF (cap := []) rfl rfl en20 rfl ct (Args.cons rfl ct (Args.cons rfl ct Args.nil)) (fun _ => same_self hn4 (sb_step l3 c4)) ?_
    rintro w5 c5
    refine TW.pickAnd rfl rfl rfl ct rfl pT ?_
    refine TW.assign rfl rfl rfl ct ?_
    refine TW.nil (KW.pick [0, 1, 2, 3, 8, 9, 10, 11, 12, 13, 14, 15, 16, 17] [(0, _, _), (1, _, _), (2, _, _), (3, _, _), (8, _, _), (9, _, _), (10, _, _), (11, _, _), (12, _, _), (13, _, _), (14, _, _), (15, _, _), (16, _, _), (17, _, _)] rfl (KW.then_ ?_))
    refine CW.ret ?_
    refine ret1 Try.results8 rfl (⟨(b3.step c4).step c5, by simp⟩)
  · rw [if_neg hn4] at hbk
    refine CW.skip (KW.then_ (CW.seq (CW.region ?_)))
    refine TW.move rfl rfl rfl ct ?_
    refine TW.move rfl rfl rfl ct ?_
    refine TW.move rfl rfl rfl ct ?_
    refine TW.indexAddr rfl rfl Try.underlying25 sz3 rfl ct rfl ct (fun _ => by (try dsimp only); omega) ?_
    refine TW.load rfl rfl one3 rfl ct (fun _ => ho3) ?_
    refine TW.move rfl rfl rfl ct ?_
    refine TW.move rfl rfl rfl ct ?_
    refine TW.call0 (cap := []) rfl rfl en32 rfl (Args.cons rfl ct (Args.cons rfl ct (Args.cons rfl ct (Args.cons rfl ct Args.nil)))) (changed_c (opp k) (bn : Int) bb.parent o0 o1 (nat_i64 hbl (by omega)) ipa (fun h => absurd (o2 h) hn4) m3) ?_
    rintro _ w4 ⟨vn, rfl, hn4, c4⟩
    rw [hbk] at hn4 ⊢
    refine TW.move rfl rfl rfl ct ?_
    refine TW.extract rfl rfl rfl rfl ct ?_
    refine TW.extract rfl rfl rfl rfl ct ?_
    refine TW.assign rfl rfl rfl ct ?_
    refine TW.assign rfl rfl rfl ct ?_
    refine TW.nil (KW.pick [0, 1, 2, 3, 8, 9, 10, 11, 12, 13, 14, 15, 16, 17] [(0, _, _), (1, _, _), (2, _, _), (3, _, _), (8, _, _), (9, _, _), (10, _, _), (11, _, _), (12, _, _), (13, _, _), (14, _, _), (15, _, _), (16, _, _), (17, _, _)] rfl (KW.then_ ?_))
    refine CW.seq (CW.region ?_)
    refine TW.move rfl rfl rfl ct ?_
    refine TW.move rfl rfl rfl ct ?_
    refine TW.known rfl (by simp [Cnd]) ?_
    refine TW.move rfl rfl rfl ct ?_
    refine TW.known rfl (by simp [Cnd]) ?_
    refine TW.eql rfl rfl rfl ct rfl ct ?_
    refine TW.pickAnd rfl rfl rfl ct rfl pT ?_
    refine TW.move rfl rfl rfl ct ?_
    refine TW.known rfl (by simp [Cnd]) ?_
    refine TW.move rfl rfl rfl ct ?_
    refine TW.known rfl (by simp [Cnd]) ?_
    refine TW.move rfl rfl rfl ct ?_
    refine TW.known rfl (by simp [Cnd]) ?_
    refine TW.callF (cap := []) rfl rfl en20 rfl ct (Args.cons rfl ct (Args.cons rfl ct Args.nil)) (fun _ => same_self hn4 (sb_step l3 c4)) ?_
    rintro w5 c5
    refine TW.pickAnd rfl rfl rfl ct rfl pT ?_
    refine TW.assign rfl rfl rfl ct ?_
    refine TW.nil (KW.pick [0, 1, 2, 3, 8, 9, 10, 11, 12, 13, 14, 15, 16, 17] [(0, _, _), (1, _, _), (2, _, _), (3, _, _), (8, _, _), (9, _, _), (10, _, _), (11, _, _), (12, _, _), (13, _, _), (14, _, _), (15, _, _), (16, _, _), (17, _, _)] rfl (KW.then_ ?_))
    refine CW.ret ?_
    refine ret1 Try.results8 rfl (⟨(b3.step c4).step c5, by simp⟩)
end Go.Proofs.Ytegmhdabedgloaa
