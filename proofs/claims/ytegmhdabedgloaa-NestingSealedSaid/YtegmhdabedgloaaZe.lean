import Derived.Test.YtegmhdabedgloaaZb
import Derived.Test.YtegmhdabedgloaaBk
namespace Go.Proofs.Ytegmhdabedgloaa
open Go.PF Go.RowKit

theorem dec_pos' {p : Prop} (h : p) : dec p = true := dec_pos h

theorem changed_c {w : World} {v : Value} {l : List Box} (k box other : Int) (hk0 : 0 ≤ k) (hk1 : k ≤ 4) (hi1 : I64 box) (hi2 : I64 other) (ho : k = 4 → 0 ≤ other) (hl : SB w v l) : Gives Try.prog 32 #[v, .int .i64 k, .int .i64 box, .int .i64 other] w (ResS w (chS l k box other)) := by
  refine gives_of (vs := [v, .int .i64 k, .int .i64 box, .int .i64 other]) [(0, none, _), (1, none, _), (2, none, _), (3, none, _)] Try.func32 rfl Try.ntmps32 rfl rfl ?_
  refine CW.seq (CW.region ?_)
  refine TW.assign rfl rfl rfl ct ?_
  refine TW.assign rfl rfl rfl ct ?_
  refine TW.nil (KW.pick [0, 1, 2, 3, 8, 9] [(0, _, _), (1, _, _), (2, _, _), (3, _, _), (8, _, _), (9, _, _)] rfl (KW.then_ ?_))
  refine CW.seq (CW.seq (CW.region ?_))
  refine TW.move rfl rfl rfl ct ?_
  refine TW.nil (KW.pick [0, 1, 2, 3, 8, 9, 10] [(0, _, _), (1, _, _), (2, _, _), (3, _, _), (8, _, _), (9, _, _), (10, _, _)] rfl (KW.then_ ?_))
  refine CW.block (CW.seq (CW.region ?_))
  refine TW.eql rfl rfl rfl ct rfl ct ?_
  refine TW.assign rfl rfl rfl ct ?_
  refine TW.nil (KW.pick [0, 1, 2, 3, 8, 9, 10, 11] [(0, _, _), (1, _, _), (2, _, _), (3, _, _), (8, _, _), (9, _, _), (10, _, _), (11, _, _)] rfl (KW.then_ ?_))
  refine CW.condP rfl (fun e0 => ?_) (fun n0 => ?_)
  · refine CW.seq (CW.region ?_)
    refine TW.move rfl rfl rfl ct ?_
    refine TW.move rfl rfl rfl ct ?_
    refine TW.move rfl rfl rfl ct ?_
    refine TW.call0 (cap := []) rfl rfl en18 rfl (Args.cons rfl ct (Args.cons rfl ct (Args.cons rfl ct Args.nil))) ((put_c box other sbF hi1 hi2 hl).mono (res_of rfl)) ?_
    rintro _ w1 ⟨v1, rfl, h1, c1⟩
    refine TW.extract rfl rfl rfl rfl ct ?_
    refine TW.extract rfl rfl rfl rfl ct ?_
    refine TW.assign rfl rfl rfl ct ?_
    refine TW.assign rfl rfl rfl ct ?_
    refine TW.nil (KW.pick [0, 1, 2, 3, 8, 9, 10] [(0, _, _), (1, _, _), (2, _, _), (3, _, _), (8, _, _), (9, _, _), (10, _, _)] rfl (KW.then_ ?_))
    refine CW.ret (KW.blockR (KW.thenR ?_))
    refine ret2 Try.results32 rfl rfl (⟨v1, by simp [chS, e0], by simpa [chS, e0] using h1, c1⟩)
  refine CW.seq (CW.region ?_)
  refine TW.eql rfl rfl rfl ct rfl ct ?_
  refine TW.assign rfl rfl rfl ct ?_
  refine TW.nil (KW.pick [0, 1, 2, 3, 8, 9, 10, 19] [(0, _, _), (1, _, _), (2, _, _), (3, _, _), (8, _, _), (9, _, _), (10, _, _), (19, _, _)] rfl (KW.then_ ?_))
  refine CW.condP rfl (fun e1 => ?_) (fun n1 => ?_)
  · refine CW.seq (CW.region ?_)
    refine TW.move rfl rfl rfl ct ?_
    refine TW.move rfl rfl rfl ct ?_
    refine TW.call0 (cap := []) rfl rfl en21 rfl (Args.cons rfl ct (Args.cons rfl ct Args.nil)) ((take_c box sbF hi1 hl).mono (res_of rfl)) ?_
    rintro _ w1 ⟨v1, rfl, h1, c1⟩
    refine TW.extract rfl rfl rfl rfl ct ?_
    refine TW.extract rfl rfl rfl rfl ct ?_
    refine TW.assign rfl rfl rfl ct ?_
    refine TW.assign rfl rfl rfl ct ?_
    refine TW.nil (KW.pick [0, 1, 2, 3, 8, 9, 10] [(0, _, _), (1, _, _), (2, _, _), (3, _, _), (8, _, _), (9, _, _), (10, _, _)] rfl (KW.then_ ?_))
    refine CW.ret (KW.blockR (KW.thenR ?_))
    refine ret2 Try.results32 rfl rfl (⟨v1, by simp [chS, e1], by simpa [chS, e1] using h1, c1⟩)
  refine CW.seq (CW.region ?_)
  refine TW.eql rfl rfl rfl ct rfl ct ?_
  refine TW.assign rfl rfl rfl ct ?_
  refine TW.nil (KW.pick [0, 1, 2, 3, 8, 9, 10, 26] [(0, _, _), (1, _, _), (2, _, _), (3, _, _), (8, _, _), (9, _, _), (10, _, _), (26, _, _)] rfl (KW.then_ ?_))
  refine CW.condP rfl (fun e2 => ?_) (fun n2 => ?_)
  · refine CW.seq (CW.region ?_)
    refine TW.move rfl rfl rfl ct ?_
    refine TW.move rfl rfl rfl ct ?_
    refine TW.call0 (cap := []) rfl rfl en23 rfl (Args.cons rfl ct (Args.cons rfl ct Args.nil)) ((close_c box sbF hi1 hl).mono (res_of rfl)) ?_
    rintro _ w1 ⟨v1, rfl, h1, c1⟩
    refine TW.extract rfl rfl rfl rfl ct ?_
    refine TW.extract rfl rfl rfl rfl ct ?_
    refine TW.assign rfl rfl rfl ct ?_
    refine TW.assign rfl rfl rfl ct ?_
    refine TW.nil (KW.pick [0, 1, 2, 3, 8, 9, 10] [(0, _, _), (1, _, _), (2, _, _), (3, _, _), (8, _, _), (9, _, _), (10, _, _)] rfl (KW.then_ ?_))
    refine CW.ret (KW.blockR (KW.thenR ?_))
    refine ret2 Try.results32 rfl rfl (⟨v1, by simp [chS, e2], by simpa [chS, e2] using h1, c1⟩)
  refine CW.seq (CW.region ?_)
  refine TW.eql rfl rfl rfl ct rfl ct ?_
  refine TW.assign rfl rfl rfl ct ?_
  refine TW.nil (KW.pick [0, 1, 2, 3, 8, 9, 10, 33] [(0, _, _), (1, _, _), (2, _, _), (3, _, _), (8, _, _), (9, _, _), (10, _, _), (33, _, _)] rfl (KW.then_ ?_))
  refine CW.condP rfl (fun e3 => ?_) (fun n3 => ?_)
  · refine CW.seq (CW.region ?_)
    refine TW.move rfl rfl rfl ct ?_
    refine TW.move rfl rfl rfl ct ?_
    refine TW.call0 (cap := []) rfl rfl en25 rfl (Args.cons rfl ct (Args.cons rfl ct Args.nil)) ((reopen_c box sbF hi1 hl).mono (res_of rfl)) ?_
    rintro _ w1 ⟨v1, rfl, h1, c1⟩
    refine TW.extract rfl rfl rfl rfl ct ?_
    refine TW.extract rfl rfl rfl rfl ct ?_
    refine TW.assign rfl rfl rfl ct ?_
    refine TW.assign rfl rfl rfl ct ?_
    refine TW.nil (KW.pick [0, 1, 2, 3, 8, 9, 10] [(0, _, _), (1, _, _), (2, _, _), (3, _, _), (8, _, _), (9, _, _), (10, _, _)] rfl (KW.then_ ?_))
    refine CW.ret (KW.blockR (KW.thenR ?_))
    refine ret2 Try.results32 rfl rfl (⟨v1, by simp [chS, e3], by simpa [chS, e3] using h1, c1⟩)
  have ho' := ho (by omega)
  refine CW.skip (KW.blockN (KW.then_ (CW.seq (CW.region ?_))))
  refine TW.move rfl rfl rfl ct ?_
  refine TW.move rfl rfl rfl ct ?_
  refine TW.move rfl rfl rfl ct ?_
  refine TW.rem rfl rfl rfl ct rfl ct (fun _ => by (try dsimp only); omega) ?_
  refine TW.call0 (cap := []) rfl rfl en15 rfl (Args.cons rfl ct (Args.cons rfl ct (Args.cons rfl ct Args.nil))) ((move_c box (other % 12) sbF hi1 hl).mono (res_of rfl)) ?_
  rintro _ w1 ⟨v1, rfl, h1, c1⟩
  refine TW.extract rfl rfl rfl rfl ct ?_
  refine TW.extract rfl rfl rfl rfl ct ?_
  refine TW.assign rfl rfl rfl ct ?_
  refine TW.assign rfl rfl rfl ct ?_
  refine TW.nil (KW.pick [0, 1, 2, 3, 8, 9, 10] [(0, _, _), (1, _, _), (2, _, _), (3, _, _), (8, _, _), (9, _, _), (10, _, _)] rfl (KW.then_ ?_))
  refine CW.ret ?_
  refine ret2 Try.results32 rfl rfl (⟨v1, by simp [chS, n0, n1, n2, n3], by simpa [chS, n0, n1, n2, n3] using h1, c1⟩)

set_option maxRecDepth 20000 in
theorem changes_law {w : World} {v : Value} {l : List Box} (z x y : Int) (hz0 : 0 ≤ z) (hz1 : z ≤ 255) (hx0 : 0 ≤ x) (hx1 : x ≤ 255) (hy0 : 0 ≤ y) (hy1 : y ≤ 255) (hl : SB w v l) : Gives Try.prog 7 #[v, .int .u8 z, .int .u8 x, .int .u8 y] w fun u w' => Below w.heap.size w w' ∧ u = .bool true := by
  obtain ⟨A, cap, rfl⟩ := sb_form hl
  refine gives_of (vs := [.slice A l.length cap, .int .u8 z, .int .u8 x, .int .u8 y]) [(0, none, _), (1, none, _), (2, none, _), (3, none, _)] Try.func7 rfl Try.ntmps7 rfl rfl ?_
  refine CW.seq (CW.region ?_)
  refine TW.assign rfl rfl rfl ct ?_
  refine TW.nil (KW.pick [0, 1, 2, 3, 8] [(0, _, _), (1, _, _), (2, _, _), (3, _, _), (8, _, _)] rfl (KW.then_ ?_))
  refine CW.seq (CW.region ?_)
  refine TW.callF (cap := []) rfl rfl en10 rfl ct Args.nil (fun _ => head_c) ?_
  rintro w0 b0
  refine TW.assign rfl rfl rfl ct ?_
  refine TW.nil (KW.pick [0, 1, 2, 3, 8, 9] [(0, _, _), (1, _, _), (2, _, _), (3, _, _), (8, _, _), (9, _, _)] rfl (KW.then_ ?_))
  refine CW.seq (CW.seq (CW.region ?_))
  refine TW.move rfl rfl rfl ct ?_
  have l0 := sb_step hl b0
  refine TW.callF (cap := []) rfl rfl en11 rfl ct (Args.cons rfl ct Args.nil) (fun _ => fine_c l0) ?_
  rintro w1 c1
  refine TW.not rfl rfl rfl ct ?_
  refine TW.nil (KW.pick [0, 1, 2, 3, 8, 9, 18] [(0, _, _), (1, _, _), (2, _, _), (3, _, _), (8, _, _), (9, _, _), (18, _, _)] rfl (KW.then_ ?_))
  have b1 := b0.step c1
  have l1 := sb_step l0 c1
  refine CW.cond rfl (fun hf => ?_) (fun ht => ?_)
  · refine CW.seq (CW.region ?_)
    refine TW.move rfl rfl rfl ct ?_
    refine TW.assign rfl rfl rfl ct ?_
    refine TW.nil (KW.pick [0, 1, 2, 3, 8, 9] [(0, _, _), (1, _, _), (2, _, _), (3, _, _), (8, _, _), (9, _, _)] rfl (KW.then_ ?_))
    refine CW.ret (KW.thenR ?_)
    refine ret1 Try.results7 rfl (⟨b1, rfl⟩)
  have hok := dec_iff.1 (by simpa using ht)
  obtain ⟨hfew, hpos, hv⟩ := hok
  have hwz := wrap_fits (z := z) (by omega)
  have hwx := wrap_fits (z := x) (by omega)
  have hwy := wrap_fits (z := y) (by omega)
  have hlen := hv.few
  obtain ⟨k, hkz, hk0, hk1⟩ : ∃ k : Int, IntKind.i64.wrap z % 5 = k ∧ 0 ≤ k ∧ k ≤ 4 := ⟨_, rfl, by omega, by omega⟩
  obtain ⟨bn, hbn⟩ : ∃ bn : Nat, IntKind.i64.wrap x % (l.length : Int) = bn := ⟨(IntKind.i64.wrap x % (l.length : Int)).toNat, by rw [Int.toNat_of_nonneg (Int.emod_nonneg _ (by omega))]⟩
  have hbl : bn < l.length := by have := Int.emod_lt_of_pos (IntKind.i64.wrap x) (show (0 : Int) < l.length by omega); omega
  obtain ⟨on, hon⟩ : ∃ on : Nat, IntKind.i64.wrap y % (l.length : Int) = on := ⟨(IntKind.i64.wrap y % (l.length : Int)).toNat, by rw [Int.toNat_of_nonneg (Int.emod_nonneg _ (by omega))]⟩
  have hol : on < l.length := by have := Int.emod_lt_of_pos (IntKind.i64.wrap y) (show (0 : Int) < l.length by omega); omega
  obtain ⟨bb, hbb⟩ : ∃ q, l[bn]? = some q := ⟨l[bn], List.getElem?_eq_getElem hbl⟩
  obtain ⟨ad, hAd, _⟩ := box_at l1 hbb
  subst hAd
  refine CW.skip (KW.then_ (CW.seq (CW.region ?_)))
  refine TW.move rfl rfl rfl ct ?_
  refine TW.conv rfl rfl rfl Try.underlying3 rfl ct ?_
  refine TW.rem rfl rfl rfl ct rfl ct (fun _ => by (try dsimp only); omega) ?_
  refine TW.assign rfl rfl rfl ct ?_
  refine TW.nil (KW.pick [0, 1, 2, 3, 8, 9, 10] [(0, _, _), (1, _, _), (2, _, _), (3, _, _), (8, _, _), (9, _, _), (10, _, _)] rfl (KW.then_ ?_))
  refine CW.seq (CW.region ?_)
  refine TW.move rfl rfl rfl ct ?_
  refine TW.conv rfl rfl rfl Try.underlying3 rfl ct ?_
  refine TW.move rfl rfl rfl ct ?_
  refine TW.lenSlice rfl rfl Try.underlying22 rfl ct ?_
  refine TW.rem rfl rfl rfl ct rfl ct (fun _ => by (try dsimp only); omega) ?_
  refine TW.assign rfl rfl rfl ct ?_
  refine TW.nil (KW.pick [0, 1, 2, 3, 8, 9, 10, 11] [(0, _, _), (1, _, _), (2, _, _), (3, _, _), (8, _, _), (9, _, _), (10, _, _), (11, _, _)] rfl (KW.then_ ?_))
  refine CW.seq (CW.region ?_)
  refine TW.move rfl rfl rfl ct ?_
  refine TW.move rfl rfl rfl ct ?_
  refine TW.move rfl rfl rfl ct ?_
  refine TW.move rfl rfl rfl ct ?_
  refine TW.conv rfl rfl rfl Try.underlying3 rfl ct ?_
  refine TW.move rfl rfl rfl ct ?_
  refine TW.lenSlice rfl rfl Try.underlying22 rfl ct ?_
  refine TW.rem rfl rfl rfl ct rfl ct (fun _ => by (try dsimp only); omega) ?_
  rw [hkz, hbn, hon]
  obtain ⟨r, hr⟩ : ∃ r, chS l k (bn : Int) (on : Int) = r := ⟨_, rfl⟩
  obtain ⟨m, e⟩ := r
  refine TW.call0 (cap := []) rfl rfl en32 rfl (Args.cons rfl ct (Args.cons rfl ct (Args.cons rfl ct (Args.cons rfl ct Args.nil)))) (changed_c k (bn : Int) (on : Int) hk0 hk1 (nat_i64 hbl (by omega)) (nat_i64 hol (by omega)) (fun _ => by omega) l1) ?_
  rintro _ w2 ⟨vm, rfl, hm2, c2⟩
  rw [hr] at hm2 ⊢
  have b2 := b1.step c2
  have l2 := sb_step l1 c2
  obtain ⟨Am, cm, rfl⟩ := sb_form hm2
  have hw := ch_went hv ⟨hk0, hk1⟩ hbl hr
  refine TW.move rfl rfl rfl ct ?_
  refine TW.extract rfl rfl rfl rfl ct ?_
  refine TW.extract rfl rfl rfl rfl ct ?_
  refine TW.assign rfl rfl rfl ct ?_
  refine TW.assign rfl rfl rfl ct ?_
  refine TW.nil (KW.pick [0, 1, 2, 3, 8, 9, 10, 11, 12, 13] [(0, _, _), (1, _, _), (2, _, _), (3, _, _), (8, _, _), (9, _, _), (10, _, _), (11, _, _), (12, _, _), (13, _, _)] rfl (KW.then_ ?_))
  refine CW.seq (CW.seq (CW.region ?_))
  refine TW.move rfl rfl rfl ct ?_
  refine TW.neq rfl rfl rfl ct rfl ct ?_
  refine TW.nil (KW.pick [0, 1, 2, 3, 8, 9, 10, 11, 12, 13, 41] [(0, _, _), (1, _, _), (2, _, _), (3, _, _), (8, _, _), (9, _, _), (10, _, _), (11, _, _), (12, _, _), (13, _, _), (41, _, _)] rfl (KW.then_ ?_))
  refine CW.condP rfl (fun he => ?_) (fun hne => ?_)
  · have hm : m = [] := by
      rcases hw with h | h
      · exact h.2
      · exact absurd h.1 he
    subst hm
    refine CW.seq (CW.region ?_)
    refine TW.move rfl rfl rfl ct ?_
    refine TW.move rfl rfl rfl ct ?_
    refine TW.move rfl rfl rfl ct ?_
    refine TW.lenSlice rfl rfl Try.underlying22 rfl id ?_
    refine TW.eql rfl rfl rfl id rfl ct ?_
    refine TW.pickAnd rfl rfl rfl ct rfl pAnd0 ?_
    refine TW.assign rfl rfl rfl ct ?_
    refine TW.nil (KW.pick [0, 1, 2, 3, 8, 9, 10, 11, 12, 13] [(0, _, _), (1, _, _), (2, _, _), (3, _, _), (8, _, _), (9, _, _), (10, _, _), (11, _, _), (12, _, _), (13, _, _)] rfl (KW.then_ ?_))
    refine CW.ret (KW.thenR ?_)
    refine ret1 Try.results7 rfl (⟨b2, by simp⟩)
  have hwent : Went l m k bn on := by
    rcases hw with h | h
    · exact absurd h.1 hne
    · exact h.2
  have hst := went_step hv hwent
  refine CW.skip (KW.then_ (CW.seq (CW.seq (CW.region ?_))))
  refine TW.move rfl rfl rfl ct ?_
  refine TW.lenSlice rfl rfl Try.underlying22 rfl ct ?_
  refine TW.move rfl rfl rfl ct ?_
  refine TW.lenSlice rfl rfl Try.underlying22 rfl ct ?_
  refine TW.neq rfl rfl rfl ct rfl ct ?_
  refine TW.move rfl rfl rfl ct ?_
  refine TW.move rfl rfl rfl ct ?_
  refine TW.callF (cap := []) rfl rfl en28 rfl ct (Args.cons rfl id Args.nil) (fun _ => valid_c hm2) ?_
  rintro w3 c3
  refine TW.not rfl rfl rfl id ?_
  refine TW.pickOr rfl rfl rfl ct rfl pOr0 ?_
  refine TW.move rfl rfl rfl ct ?_
  refine TW.move rfl rfl rfl ct ?_
  refine TW.callF (cap := []) rfl rfl en29 rfl ct (Args.cons rfl id Args.nil) (fun _ => rvalid_c (sb_step hm2 c3)) ?_
  rintro w4 c4
  refine TW.not rfl rfl rfl id ?_
  refine TW.pickOr rfl rfl rfl ct rfl pOr0 ?_
  refine TW.nil (KW.pick [0, 1, 2, 3, 8, 9, 10, 11, 12, 13, 62] [(0, _, _), (1, _, _), (2, _, _), (3, _, _), (8, _, _), (9, _, _), (10, _, _), (11, _, _), (12, _, _), (13, _, _), (62, _, _)] rfl (KW.then_ ?_))
  have b4 := (b2.step c3).step c4
  have l4 := sb_step (sb_step l2 c3) c4
  have m4 := sb_step (sb_step hm2 c3) c4
  refine CW.cond rfl (fun hbad => ?_) (fun hgood => ?_)
  · exfalso
    simp [dec_pos hst.valid, hst.len] at hbad
  clear hgood
  refine CW.skip (KW.then_ (CW.seq (CW.seq (CW.region ?_))))
  refine TW.assign rfl rfl rfl ct ?_
  refine TW.nil (KW.pick [0, 1, 2, 3, 8, 9, 10, 11, 12, 13, 14] [(0, _, _), (1, _, _), (2, _, _), (3, _, _), (8, _, _), (9, _, _), (10, _, _), (11, _, _), (12, _, _), (13, _, _), (14, _, _)] rfl (KW.then_ ?_))
  refine CW.block ?_
  refine CW.loopS (fun i : Nat => [(0, none, .slice (some ad) l.length cap), (9, none, .bool true), (10, none, .int .i64 k), (11, none, .int .i64 (bn : Int)), (12, none, .slice Am m.length cm), (14, none, .int .i64 (i : Int))])
    (fun i W => i ≤ l.length ∧ Below w4.heap.size w4 W) (fun i => l.length - i) 0 [0, 9, 10, 11, 12, 14] ⟨by omega, Below.refl _ _⟩ rfl ?_
  rintro i W ⟨hi, hbW⟩
  have lW := sb_step l4 hbW
  have mW := sb_step m4 hbW
  refine CW.seq (CW.seq (CW.region ?_))
  refine TW.move rfl rfl rfl ct ?_
  refine TW.move rfl rfl rfl ct ?_
  refine TW.lenSlice rfl rfl Try.underlying22 rfl ct ?_
  refine TW.lss rfl rfl rfl ct rfl ct ?_
  refine TW.nil (KW.pick [0, 9, 10, 11, 12, 14, 66] [(0, _, _), (9, _, _), (10, _, _), (11, _, _), (12, _, _), (14, _, _), (66, _, _)] rfl (KW.then_ ?_))
  refine CW.condP rfl (fun hlt => ?_) (fun hge => ?_)
  · have hil : i < l.length := by omega
    have hml := hst.len
    obtain ⟨c, hc⟩ : ∃ q, l[i]? = some q := ⟨l[i], List.getElem?_eq_getElem hil⟩
    obtain ⟨d, hd, e1, e2, e3, e4, e5⟩ := hst.each i c hc
    obtain ⟨adm, hAm, _⟩ := box_at mW hd
    subst hAm
    refine CW.skip (KW.then_ (CW.seq (CW.block (CW.seq (CW.seq (CW.draw mixed (by kernel_rfl) ?_))))))
    refine DW.move rfl rfl rfl ct ?_
    refine DW.move rfl rfl rfl ct ?_
    refine DW.indexAddr rfl rfl Try.underlying22 sz28 rfl ct rfl ct (fun _ => by (try dsimp only); omega) ?_
    refine DW.fieldAddr rfl rfl fo28_0 rfl ct ?_
    refine DW.load rfl rfl one9 rfl ct (fun _ => box_cell mW hd rfl) ?_
    refine DW.move rfl rfl rfl ct ?_
    refine DW.move rfl rfl rfl ct ?_
    refine DW.indexAddr rfl rfl Try.underlying22 sz28 rfl ct rfl ct (fun _ => by (try dsimp only); omega) ?_
    refine DW.fieldAddr rfl rfl fo28_0 rfl ct ?_
    refine DW.load rfl rfl one9 rfl ct (fun _ => box_cell lW hc rfl) ?_
    refine DW.neqS rfl rfl rfl ct rfl ct ?_
    refine DW.move rfl rfl rfl ct ?_
    refine DW.move rfl rfl rfl ct ?_
    refine DW.move rfl rfl rfl ct ?_
    refine DW.indexAddr rfl rfl Try.underlying22 sz28 rfl id rfl id (fun _ => by (try dsimp only); omega) ?_
    refine DW.fieldAddr rfl rfl fo28_1 rfl id ?_
    refine DW.load rfl rfl one3 rfl id (fun _ => box_cell mW hd rfl) ?_
    refine DW.move rfl rfl rfl ct ?_
    refine DW.move rfl rfl rfl ct ?_
    refine DW.indexAddr rfl rfl Try.underlying22 sz28 rfl id rfl id (fun _ => by (try dsimp only); omega) ?_
    refine DW.fieldAddr rfl rfl fo28_1 rfl id ?_
    refine DW.load rfl rfl one3 rfl id (fun _ => box_cell lW hc rfl) ?_
    refine DW.neq rfl rfl rfl id rfl id ?_
    refine DW.pickOr rfl rfl rfl ct rfl pOr0 ?_
    refine DW.move rfl rfl rfl ct ?_
    refine DW.move rfl rfl rfl ct ?_
    refine DW.move rfl rfl rfl ct ?_
    refine DW.indexAddr rfl rfl Try.underlying22 sz28 rfl id rfl id (fun _ => by (try dsimp only); omega) ?_
    refine DW.fieldAddr rfl rfl fo28_3 rfl id ?_
    refine DW.load rfl rfl one3 rfl id (fun _ => box_cell mW hd rfl) ?_
    refine DW.move rfl rfl rfl ct ?_
    refine DW.move rfl rfl rfl ct ?_
    refine DW.indexAddr rfl rfl Try.underlying22 sz28 rfl id rfl id (fun _ => by (try dsimp only); omega) ?_
    refine DW.fieldAddr rfl rfl fo28_3 rfl id ?_
    refine DW.load rfl rfl one3 rfl id (fun _ => box_cell lW hc rfl) ?_
    refine DW.neq rfl rfl rfl id rfl id ?_
    refine DW.move rfl rfl rfl id ?_
    refine DW.move rfl rfl rfl ct ?_
    refine DW.neq rfl rfl rfl id rfl ct ?_
    refine DW.pickAnd rfl rfl rfl id rfl pAnd1 ?_
    refine DW.pickOr rfl rfl rfl ct rfl pOr0 ?_
    refine DW.nil (DW.fin [0, 9, 10, 11, 12, 14, 109] [(0, _, _), (9, _, _), (10, _, _), (11, _, _), (12, _, _), (14, _, _), (109, _, _)] rfl (fun w5 c5 => KW.then_ ?_))
    have l5 := sb_step lW c5
    have m5 := sb_step mW c5
    refine CW.cond rfl (fun hbad => ?_) (fun hgood => ?_)
    · exfalso
      simp [e1, e2] at hbad
      exact hbad.1 (e3 hbad.2)
    refine CW.skip (KW.then_ (CW.seq (CW.draw mixed (by kernel_rfl) ?_)))
    refine DW.move rfl rfl rfl ct ?_
    refine DW.move rfl rfl rfl ct ?_
    refine DW.neq rfl rfl rfl ct rfl ct ?_
    refine DW.move rfl rfl rfl ct ?_
    refine DW.move rfl rfl rfl ct ?_
    refine DW.gtr rfl rfl rfl id rfl ct ?_
    refine DW.pickOr rfl rfl rfl ct rfl pOr0 ?_
    refine DW.move rfl rfl rfl ct ?_
    refine DW.move rfl rfl rfl ct ?_
    refine DW.move rfl rfl rfl ct ?_
    refine DW.indexAddr rfl rfl Try.underlying22 sz28 rfl id rfl id (fun _ => by (try dsimp only); omega) ?_
    refine DW.fieldAddr rfl rfl fo28_2 rfl id ?_
    refine DW.load rfl rfl one3 rfl id (fun _ => box_cell m5 hd rfl) ?_
    refine DW.move rfl rfl rfl ct ?_
    refine DW.move rfl rfl rfl ct ?_
    refine DW.indexAddr rfl rfl Try.underlying22 sz28 rfl id rfl id (fun _ => by (try dsimp only); omega) ?_
    refine DW.fieldAddr rfl rfl fo28_2 rfl id ?_
    refine DW.load rfl rfl one3 rfl id (fun _ => box_cell l5 hc rfl) ?_
    refine DW.neq rfl rfl rfl id rfl id ?_
    refine DW.pickAnd rfl rfl rfl ct rfl pAnd0 ?_
    refine DW.move rfl rfl rfl ct ?_
    refine DW.move rfl rfl rfl ct ?_
    refine DW.move rfl rfl rfl ct ?_
    refine DW.neq rfl rfl rfl id rfl id ?_
    refine DW.move rfl rfl rfl id ?_
    refine DW.move rfl rfl rfl ct ?_
    refine DW.neq rfl rfl rfl id rfl ct ?_
    refine DW.move rfl rfl rfl id ?_
    refine DW.move rfl rfl rfl ct ?_
    refine DW.neq rfl rfl rfl id rfl ct ?_
    refine DW.pickAnd rfl rfl rfl id rfl pAnd1 ?_
    refine DW.pickOr rfl rfl rfl id rfl pOr1 ?_
    refine DW.move rfl rfl rfl id ?_
    refine DW.move rfl rfl rfl ct ?_
    refine DW.move rfl rfl rfl ct ?_
    refine DW.indexAddr rfl rfl Try.underlying22 sz28 rfl id rfl id (fun _ => by (try dsimp only); omega) ?_
    refine DW.fieldAddr rfl rfl fo28_4 rfl id ?_
    refine DW.load rfl rfl one4 rfl id (fun _ => box_cell m5 hd rfl) ?_
    refine DW.move rfl rfl rfl ct ?_
    refine DW.move rfl rfl rfl ct ?_
    refine DW.indexAddr rfl rfl Try.underlying22 sz28 rfl id rfl id (fun _ => by (try dsimp only); omega) ?_
    refine DW.fieldAddr rfl rfl fo28_4 rfl id ?_
    refine DW.load rfl rfl one4 rfl id (fun _ => box_cell l5 hc rfl) ?_
    refine DW.neqB rfl rfl Try.underlying4 rfl id rfl id ?_
    refine DW.pickAnd rfl rfl rfl id rfl pAnd1 ?_
    refine DW.pickOr rfl rfl rfl ct rfl pOr0 ?_
    refine DW.nil (DW.fin [0, 9, 10, 11, 12, 14, 155] [(0, _, _), (9, _, _), (10, _, _), (11, _, _), (12, _, _), (14, _, _), (155, _, _)] rfl (fun w6 c6 => KW.then_ ?_))
    refine CW.cond rfl (fun hbad2 => ?_) (fun hgood2 => ?_)
    · exfalso
      simp at hbad2
      rcases hbad2 with ⟨h1, h2⟩ | ⟨h1, h2⟩
      · exact h2 (e4 (h1.imp (fun h e => h (by omega)) id))
      · exact h2 (e5 (h1.imp (fun h e => h (by omega)) id))
    refine CW.skip (KW.blockN (KW.then_ (CW.region ?_)))
    refine TW.move rfl rfl rfl ct ?_
    refine TW.add rfl rfl rfl ct rfl ct (fun _ => by (try dsimp only); omega) ?_
    refine TW.assign rfl rfl rfl ct ?_
    refine TW.nil (KW.pick [0, 9, 10, 11, 12, 14] [(0, _, _), (9, _, _), (10, _, _), (11, _, _), (12, _, _), (14, _, _)] rfl ?_)
    refine KW.round (i + 1) [0, 9, 10, 11, 12, 14] rfl ⟨by omega, (hbW.step c5).step c6⟩ (by omega)
  · refine CW.exit (KW.thenX (KW.thenX (KW.blockX (KW.then_ (CW.seq (CW.region ?_))))))
    refine TW.move rfl rfl rfl ct ?_
    refine TW.assign rfl rfl rfl ct ?_
    refine TW.nil (KW.pick [0, 8, 9, 10, 11, 12, 14] [(0, _, _), (8, _, _), (9, _, _), (10, _, _), (11, _, _), (12, _, _), (14, _, _)] rfl (KW.then_ ?_))
    refine CW.ret ?_
    refine ret1 Try.results7 rfl (⟨b4.step hbW, rfl⟩)
end Go.Proofs.Ytegmhdabedgloaa
