import Derived.Test.YtegmhdabedgloaaZb
import Derived.Test.YtegmhdabedgloaaPres
namespace Go.Proofs.Ytegmhdabedgloaa
open Go.PF Go.RowKit

set_option maxRecDepth 20000 in
theorem places_law {w : World} {v : Value} {l : List Box} (x y : Int) (hx0 : 0 ≤ x) (hx1 : x ≤ 255) (hy0 : 0 ≤ y) (hy1 : y ≤ 255) (hl : SB w v l) : Gives Try.prog 5 #[v, .int .u8 x, .int .u8 y] w fun u w' => Below w.heap.size w w' ∧ u = .bool true := by
  obtain ⟨A, cap, rfl⟩ := sb_form hl
  refine gives_of (vs := [.slice A l.length cap, .int .u8 x, .int .u8 y]) [(0, none, _), (1, none, _), (2, none, _)] Try.func5 rfl Try.ntmps5 rfl rfl ?_
  refine CW.seq (CW.region ?_)
  refine TW.assign rfl rfl rfl ct ?_
  refine TW.nil (KW.pick [0, 1, 2, 6] [(0, _, _), (1, _, _), (2, _, _), (6, _, _)] rfl (KW.then_ ?_))
  refine CW.seq (CW.region ?_)
  refine TW.callF (cap := []) rfl rfl en10 rfl ct Args.nil (fun _ => head_c) ?_
  rintro w0 b0
  refine TW.assign rfl rfl rfl ct ?_
  refine TW.nil (KW.pick [0, 1, 2, 6, 7] [(0, _, _), (1, _, _), (2, _, _), (6, _, _), (7, _, _)] rfl (KW.then_ ?_))
  refine CW.seq (CW.seq (CW.region ?_))
  refine TW.move rfl rfl rfl ct ?_
  have l0 := sb_step hl b0
  refine TW.callF (cap := []) rfl rfl en11 rfl ct (Args.cons rfl ct Args.nil) (fun _ => fine_c l0) ?_
  rintro w1 c1
  refine TW.not rfl rfl rfl ct ?_
  refine TW.nil (KW.pick [0, 1, 2, 6, 7, 18] [(0, _, _), (1, _, _), (2, _, _), (6, _, _), (7, _, _), (18, _, _)] rfl (KW.then_ ?_))
  have b1 := b0.step c1
  have l1 := sb_step l0 c1
  refine CW.cond rfl (fun hf => ?_) (fun ht => ?_)
  · refine CW.seq (CW.region ?_)
    refine TW.move rfl rfl rfl ct ?_
    refine TW.assign rfl rfl rfl ct ?_
    refine TW.nil (KW.pick [0, 1, 2, 6, 7] [(0, _, _), (1, _, _), (2, _, _), (6, _, _), (7, _, _)] rfl (KW.then_ ?_))
    refine CW.ret (KW.thenR ?_)
    refine ret1 Try.results5 rfl (⟨b1, rfl⟩)
  have hok := dec_iff.1 (by simpa using ht)
  obtain ⟨hfew, hpos, hv⟩ := hok
  have hwx := wrap_fits (z := x) (by omega)
  have hwy := wrap_fits (z := y) (by omega)
  have hlen := hv.few
  obtain ⟨bn, hbn⟩ : ∃ bn : Nat, IntKind.i64.wrap x % (l.length : Int) = bn := ⟨(IntKind.i64.wrap x % (l.length : Int)).toNat, by rw [Int.toNat_of_nonneg (Int.emod_nonneg _ (by omega))]⟩
  have hbl : bn < l.length := by have := Int.emod_lt_of_pos (IntKind.i64.wrap x) (show (0 : Int) < l.length by omega); omega
  obtain ⟨to', hto, ht0, ht1⟩ : ∃ to' : Int, IntKind.i64.wrap y % 12 = to' ∧ 0 ≤ to' ∧ to' ≤ 11 := ⟨_, rfl, by omega, by omega⟩
  obtain ⟨bb, hbb⟩ : ∃ q, l[bn]? = some q := ⟨l[bn], List.getElem?_eq_getElem hbl⟩
  obtain ⟨ad, hAd, _⟩ := box_at l1 hbb
  subst hAd
  have hokb := hv.each _ _ hbb
  have hmv : moveS l (bn : Int) to' = if 0 ≤ bb.parent then ([], 150) else (moved l bn to' l.length, 0) := by
    unfold moveS
    rw [if_neg (by simp only [Classical.not_not]; exact ⟨⟨hv, by omega, by omega⟩, ht0, ht1⟩)]
    simp [hbb]
  refine CW.skip (KW.then_ (CW.seq (CW.region ?_)))
  refine TW.move rfl rfl rfl ct ?_
  refine TW.conv rfl rfl rfl Try.underlying3 rfl ct ?_
  refine TW.move rfl rfl rfl ct ?_
  refine TW.lenSlice rfl rfl Try.underlying22 rfl ct ?_
  refine TW.rem rfl rfl rfl ct rfl ct (fun _ => by (try dsimp only); omega) ?_
  refine TW.assign rfl rfl rfl ct ?_
  refine TW.nil (KW.pick [0, 1, 2, 6, 7, 8] [(0, _, _), (1, _, _), (2, _, _), (6, _, _), (7, _, _), (8, _, _)] rfl (KW.then_ ?_))
  refine CW.seq (CW.region ?_)
  refine TW.move rfl rfl rfl ct ?_
  refine TW.conv rfl rfl rfl Try.underlying3 rfl ct ?_
  refine TW.rem rfl rfl rfl ct rfl ct (fun _ => by (try dsimp only); omega) ?_
  refine TW.assign rfl rfl rfl ct ?_
  refine TW.nil (KW.pick [0, 1, 2, 6, 7, 8, 9] [(0, _, _), (1, _, _), (2, _, _), (6, _, _), (7, _, _), (8, _, _), (9, _, _)] rfl (KW.then_ ?_))
  refine CW.seq (CW.region ?_)
  refine TW.move rfl rfl rfl ct ?_
  refine TW.move rfl rfl rfl ct ?_
  refine TW.move rfl rfl rfl ct ?_
  rw [hbn, hto]
  refine TW.call0 (cap := []) rfl rfl en15 rfl (Args.cons rfl ct (Args.cons rfl ct (Args.cons rfl ct Args.nil))) ((move_c (bn : Int) to' sbF (nat_i64 hbl (by omega)) l1).mono (res_of hmv)) ?_
  rintro _ w2 ⟨vm, rfl, hm2, c2⟩
  have b2 := b1.step c2
  have l2 := sb_step l1 c2
  refine TW.move rfl rfl rfl ct ?_
  refine TW.extract rfl rfl rfl rfl ct ?_
  refine TW.extract rfl rfl rfl rfl ct ?_
  refine TW.assign rfl rfl rfl ct ?_
  refine TW.assign rfl rfl rfl ct ?_
  refine TW.nil (KW.pick [0, 1, 2, 6, 7, 8, 9, 10, 11] [(0, _, _), (1, _, _), (2, _, _), (6, _, _), (7, _, _), (8, _, _), (9, _, _), (10, _, _), (11, _, _)] rfl (KW.then_ ?_))
  refine CW.seq (CW.seq (CW.region ?_))
  refine TW.move rfl rfl rfl ct ?_
  refine TW.move rfl rfl rfl ct ?_
  refine TW.indexAddr rfl rfl Try.underlying22 sz28 rfl ct rfl ct (fun _ => by (try dsimp only); omega) ?_
  refine TW.fieldAddr rfl rfl fo28_2 rfl ct ?_
  refine TW.load rfl rfl one3 rfl ct (fun _ => box_cell l2 hbb rfl) ?_
  refine TW.geq rfl rfl rfl ct rfl ct ?_
  refine TW.nil (KW.pick [0, 1, 2, 6, 7, 8, 9, 10, 11, 40] [(0, _, _), (1, _, _), (2, _, _), (6, _, _), (7, _, _), (8, _, _), (9, _, _), (10, _, _), (11, _, _), (40, _, _)] rfl (KW.then_ ?_))
  refine CW.condP rfl (fun hpar => ?_) (fun hnp => ?_)
  · rw [if_pos hpar] at *
    refine CW.seq (CW.region ?_)
    refine TW.move rfl rfl rfl ct ?_
    refine TW.move rfl rfl rfl ct ?_
    refine TW.move rfl rfl rfl ct ?_
    refine TW.eql rfl rfl rfl id rfl ct ?_
    refine TW.pickAnd rfl rfl rfl ct rfl (by intro hG hb; simp_all [Cnd]) ?_
    refine TW.assign rfl rfl rfl ct ?_
    refine TW.nil (KW.pick [0, 1, 2, 6, 7, 8, 9, 10, 11] [(0, _, _), (1, _, _), (2, _, _), (6, _, _), (7, _, _), (8, _, _), (9, _, _), (10, _, _), (11, _, _)] rfl (KW.then_ ?_))
    refine CW.ret (KW.thenR ?_)
    refine ret1 Try.results5 rfl (⟨b2, by simp⟩)
  rw [if_neg hnp] at *
  have hroot : bb.parent = -1 := by have := hokb.q1; omega
  obtain ⟨Am, cm, rfl⟩ := sb_form hm2
  have hml : (moved l bn to' l.length).length = l.length := moved_len _ _ _ _
  have hvm := moved_valid hv bn ht0 ht1
  have hinm : inside (moved l bn to' l.length) bn = inside l bn := inside_congr hml (moved_parent l bn to' l.length) bn
  refine CW.skip (KW.then_ (CW.seq (CW.seq (CW.region ?_))))
  refine TW.move rfl rfl rfl ct ?_
  refine TW.neq rfl rfl rfl ct rfl ct ?_
  refine TW.move rfl rfl rfl ct ?_
  refine TW.move rfl rfl rfl ct ?_
  refine TW.lenSlice rfl rfl Try.underlying22 rfl id ?_
  refine TW.move rfl rfl rfl ct ?_
  refine TW.lenSlice rfl rfl Try.underlying22 rfl id ?_
  refine TW.neq rfl rfl rfl id rfl id ?_
  refine TW.pickOr rfl rfl rfl ct rfl (by intro hG hb; simp_all [Cnd]) ?_
  refine TW.nil (KW.pick [0, 1, 2, 6, 7, 8, 9, 10, 11, 54] [(0, _, _), (1, _, _), (2, _, _), (6, _, _), (7, _, _), (8, _, _), (9, _, _), (10, _, _), (11, _, _), (54, _, _)] rfl (KW.then_ ?_))
  refine CW.cond rfl (fun hbad => ?_) (fun hgood => ?_)
  · exfalso
    simp [hml] at hbad
  refine CW.skip (KW.then_ (CW.seq (CW.region ?_)))
  refine TW.move rfl rfl rfl ct ?_
  refine TW.move rfl rfl rfl ct ?_
  refine TW.call0 (cap := []) rfl rfl en12 rfl (Args.cons rfl ct (Args.cons rfl ct Args.nil)) (inside_n bn l2 hv hbl) ?_
  rintro u w3 ⟨c3, hu⟩
  have b3 := b2.step c3
  have l3 := sb_step l2 c3
  have m3 := sb_step hm2 c3
  refine TW.assign rfl rfl rfl ct ?_
  refine TW.nil (KW.pick [0, 1, 2, 6, 7, 8, 9, 10, 11, 12] [(0, _, _), (1, _, _), (2, _, _), (6, _, _), (7, _, _), (8, _, _), (9, _, _), (10, _, _), (11, _, _), (12, _, _)] rfl (KW.then_ ?_))
  refine CW.seq (CW.seq (CW.region ?_))
  refine TW.assign rfl rfl rfl ct ?_
  refine TW.nil (KW.pick [0, 1, 2, 6, 7, 8, 9, 10, 11, 12, 13] [(0, _, _), (1, _, _), (2, _, _), (6, _, _), (7, _, _), (8, _, _), (9, _, _), (10, _, _), (11, _, _), (12, _, _), (13, _, _)] rfl (KW.then_ ?_))
  refine CW.block ?_
  refine CW.loopS (fun k : Nat => [(0, none, .slice (some ad) l.length cap), (7, none, .bool true), (8, none, .int .i64 (bn : Int)), (9, none, .int .i64 to'), (10, none, .slice Am (moved l bn to' l.length).length cm), (12, none, u), (13, none, .int .i64 (k : Int))])
    (fun k W => k ≤ l.length ∧ Below w.heap.size w W ∧ SB W (.slice (some ad) l.length cap) l ∧ SB W (.slice Am (moved l bn to' l.length).length cm) (moved l bn to' l.length) ∧ SL intT (fun k => w2.heap.size ≤ k) W u ((inside l bn).map fun (k : Nat) => (k : Int))) (fun k => l.length - k) 0 [0, 7, 8, 9, 10, 12, 13] ⟨by omega, b3, l3, m3, hu⟩ rfl ?_
  rintro k W ⟨hk, hbW, lW, mW, huW⟩
  refine CW.seq (CW.seq (CW.region ?_))
  refine TW.move rfl rfl rfl ct ?_
  refine TW.move rfl rfl rfl ct ?_
  refine TW.lenSlice rfl rfl Try.underlying22 rfl ct ?_
  refine TW.lss rfl rfl rfl ct rfl ct ?_
  refine TW.nil (KW.pick [0, 7, 8, 9, 10, 12, 13, 61] [(0, _, _), (7, _, _), (8, _, _), (9, _, _), (10, _, _), (12, _, _), (13, _, _), (61, _, _)] rfl (KW.then_ ?_))
  refine CW.condP rfl (fun hlt => ?_) (fun hge => ?_)
  · obtain ⟨c, hck⟩ : ∃ q, l[k]? = some q := ⟨l[k], List.getElem?_eq_getElem (by omega)⟩
    have hkl : k < l.length := by omega
    have hri := root_iff hv hkl hbb hroot
    refine CW.skip (KW.then_ (CW.seq (CW.block (CW.seq (CW.region ?_)))))
    refine TW.move rfl rfl rfl ct ?_
    refine TW.move rfl rfl rfl ct ?_
    refine TW.indexAddr rfl rfl Try.underlying22 sz28 rfl ct rfl ct (fun _ => by (try dsimp only); omega) ?_
    refine TW.fieldAddr rfl rfl fo28_3 rfl ct ?_
    refine TW.load rfl rfl one3 rfl ct (fun _ => box_cell lW hck rfl) ?_
    refine TW.assign rfl rfl rfl ct ?_
    refine TW.nil (KW.pick [0, 7, 8, 9, 10, 12, 13, 14] [(0, _, _), (7, _, _), (8, _, _), (9, _, _), (10, _, _), (12, _, _), (13, _, _), (14, _, _)] rfl (KW.then_ ?_))
    refine CW.seq (CW.seq (CW.region ?_))
    refine TW.move rfl rfl rfl ct ?_
    refine TW.move rfl rfl rfl ct ?_
    refine TW.eql rfl rfl rfl ct rfl ct ?_
    refine TW.move rfl rfl rfl ct ?_
    refine TW.move rfl rfl rfl ct ?_
    refine TW.move rfl rfl rfl ct ?_
    refine TW.callF (cap := []) rfl rfl en13 rfl ct (Args.cons rfl id (Args.cons rfl id Args.nil)) (fun _ => has_n k huW) ?_
    rintro w5 c5
    refine TW.pickOr rfl rfl rfl ct rfl (by intro hG hb; simp_all [Cnd]) ?_
    refine TW.nil (KW.pick [0, 7, 8, 9, 10, 12, 13, 14, 76] [(0, _, _), (7, _, _), (8, _, _), (9, _, _), (10, _, _), (12, _, _), (13, _, _), (14, _, _), (76, _, _)] rfl (KW.then_ ?_))
    have m5 := sb_step mW c5
    have hu5 := huW.below c5
    refine CW.cond rfl (fun hin => ?_) (fun hout => ?_)
    · have hmk := moved_get l bn to' l.length k c hck
      obtain ⟨adm, hAm, _⟩ := box_at m5 hmk
      subst hAm
      refine CW.region ?_
      refine TW.move rfl rfl rfl ct ?_
      refine TW.assign rfl rfl rfl ct ?_
      refine TW.nil (KW.pick [0, 7, 8, 9, 10, 12, 13, 14] [(0, _, _), (7, _, _), (8, _, _), (9, _, _), (10, _, _), (12, _, _), (13, _, _), (14, _, _)] rfl (KW.then_ ?_))
      refine CW.seq (CW.region ?_)
      refine TW.move rfl rfl rfl ct ?_
      refine TW.move rfl rfl rfl ct ?_
      refine TW.indexAddr rfl rfl Try.underlying22 sz28 rfl ct rfl ct (fun _ => by (try dsimp only); omega) ?_
      refine TW.fieldAddr rfl rfl fo28_3 rfl ct ?_
      refine TW.load rfl rfl one3 rfl ct (fun _ => box_cell m5 hmk rfl) ?_
      refine TW.move rfl rfl rfl ct ?_
      refine TW.neq rfl rfl rfl ct rfl ct ?_
      refine TW.nil (KW.pick [0, 7, 8, 9, 10, 12, 13, 14, 84] [(0, _, _), (7, _, _), (8, _, _), (9, _, _), (10, _, _), (12, _, _), (13, _, _), (14, _, _), (84, _, _)] rfl (KW.then_ ?_))
      refine CW.cond rfl (fun hbad => ?_) (fun hgood => ?_)
      · exfalso
        simp at hbad
        apply hbad
        have : root l k = bn := hri.2 (by simp at hin; rcases hin with h | h; exact .inl (by omega); exact .inr h)
        rw [if_pos ⟨hkl, this⟩]
      refine CW.skip (KW.blockN (KW.then_ (CW.region ?_)))
      refine TW.move rfl rfl rfl ct ?_
      refine TW.add rfl rfl rfl ct rfl ct (fun _ => by (try dsimp only); omega) ?_
      refine TW.assign rfl rfl rfl ct ?_
      refine TW.nil (KW.pick [0, 7, 8, 9, 10, 12, 13, 14] [(0, _, _), (7, _, _), (8, _, _), (9, _, _), (10, _, _), (12, _, _), (13, _, _), (14, _, _)] rfl ?_)
      refine KW.round (k + 1) [0, 7, 8, 9, 10, 12, 13] rfl ⟨by omega, hbW.step c5, sb_step lW c5, m5, hu5⟩ (by omega)
    · have hmk := moved_get l bn to' l.length k c hck
      obtain ⟨adm, hAm, _⟩ := box_at m5 hmk
      subst hAm
      refine CW.skip (KW.then_ (CW.seq (CW.region ?_)))
      refine TW.move rfl rfl rfl ct ?_
      refine TW.move rfl rfl rfl ct ?_
      refine TW.indexAddr rfl rfl Try.underlying22 sz28 rfl ct rfl ct (fun _ => by (try dsimp only); omega) ?_
      refine TW.fieldAddr rfl rfl fo28_3 rfl ct ?_
      refine TW.load rfl rfl one3 rfl ct (fun _ => box_cell m5 hmk rfl) ?_
      refine TW.move rfl rfl rfl ct ?_
      refine TW.neq rfl rfl rfl ct rfl ct ?_
      refine TW.nil (KW.pick [0, 7, 8, 9, 10, 12, 13, 14, 84] [(0, _, _), (7, _, _), (8, _, _), (9, _, _), (10, _, _), (12, _, _), (13, _, _), (14, _, _), (84, _, _)] rfl (KW.then_ ?_))
      refine CW.cond rfl (fun hbad => ?_) (fun hgood => ?_)
      · exfalso
        simp at hbad
        apply hbad
        have : ¬ root l k = bn := fun h => by
          have := hri.1 h
          simp at hout
          rcases this with h | h
          · omega
          · exact hout.2 h
        rw [if_neg (fun h => this h.2)]
      refine CW.skip (KW.blockN (KW.then_ (CW.region ?_)))
      refine TW.move rfl rfl rfl ct ?_
      refine TW.add rfl rfl rfl ct rfl ct (fun _ => by (try dsimp only); omega) ?_
      refine TW.assign rfl rfl rfl ct ?_
      refine TW.nil (KW.pick [0, 7, 8, 9, 10, 12, 13, 14] [(0, _, _), (7, _, _), (8, _, _), (9, _, _), (10, _, _), (12, _, _), (13, _, _), (14, _, _)] rfl ?_)
      refine KW.round (k + 1) [0, 7, 8, 9, 10, 12, 13] rfl ⟨by omega, hbW.step c5, sb_step lW c5, m5, hu5⟩ (by omega)
  · have hk' : k = l.length := by omega
    subst hk'
    refine CW.exit (KW.thenX (KW.thenX (KW.blockX (KW.then_ (CW.seq (CW.region ?_))))))
    refine TW.move rfl rfl rfl ct ?_
    refine TW.move rfl rfl rfl ct ?_
    refine TW.known rfl (by simp [Cnd]) ?_
    refine TW.move rfl rfl rfl ct ?_
    refine TW.known rfl (by simp [Cnd]) ?_
    refine TW.move rfl rfl rfl ct ?_
    refine TW.known rfl (by simp [Cnd]) ?_
    refine TW.call0 (cap := []) rfl rfl en12 rfl (Args.cons rfl ct (Args.cons rfl ct Args.nil)) (inside_n bn mW hvm (by omega)) ?_
    rintro u2 w6 ⟨c6, hu6⟩
    rw [hinm] at hu6
    refine TW.known rfl (by simp [Cnd]) ?_
    refine TW.move rfl rfl rfl ct ?_
    refine TW.known rfl (by simp [Cnd]) ?_
    refine TW.callF (cap := []) rfl rfl en16 rfl ct (Args.cons rfl ct (Args.cons rfl ct Args.nil)) (fun _ => rints_c hu6 (huW.below c6)) ?_
    rintro w7 c7
    refine TW.pickAnd rfl rfl rfl ct rfl (by intro hG hb; simp_all [Cnd]) ?_
    refine TW.assign rfl rfl rfl ct ?_
    refine TW.nil (KW.pick [0, 6, 7, 8, 9, 10, 12, 13] [(0, _, _), (6, _, _), (7, _, _), (8, _, _), (9, _, _), (10, _, _), (12, _, _), (13, _, _)] rfl (KW.then_ ?_))
    refine CW.ret ?_
    refine ret1 Try.results5 rfl (⟨(hbW.step c6).step c7, by simp⟩)
end Go.Proofs.Ytegmhdabedgloaa
