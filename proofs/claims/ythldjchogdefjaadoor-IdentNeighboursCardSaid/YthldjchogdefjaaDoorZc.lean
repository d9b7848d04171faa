import Derived.Test.YthldjchogdefjaaDoorN
namespace Go.Proofs.YthldjchogdefjaaDoor
open Go.PF Go.RowKit

/-- two neighbouring bytes exchanged -/
def swp (s : ByteArray) (i : Nat) : ByteArray := s.extract 0 i ++ s.extract (i + 1) (i + 2) ++ s.extract i (i + 1) ++ s.extract (i + 2) s.size
theorem swp_at {s : ByteArray} (hs : s.size = 13) {i : Nat} (hi : i + 1 < 13) : bt (swp s i) i = bt s (i + 1) ∧ bt (swp s i) (i + 1) = bt s i ∧ ∀ k, k < 13 → k ≠ i → k ≠ i + 1 → bt (swp s i) k = bt s k := by
  have s1 : (s.extract 0 i).size = i := by rw [size_extract' s 0 i (by omega)]; omega
  have s2 : (s.extract (i + 1) (i + 2)).size = 1 := by rw [size_extract' s _ _ (by omega)]; omega
  have s3 : (s.extract i (i + 1)).size = 1 := by rw [size_extract' s _ _ (by omega)]; omega
  have t1 : (s.extract 0 i ++ s.extract (i + 1) (i + 2)).size = i + 1 := by rw [ByteArray.size_append, s1, s2]
  have t2 : (s.extract 0 i ++ s.extract (i + 1) (i + 2) ++ s.extract i (i + 1)).size = i + 2 := by rw [ByteArray.size_append, t1, s3]
  unfold swp
  refine ⟨?_, ?_, fun k hk h1 h2 => ?_⟩
  · rw [bt_append_l _ _ (by omega), bt_append_l _ _ (by omega)]
    have := bt_append_r (s.extract 0 i) (s.extract (i + 1) (i + 2)) 0
    rw [s1] at this
    refine this.trans ?_
    rw [bt_extract s _ _ 0 (by omega) (by omega)]
  · rw [bt_append_l _ _ (by omega)]
    have := bt_append_r (s.extract 0 i ++ s.extract (i + 1) (i + 2)) (s.extract i (i + 1)) 0
    rw [t1] at this
    refine this.trans ?_
    rw [bt_extract s _ _ 0 (by omega) (by omega), Nat.add_zero]
  · by_cases hki : k < i
    · rw [bt_append_l _ _ (by omega), bt_append_l _ _ (by omega), bt_append_l _ _ (by omega), bt_extract s 0 i k (by omega) (by omega)]
      simp
    · obtain ⟨j, rfl⟩ : ∃ j, k = (i + 2) + j := ⟨k - (i + 2), by omega⟩
      have := bt_append_r (s.extract 0 i ++ s.extract (i + 1) (i + 2) ++ s.extract i (i + 1)) (s.extract (i + 2) s.size) j
      rw [t2] at this
      rw [this, bt_extract s _ _ j (by omega) (by omega)]

set_option maxRecDepth 20000 in
theorem neighbours_law {w : World} (s : ByteArray) (x : Int) (hx0 : 0 ≤ x) (hx1 : x ≤ 255) (ht : Tabs w) : Gives Tryd.prog 8 #[.string s, .int .u8 x] w fun u w' => Below w.heap.size w w' ∧ u = .bool true := by
  refine gives_of (vs := [.string s, .int .u8 x]) [(0, none, _), (1, none, _)] Tryd.func8 rfl Tryd.ntmps8 rfl rfl ?_
  refine CW.seq (CW.region ?_)
  refine TW.assign rfl rfl rfl ct ?_
  refine TW.nil (KW.pick [0, 1, 4] [(0, _, _), (1, _, _), (4, _, _)] rfl (KW.then_ ?_))
  refine CW.seq (CW.region ?_)
  refine TW.callF (cap := []) rfl rfl en9 rfl ct Args.nil (fun _ => head_c ht) ?_
  rintro w1 b1
  refine TW.assign rfl rfl rfl ct ?_
  refine TW.nil (KW.pick [0, 1, 4, 5] [(0, _, _), (1, _, _), (4, _, _), (5, _, _)] rfl (KW.then_ ?_))
  refine CW.seq (CW.seq (CW.region ?_))
  refine TW.move rfl rfl rfl ct ?_
  refine TW.lenString rfl rfl Tryd.underlying9 rfl ct ?_
  refine TW.gtr rfl rfl rfl ct rfl ct ?_
  refine TW.move rfl rfl rfl ct ?_
  refine TW.move rfl rfl rfl ct ?_
  have t1 := ht.below b1
  refine TW.callF (cap := []) rfl rfl en16 rfl ct (Args.cons rfl id Args.nil) (fun _ => valid_c _ t1) ?_
  rintro w2 c2
  refine TW.not rfl rfl rfl id ?_
  refine TW.pickOr rfl rfl rfl ct rfl pOr0 ?_
  refine TW.nil (KW.pick [0, 1, 4, 5, 16] [(0, _, _), (1, _, _), (4, _, _), (5, _, _), (16, _, _)] rfl (KW.then_ ?_))
  have t2 := t1.below c2
  have b2 := b1.step c2
  refine CW.cond rfl (fun hx => ?_) (fun hy => ?_)
  · refine CW.seq (CW.region ?_)
    refine TW.move rfl rfl rfl ct ?_
    refine TW.assign rfl rfl rfl ct ?_
    refine TW.nil (KW.pick [0, 1, 4, 5] [(0, _, _), (1, _, _), (4, _, _), (5, _, _)] rfl (KW.then_ ?_))
    refine CW.ret (KW.thenR ?_)
    refine ret1 Tryd.results8 rfl (⟨b2, rfl⟩)
  have hv : Val s := by
    by_cases h : Val s
    · exact h
    · rw [dec_neg h] at hy; simp at hy
  have hsh := (val_iff.1 hv).1
  have hs := hsh.size
  have hwx := wrap_fits (z := x) (by omega)
  obtain ⟨p, hp⟩ : ∃ p : Nat, IntKind.i64.wrap x % 7 = p := ⟨(IntKind.i64.wrap x % 7).toNat, by omega⟩
  have hp7 : p < 7 := by omega
  have hsum : (2 : Int) + (p : Int) = ((2 + p : Nat) : Int) := by omega
  refine CW.skip (KW.then_ (CW.seq (CW.region ?_)))
  refine TW.move rfl rfl rfl ct ?_
  refine TW.conv rfl rfl rfl Tryd.underlying3 rfl ct ?_
  refine TW.rem rfl rfl rfl ct rfl ct (fun _ => by (try dsimp only); omega) ?_
  refine TW.add rfl rfl rfl ct rfl ct (fun _ => by (try dsimp only); omega) ?_
  refine TW.assign rfl rfl rfl ct ?_
  refine TW.nil (KW.pick [0, 1, 4, 5, 6] [(0, _, _), (1, _, _), (4, _, _), (5, _, _), (6, _, _)] rfl (KW.then_ ?_))
  refine CW.seq (CW.seq (CW.draw mixed (by kernel_rfl) ?_))
  refine DW.move rfl rfl rfl ct ?_
  refine DW.move rfl rfl rfl ct ?_
  refine DW.index rfl rfl Tryd.underlying9 rfl ct rfl ct (fun _ => by (try dsimp only); omega) ?_
  refine DW.move rfl rfl rfl ct ?_
  refine DW.move rfl rfl rfl ct ?_
  refine DW.add rfl rfl rfl ct rfl ct (fun _ => by (try dsimp only); omega) ?_
  refine DW.index rfl rfl Tryd.underlying9 rfl ct rfl ct (fun _ => by (try dsimp only); omega) ?_
  refine DW.eql rfl rfl rfl ct rfl ct ?_
  refine DW.move rfl rfl rfl ct ?_
  refine DW.move rfl rfl rfl ct ?_
  refine DW.index rfl rfl Tryd.underlying9 rfl id rfl ct (fun h => by (try dsimp only); first | omega | (simp [Cnd] at h; omega)) ?_
  refine DW.eql rfl rfl rfl id rfl ct ?_
  refine DW.pickOr rfl rfl rfl ct rfl pOr0 ?_
  rw [hp, hsum]
  have e1 : (((s.data.getD ((2 + p : Nat) : Int).toNat 0).toNat : Int)) = bt s (2 + p) := rfl
  have e2 : (((s.data.getD (((2 + p : Nat) : Int) + 1).toNat 0).toNat : Int)) = bt s (3 + p) := by unfold bt; rw [show (((2 + p : Nat) : Int) + 1).toNat = 3 + p by omega]
  have e3 : (((s.data.getD (10 : Int).toNat 0).toNat : Int)) = bt s 10 := rfl
  refine DW.nil (DW.fin [0, 1, 4, 5, 6, 34] [(0, _, _), (1, _, _), (4, _, _), (5, _, _), (6, _, _), (34, _, _)] rfl (fun w3 c3 => KW.then_ ?_))
  rw [e1, e2, e3]
  have b3 := b2.step c3
  have t3 := t2.below c3
  refine CW.cond rfl (fun hskip => ?_) (fun hgo => ?_)
  · refine CW.seq (CW.region ?_)
    refine TW.move rfl rfl rfl ct ?_
    refine TW.assign rfl rfl rfl ct ?_
    refine TW.nil (KW.pick [0, 1, 4, 5, 6] [(0, _, _), (1, _, _), (4, _, _), (5, _, _), (6, _, _)] rfl (KW.then_ ?_))
    refine CW.ret (KW.thenR ?_)
    refine ret1 Tryd.results8 rfl (⟨b3, rfl⟩)
  have hne : bt s (2 + p) ≠ bt s (3 + p) := fun h => by simp [h] at hgo
  have h5 : bt s 10 ≠ 53 := fun h => by simp [h] at hgo
  have n1 : (((2 + p : Nat) : Int) + 1).toNat = 2 + p + 1 := by omega
  have n2 : (((2 + p : Nat) : Int) + 2).toNat = 2 + p + 2 := by omega
  have n0 : (((2 + p : Nat) : Int)).toNat = 2 + p := rfl
  have z1 : (s.extract 0 (2 + p)).size = 2 + p := by rw [size_extract' s 0 _ (by omega)]; omega
  have z2 : (s.extract (2 + p + 1) (2 + p + 2)).size = 1 := by rw [size_extract' s _ _ (by omega)]; omega
  have z3 : (s.extract (2 + p) (2 + p + 1)).size = 1 := by rw [size_extract' s _ _ (by omega)]; omega
  have z4 : (s.extract (2 + p + 2) s.size).size = 13 - (2 + p + 2) := by rw [size_extract' s _ _ (by omega)]; omega
  refine CW.skip (KW.then_ (CW.seq (CW.draw mixed (by kernel_rfl) ?_)))
  refine DW.move rfl rfl rfl ct ?_
  refine DW.move rfl rfl rfl ct ?_
  refine DW.sliceSH rfl rfl Tryd.underlying9 rfl ct rfl ct (fun _ => by (try dsimp only); omega) ?_
  refine DW.move rfl rfl rfl ct ?_
  refine DW.move rfl rfl rfl ct ?_
  refine DW.add rfl rfl rfl ct rfl ct (fun _ => by (try dsimp only); omega) ?_
  refine DW.move rfl rfl rfl ct ?_
  refine DW.add rfl rfl rfl ct rfl ct (fun _ => by (try dsimp only); omega) ?_
  refine DW.sliceSLH rfl rfl Tryd.underlying9 rfl ct rfl ct rfl ct (fun _ => by (try dsimp only); omega) ?_
  refine DW.addS rfl rfl rfl ct rfl ct (fun _ => by rw [n0, n1, n2, z1, z2]; omega) ?_
  refine DW.move rfl rfl rfl ct ?_
  refine DW.move rfl rfl rfl ct ?_
  refine DW.move rfl rfl rfl ct ?_
  refine DW.add rfl rfl rfl ct rfl ct (fun _ => by (try dsimp only); omega) ?_
  refine DW.sliceSLH rfl rfl Tryd.underlying9 rfl ct rfl ct rfl ct (fun _ => by (try dsimp only); omega) ?_
  refine DW.addS rfl rfl rfl ct rfl ct (fun _ => by rw [n0, n1, n2, ByteArray.size_append, z1, z2, z3]; omega) ?_
  refine DW.move rfl rfl rfl ct ?_
  refine DW.move rfl rfl rfl ct ?_
  refine DW.add rfl rfl rfl ct rfl ct (fun _ => by (try dsimp only); omega) ?_
  refine DW.sliceSL rfl rfl Tryd.underlying9 rfl ct rfl ct (fun _ => by (try dsimp only); omega) ?_
  refine DW.addS rfl rfl rfl ct rfl ct (fun _ => by rw [n0, n1, n2, ByteArray.size_append, ByteArray.size_append, z1, z2, z3, z4]; omega) ?_
  refine DW.assign rfl rfl rfl ct ?_
  refine DW.nil (DW.fin [0, 1, 4, 5, 6, 7] [(0, _, _), (1, _, _), (4, _, _), (5, _, _), (6, _, _), (7, _, _)] rfl (fun w4 c4 => KW.then_ ?_))
  refine CW.seq (CW.region ?_)
  refine TW.move rfl rfl rfl ct ?_
  refine TW.move rfl rfl rfl ct ?_
  refine TW.move rfl rfl rfl ct ?_
  have b4 := b3.step c4
  have t4 := t3.below c4
  have hswp : s.extract 0 (((2 + p : Nat) : Int)).toNat ++ s.extract (((2 + p : Nat) : Int) + 1).toNat (((2 + p : Nat) : Int) + 2).toNat ++ s.extract (((2 + p : Nat) : Int)).toNat (((2 + p : Nat) : Int) + 1).toNat ++ s.extract (((2 + p : Nat) : Int) + 2).toNat s.size = swp s (2 + p) := by
    rw [n0, n1, n2]; rfl
  rw [hswp]
  obtain ⟨q1, q2, q3⟩ := swp_at hs (i := 2 + p) (by omega)
  have hbad : ¬ Val (swp s (2 + p)) := swap_bad hv hp7 hne h5 (by rw [q1]; congr 1; omega) (by rw [show 3 + p = 2 + p + 1 by omega]; exact q2) (fun k hk h1 h2 => q3 k hk h1 (by omega))
  refine TW.known rfl (by simp [Cnd]) ?_
  refine TW.callF (cap := []) rfl rfl en16 rfl ct (Args.cons rfl (by simp_all [Cnd]) Args.nil) (fun _ => valid_f hbad t4) ?_
  rintro w5 c5
  refine TW.known rfl (by simp [Cnd]) ?_
  refine TW.not rfl rfl rfl ct ?_
  refine TW.pickAnd rfl rfl rfl ct rfl pT ?_
  refine TW.assign rfl rfl rfl ct ?_
  refine TW.nil (KW.pick [0, 1, 4, 5, 6, 7] [(0, _, _), (1, _, _), (4, _, _), (5, _, _), (6, _, _), (7, _, _)] rfl (KW.then_ ?_))
  refine CW.ret ?_
  refine ret1 Tryd.results8 rfl (⟨b4.step c5, by simp⟩)
end Go.Proofs.YthldjchogdefjaaDoor
