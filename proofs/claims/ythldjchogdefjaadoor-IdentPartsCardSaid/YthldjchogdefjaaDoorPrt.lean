/- An identifier and its parts: plain. -/
import Derived.Test.YthldjchogdefjaaDoorMis
namespace Go.Proofs.YthldjchogdefjaaDoor
open Go.PF Go.RowKit

theorem idOf_size {kind op : ByteArray} (n : Nat) (hk : kind.size = 2) (ho : op.size = 2) : (idOf kind n op).size = 13 := by
  unfold idOf
  rw [ByteArray.size_append, ByteArray.size_append, ByteArray.size_append, hk, ho, padB_size]
  rfl
theorem charB_at {n : Int} (h0 : 0 ≤ n) (h1 : n ≤ 9) : bt (charB n) 0 = 48 + n := by
  obtain rfl | rfl | rfl | rfl | rfl | rfl | rfl | rfl | rfl | rfl : n = 0 ∨ n = 1 ∨ n = 2 ∨ n = 3 ∨ n = 4 ∨ n = 5 ∨ n = 6 ∨ n = 7 ∨ n = 8 ∨ n = 9 := by omega
  all_goals rfl
theorem idOf_at {kind op : ByteArray} (n : Nat) (hk : kind.size = 2) (ho : op.size = 2) : (∀ i, i < 2 → bt (idOf kind n op) i = bt kind i) ∧ (∀ i, i < 8 → bt (idOf kind n op) (2 + i) = bt (padB n) i) ∧ bt (idOf kind n op) 10 = 48 + chk (wsum (padB n) 8) ∧ ∀ i, bt (idOf kind n op) (11 + i) = bt op i := by
  have hp := padB_size n
  have hc : (charB (chk (wsum (padB n) 8))).size = 1 := rfl
  have s1 : (kind ++ padB n).size = 10 := by rw [ByteArray.size_append, hk, hp]
  have s2 : (kind ++ padB n ++ charB (chk (wsum (padB n) 8))).size = 11 := by rw [ByteArray.size_append, s1, hc]
  unfold idOf
  refine ⟨fun i hi => ?_, fun i hi => ?_, ?_, fun i => ?_⟩
  · rw [bt_append_l _ _ (by omega), bt_append_l _ _ (by omega), bt_append_l _ _ (by omega)]
  · rw [bt_append_l _ _ (by omega), bt_append_l _ _ (by omega)]
    have := bt_append_r kind (padB n) i
    rw [hk] at this
    exact this
  · rw [bt_append_l _ _ (by omega)]
    have := bt_append_r (kind ++ padB n) (charB (chk (wsum (padB n) 8))) 0
    rw [s1] at this
    have h2 := chk_in (wsum (padB n) 8)
    rw [charB_at h2.1 h2.2] at this
    exact this
  · have := bt_append_r (kind ++ padB n ++ charB (chk (wsum (padB n) 8))) op i
    rw [s2] at this
    exact this
theorem idOf_shape {kind op : ByteArray} {n : Nat} (hk : Pair kind) (ho : Pair op) : Shape (idOf kind n op) := by
  obtain ⟨a1, a2, a3, a4⟩ := idOf_at n hk.1 ho.1
  refine ⟨idOf_size n hk.1 ho.1, fun i hi => ?_, fun i h2 h11 => ?_⟩
  · rcases hi with h | h
    · rw [a1 i h]
      obtain rfl | rfl : i = 0 ∨ i = 1 := by omega
      · exact hk.2.1
      · exact hk.2.2
    · obtain ⟨j, rfl⟩ : ∃ j, i = 11 + j := ⟨i - 11, by omega⟩
      rw [a4 j]
      obtain rfl | rfl : j = 0 ∨ j = 1 := by omega
      · exact ho.2.1
      · exact ho.2.2
  · by_cases h10 : i = 10
    · subst h10; rw [a3]; have := chk_in (wsum (padB n) 8); constructor <;> omega
    · obtain ⟨j, rfl⟩ : ∃ j, i = 2 + j := ⟨i - 2, by omega⟩
      rw [a2 j (by omega)]
      exact (padB_eight n).2 j (by omega)
theorem idOf_mid {kind op : ByteArray} {n : Nat} (hk : Pair kind) (ho : Pair op) : (idOf kind n op).extract 2 10 = padB n := by
  have hs := idOf_size n hk.1 ho.1
  obtain ⟨_, a2, _, _⟩ := idOf_at n hk.1 ho.1
  refine ext_bt (by rw [size_extract' _ 2 10 (by omega), padB_size]) fun i hi => ?_
  rw [size_extract' _ 2 10 (by omega)] at hi
  rw [bt_extract _ 2 10 i (by omega) (by omega), a2 i (by omega)]
theorem idOf_val {kind op : ByteArray} {n : Nat} (hk : Pair kind) (ho : Pair op) : Val (idOf kind n op) := by
  refine ⟨idOf_shape hk ho, ?_⟩
  rw [idOf_mid hk ho]
  have := (idOf_at n hk.1 ho.1).2.2.1
  omega
theorem idOf_ends {kind op : ByteArray} {n : Nat} (hk : Pair kind) (ho : Pair op) : (idOf kind n op).extract 0 2 = kind ∧ (idOf kind n op).extract 11 (idOf kind n op).size = op := by
  have hs := idOf_size n hk.1 ho.1
  obtain ⟨a1, _, _, a4⟩ := idOf_at n hk.1 ho.1
  refine ⟨ext_bt (by rw [size_extract' _ 0 2 (by omega), hk.1]) fun i hi => ?_, ext_bt (by rw [size_extract' _ 11 _ (by omega), hs, ho.1]) fun i hi => ?_⟩
  · rw [size_extract' _ 0 2 (by omega)] at hi
    rw [bt_extract _ 0 2 i (by omega) (by omega), Nat.zero_add, a1 i (by omega)]
  · rw [size_extract' _ 11 _ (by omega), hs] at hi
    rw [bt_extract _ 11 _ i (by omega) (by omega), a4 i]
theorem sval_pad {n : Nat} (hn : n < 100000000) : ∀ k, k ≤ 8 → sval (padB n) k = ((n / 10 ^ (8 - k) : Nat) : Int)
  | 0, _ => by
    have : n / 10 ^ 8 = 0 := Nat.div_eq_of_lt (by simpa using hn)
    simp [sval, this]
  | k + 1, hk => by
    simp only [sval]
    rw [sval_pad hn k (by omega), padB_at n k (by omega)]
    have e : n / 10 ^ (8 - k) = n / 10 ^ (7 - k) / 10 := by
      rw [Nat.div_div_eq_div_mul, ← Nat.pow_succ]
      congr 2
      omega
    rw [e, show 8 - (k + 1) = 7 - k by omega]
    generalize n / 10 ^ (7 - k) = q
    omega
theorem serial_id {kind op : ByteArray} {n : Nat} (hk : Pair kind) (ho : Pair op) (hn : n < 100000000) : serialS (idOf kind n op) = ((n : Int), 0) := by
  unfold serialS
  rw [if_neg (by simpa using idOf_shape hk ho), if_neg (by simpa using idOf_val hk ho), idOf_mid hk ho, sval_pad hn 8 (by omega)]
  simp

/-- the digits of what a text's digits are worth -/
theorem sval_dig (e : ByteArray) : ∀ k, k ≤ 8 → (∀ i, i < k → Dig (bt e i)) → ∀ j, j < k → (sval e k).toNat / 10 ^ (k - 1 - j) % 10 = (bt e j - 48).toNat
  | 0, _, _, j, hj => by omega
  | k + 1, hk, hd, j, hj => by
    have hb := sval_bound e k (by omega) (fun i hi => hd i (by omega))
    have hdk := hd k (by omega)
    simp only [sval]
    obtain ⟨q, hq⟩ : ∃ q : Nat, sval e k = q := ⟨(sval e k).toNat, by omega⟩
    obtain ⟨d, hdd⟩ : ∃ d : Nat, bt e k - 48 = d := ⟨(bt e k - 48).toNat, by omega⟩
    have hd9 : d ≤ 9 := by omega
    rw [hq, hdd, show ((q : Int) * 10 + (d : Int)).toNat = q * 10 + d by omega]
    by_cases hjk : j = k
    · subst hjk
      rw [hdd, show j + 1 - 1 - j = 0 by omega]
      simp
      omega
    · have ih := sval_dig e k (by omega) (fun i hi => hd i (by omega)) j (by omega)
      rw [hq, Int.toNat_natCast] at ih
      rw [← ih, show k + 1 - 1 - j = (k - 1 - j) + 1 by omega, Nat.pow_succ', ← Nat.div_div_eq_div_mul]
      congr 2
      omega
theorem make_back {s : ByteArray} (hv : Val s) : makeS (s.extract 0 2) (sval (s.extract 2 10) 8) (s.extract 11 s.size) = (s, 0) := by
  have hsh := hv.1
  have hs := hsh.size
  obtain ⟨p1, p2⟩ := shape_pairs hsh
  have h8 := eight_extract hsh
  have hb := sval_bound (s.extract 2 10) 8 (by omega) h8.2
  obtain ⟨n, hn⟩ : ∃ n : Nat, sval (s.extract 2 10) 8 = n := ⟨(sval (s.extract 2 10) 8).toNat, by omega⟩
  have hn8 : n < 100000000 := by
    have h1 := hb.2
    rw [hn] at h1
    have e : (10 : Int) ^ 8 = 100000000 := by decide
    omega
  have hpad : padB n = s.extract 2 10 := by
    refine ext_bt (by rw [padB_size, size_extract' s 2 10 (by omega)]) fun i hi => ?_
    rw [padB_size] at hi
    rw [padB_at n i hi]
    have := sval_dig (s.extract 2 10) 8 (by omega) h8.2 i hi
    rw [hn, Int.toNat_natCast, show 8 - 1 - i = 7 - i by omega] at this
    have hdg := h8.2 i hi
    rw [this]
    omega
  unfold makeS
  rw [hn, if_pos ⟨p1, p2, by omega, by omega⟩, Int.toNat_natCast]
  congr 1
  obtain ⟨a1, a2, a3, a4⟩ := idOf_at (kind := s.extract 0 2) (op := s.extract 11 s.size) n p1.1 p2.1
  refine ext_bt (by rw [idOf_size n p1.1 p2.1, hs]) fun i hi => ?_
  rw [idOf_size n p1.1 p2.1] at hi
  by_cases h2 : i < 2
  · rw [a1 i h2, bt_extract s 0 2 i (by omega) (by omega), Nat.zero_add]
  · by_cases h10 : i = 10
    · subst h10
      rw [a3, hpad, hv.2]
      omega
    · by_cases h11 : 11 ≤ i
      · obtain ⟨j, rfl⟩ : ∃ j, i = 11 + j := ⟨i - 11, by omega⟩
        rw [a4 j, bt_extract s 11 s.size j (by omega) (by omega)]
      · obtain ⟨j, rfl⟩ : ∃ j, i = 2 + j := ⟨i - 2, by omega⟩
        rw [a2 j (by omega), hpad, bt_extract s 2 10 j (by omega) (by omega)]
end Go.Proofs.YthldjchogdefjaaDoor
