/- Identifiers: plain definitions, no program in sight. -/
import Derived.Test.YthldjchogdefjaaDoorStr
namespace Go.Proofs.YthldjchogdefjaaDoor
open Go.PF Go.RowKit

noncomputable def dec (p : Prop) : Bool := @decide p (Classical.propDecidable p)
theorem dec_iff {p : Prop} : dec p = true ↔ p := @decide_eq_true_iff p (Classical.propDecidable p)
theorem dec_pos {p : Prop} (h : p) : dec p = true := dec_iff.2 h
theorem dec_neg {p : Prop} (h : ¬ p) : dec p = false := by
  cases hd : dec p with
  | false => rfl
  | true => exact absurd (dec_iff.1 hd) h
theorem dec_congr {p q : Prop} (h : p ↔ q) : dec p = dec q := by rw [show p = q from propext h]
theorem dec_eq_decide {p : Prop} [Decidable p] : dec p = decide p := by
  by_cases h : p
  · rw [dec_pos h]; simp [h]
  · rw [dec_neg h]; simp [h]

/-- a string's byte -/
def bt (s : ByteArray) (i : Nat) : Int := ((s.data.getD i 0).toNat : Int)
theorem bt_lo (s : ByteArray) (i : Nat) : 0 ≤ bt s i ∧ bt s i ≤ 255 := by
  unfold bt
  have := (s.data.getD i 0).toNat_lt
  omega
abbrev Dig (b : Int) : Prop := 48 ≤ b ∧ b ≤ 57
abbrev Cap (b : Int) : Prop := 65 ≤ b ∧ b ≤ 90
def wt (i : Nat) : Int := ([8, 6, 4, 2, 3, 5, 9, 7] : List Int).getD i 7
def wsum (s : ByteArray) : Nat → Int
  | 0 => 0
  | k + 1 => wsum s k + wt k * (bt s k - 48)
def chk (n : Int) : Int := if 11 - n % 11 = 10 then 0 else if 11 - n % 11 = 11 then 5 else 11 - n % 11
theorem chk_in (n : Int) : 0 ≤ chk n ∧ chk n ≤ 9 := by
  unfold chk
  have h1 := Int.emod_nonneg n (show (11 : Int) ≠ 0 by decide)
  have h2 := Int.emod_lt_of_pos n (show (0 : Int) < 11 by decide)
  split
  · omega
  · split
    · omega
    · omega

def Eight (s : ByteArray) : Prop := s.size = 8 ∧ ∀ i, i < 8 → Dig (bt s i)
open Classical in
noncomputable def checkS (s : ByteArray) : Int × Int := if Eight s then (chk (wsum s 8), 0) else (0, 1)
def Pair (s : ByteArray) : Prop := s.size = 2 ∧ Cap (bt s 0) ∧ Cap (bt s 1)
structure Shape (s : ByteArray) : Prop where
  size : s.size = 13
  caps : ∀ i, i < 2 ∨ (11 ≤ i ∧ i < 13) → Cap (bt s i)
  digs : ∀ i, 2 ≤ i → i < 11 → Dig (bt s i)
def Val (s : ByteArray) : Prop := Shape s ∧ chk (wsum (s.extract 2 10) 8) = bt s 10 - 48

theorem bt_extract (s : ByteArray) (a b i : Nat) (h : a + i < b) (hb : b ≤ s.size) : bt (s.extract a b) i = bt s (a + i) := by
  have hb' : b ≤ s.data.size := hb
  have e : (s.extract a b).data[i]? = s.data[a + i]? := by
    rw [ByteArray.data_extract, Array.getElem?_extract, if_pos (by omega)]
  unfold bt
  simp only [Array.getD_eq_getD_getElem?, e]
theorem size_extract' (s : ByteArray) (a b : Nat) (hb : b ≤ s.size) : (s.extract a b).size = b - a := by
  simp [ByteArray.size_extract]; omega

theorem wsum_bound (s : ByteArray) : ∀ k, k ≤ 8 → (∀ i, i < k → Dig (bt s i)) → 0 ≤ wsum s k ∧ wsum s k ≤ 81 * k
  | 0, _, _ => by simp [wsum]
  | k + 1, hk, h => by
    have ih := wsum_bound s k (by omega) (fun i hi => h i (by omega))
    have hd := h k (by omega)
    have hw : 2 ≤ wt k ∧ wt k ≤ 9 := by
      obtain rfl | rfl | rfl | rfl | rfl | rfl | rfl | rfl : k = 0 ∨ k = 1 ∨ k = 2 ∨ k = 3 ∨ k = 4 ∨ k = 5 ∨ k = 6 ∨ k = 7 := by omega
      all_goals decide
    simp only [wsum]
    have h1 : 0 ≤ wt k * (bt s k - 48) := Int.mul_nonneg (by omega) (by unfold Dig at hd; omega)
    have h2 : wt k * (bt s k - 48) ≤ 9 * 9 := by
      refine Int.le_trans (Int.mul_le_mul_of_nonneg_right hw.2 (by unfold Dig at hd; omega)) ?_
      unfold Dig at hd
      omega
    omega
theorem eight_extract {s : ByteArray} (h : Shape s) : Eight (s.extract 2 10) := by
  have hs := h.size
  refine ⟨by rw [size_extract' s 2 10 (by omega)], fun i hi => ?_⟩
  rw [bt_extract s 2 10 i (by omega) (by omega)]
  exact h.digs (2 + i) (by omega) (by omega)
end Go.Proofs.YthldjchogdefjaaDoor
