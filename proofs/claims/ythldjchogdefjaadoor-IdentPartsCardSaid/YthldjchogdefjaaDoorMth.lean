/- Check digits: plain. -/
import Derived.Test.YthldjchogdefjaaDoorL
namespace Go.Proofs.YthldjchogdefjaaDoor
open Go.PF Go.RowKit

def wsumAt (s : ByteArray) (p : Nat) : Nat → Int
  | 0 => 0
  | k + 1 => wsumAt s p k + wt k * (bt s (p + k) - 48)
theorem wsum_at {s : ByteArray} (hs : s.size = 13) : ∀ k, k ≤ 8 → wsum (s.extract 2 10) k = wsumAt s 2 k
  | 0, _ => rfl
  | k + 1, hk => by
    simp only [wsum, wsumAt]
    rw [wsum_at hs k (by omega), bt_extract s 2 10 k (by omega) (by omega)]
theorem val_iff {s : ByteArray} : Val s ↔ Shape s ∧ chk (wsumAt s 2 8) = bt s 10 - 48 := by
  constructor
  · rintro ⟨h1, h2⟩
    rw [wsum_at h1.size 8 (by omega)] at h2
    exact ⟨h1, h2⟩
  · rintro ⟨h1, h2⟩
    refine ⟨h1, ?_⟩
    rw [wsum_at h1.size 8 (by omega)]
    exact h2
theorem wsumAt_congr {s t : ByteArray} (p : Nat) : ∀ k, (∀ i, i < k → bt t (p + i) = bt s (p + i)) → wsumAt t p k = wsumAt s p k
  | 0, _ => rfl
  | k + 1, h => by
    simp only [wsumAt]
    rw [wsumAt_congr p k (fun i hi => h i (by omega)), h k (by omega)]
/-- one byte turned -/
theorem wsumAt_one {s t : ByteArray} (p j : Nat) : ∀ k, j < k → (∀ i, i < k → i ≠ j → bt t (p + i) = bt s (p + i)) → wsumAt t p k = wsumAt s p k + wt j * (bt t (p + j) - bt s (p + j))
  | 0, hj, _ => by omega
  | k + 1, hj, h => by
    simp only [wsumAt]
    by_cases hjk : j = k
    · subst hjk
      rw [wsumAt_congr p j (fun i hi => h i (by omega) (by omega))]
      rw [show wt j * (bt t (p + j) - bt s (p + j)) = wt j * (bt t (p + j) - 48) - wt j * (bt s (p + j) - 48) by rw [← Int.mul_sub]; congr 1; omega]
      omega
    · rw [wsumAt_one p j k (by omega) (fun i hi hne => h i (by omega) hne), h k (by omega) (fun e => hjk e.symm)]
      omega
theorem wt_cases {j : Nat} (hj : j < 8) : wt j = 8 ∨ wt j = 6 ∨ wt j = 4 ∨ wt j = 2 ∨ wt j = 3 ∨ wt j = 5 ∨ wt j = 9 ∨ wt j = 7 := by
  obtain rfl | rfl | rfl | rfl | rfl | rfl | rfl | rfl : j = 0 ∨ j = 1 ∨ j = 2 ∨ j = 3 ∨ j = 4 ∨ j = 5 ∨ j = 6 ∨ j = 7 := by omega
  all_goals simp [wt]
theorem mod_ne {j : Nat} (hj : j < 8) {n e : Int} (h1 : -9 ≤ e) (h2 : e ≤ 9) (h0 : e ≠ 0) : (n + wt j * e) % 11 ≠ n % 11 := by
  rcases wt_cases hj with h | h | h | h | h | h | h | h <;> rw [h] <;> omega
theorem chk_eq {n m : Int} (h : chk n = chk m) (hne : n % 11 ≠ m % 11) : chk n = 5 ∧ (n % 11 = 0 ∧ m % 11 = 6 ∨ n % 11 = 6 ∧ m % 11 = 0) := by
  have a0 := Int.emod_nonneg n (show (11 : Int) ≠ 0 by decide)
  have a1 := Int.emod_lt_of_pos n (show (0 : Int) < 11 by decide)
  have b0 := Int.emod_nonneg m (show (11 : Int) ≠ 0 by decide)
  have b1 := Int.emod_lt_of_pos m (show (0 : Int) < 11 by decide)
  unfold chk at h ⊢
  generalize n % 11 = a at *
  generalize m % 11 = b at *
  by_cases h1 : (11 : Int) - a = 10
  · rw [if_pos h1] at h ⊢
    by_cases h3 : (11 : Int) - b = 10
    · omega
    · rw [if_neg h3] at h
      by_cases h4 : (11 : Int) - b = 11
      · rw [if_pos h4] at h; omega
      · rw [if_neg h4] at h; omega
  · rw [if_neg h1] at h ⊢
    by_cases h2 : (11 : Int) - a = 11
    · rw [if_pos h2] at h ⊢
      by_cases h3 : (11 : Int) - b = 10
      · rw [if_pos h3] at h; omega
      · rw [if_neg h3] at h
        by_cases h4 : (11 : Int) - b = 11
        · omega
        · rw [if_neg h4] at h; omega
    · rw [if_neg h2] at h ⊢
      by_cases h3 : (11 : Int) - b = 10
      · rw [if_pos h3] at h; omega
      · rw [if_neg h3] at h
        by_cases h4 : (11 : Int) - b = 11
        · rw [if_pos h4] at h; omega
        · rw [if_neg h4] at h; omega

/-- Two identifiers that differ in one digit. -/
theorem hit_five {s : ByteArray} (hv : Val s) {i d : Nat} (hi : i < 9) (hd : d < 10) (hne : nbr s (2 + i) (48 + d) ≠ s) (ht : Val (nbr s (2 + i) (48 + d))) :
    i < 8 ∧ bt s 10 = 53 ∧ bt (nbr s (2 + i) (48 + d)) 10 = 53 ∧ (wsumAt s 2 8 % 11 = 0 ∧ (wsumAt s 2 8 + wt i * ((48 + d : Nat) - bt s (2 + i))) % 11 = 6 ∨ wsumAt s 2 8 % 11 = 6 ∧ (wsumAt s 2 8 + wt i * ((48 + d : Nat) - bt s (2 + i))) % 11 = 0) := by
  obtain ⟨hsh, hc⟩ := val_iff.1 hv
  obtain ⟨hsh', hc'⟩ := val_iff.1 ht
  have hs := hsh.size
  have hb : bt s (2 + i) ≠ ((48 + d : Nat) : Int) := fun h => hne ((nbr_self hs (by omega) (by omega)).2 h)
  have hat : ∀ k, k < 13 → bt (nbr s (2 + i) (48 + d)) k = if k = 2 + i then ((48 + d : Nat) : Int) else bt s k := fun k hk => nbr_at hs (by omega) (by omega) hk
  have hdg := hsh.digs (2 + i) (by omega) (by omega)
  by_cases h8 : i < 8
  · have hw := wsumAt_one (s := s) (t := nbr s (2 + i) (48 + d)) 2 i 8 h8 (fun k hk hne => by rw [hat (2 + k) (by omega), if_neg (by omega)])
    rw [hat (2 + i) (by omega), if_pos rfl] at hw
    have h10 := hat 10 (by omega)
    rw [if_neg (by omega)] at h10
    rw [hw, h10, ← hc] at hc'
    have hmn := mod_ne h8 (n := wsumAt s 2 8) (e := ((48 + d : Nat) : Int) - bt s (2 + i)) (by omega) (by omega) (by omega)
    have := chk_eq hc'.symm (fun e => hmn e.symm)
    refine ⟨h8, by omega, by omega, this.2⟩
  · exfalso
    obtain rfl : i = 8 := by omega
    have hw := wsumAt_congr (s := s) (t := nbr s 10 (48 + d)) 2 8 (fun k hk => by rw [hat (2 + k) (by omega), if_neg (by omega)])
    have h10 := hat 10 (by omega)
    rw [if_pos rfl] at h10
    have hc2 : chk (wsumAt (nbr s 10 (48 + d)) 2 8) = bt (nbr s 10 (48 + d)) 10 - 48 := hc'
    rw [hw, hc] at hc2
    have h10' : bt (nbr s 10 (48 + d)) 10 = ((48 + d : Nat) : Int) := h10
    rw [h10'] at hc2
    have hb' : bt s 10 ≠ ((48 + d : Nat) : Int) := hb
    omega
/-- At one place there is one such digit at most. -/
theorem hit_one {s : ByteArray} (hv : Val s) {i d d' : Nat} (hi : i < 9) (hd : d < 10) (hd' : d' < 10) (h1 : nbr s (2 + i) (48 + d) ≠ s) (h2 : Val (nbr s (2 + i) (48 + d))) (h1' : nbr s (2 + i) (48 + d') ≠ s) (h2' : Val (nbr s (2 + i) (48 + d'))) : d = d' := by
  obtain ⟨h8, _, _, ha⟩ := hit_five hv hi hd h1 h2
  obtain ⟨_, _, _, hb⟩ := hit_five hv hi hd' h1' h2'
  by_cases hdd : d = d'
  · exact hdd
  · exfalso
    have hmn := mod_ne h8 (n := wsumAt s 2 8 + wt i * (((48 + d : Nat) : Int) - bt s (2 + i))) (e := (d' : Int) - d) (by omega) (by omega) (by omega)
    have e : wsumAt s 2 8 + wt i * (((48 + d : Nat) : Int) - bt s (2 + i)) + wt i * ((d' : Int) - d) = wsumAt s 2 8 + wt i * (((48 + d' : Nat) : Int) - bt s (2 + i)) := by
      rw [Int.add_assoc, ← Int.mul_add]
      congr 2
      omega
    rw [e] at hmn
    omega
/-- two neighbouring bytes exchanged -/
theorem swap_bad {s t : ByteArray} (hv : Val s) {p : Nat} (hp : p < 7) (hne : bt s (2 + p) ≠ bt s (3 + p)) (h5 : bt s 10 ≠ 53) (h1 : bt t (2 + p) = bt s (3 + p)) (h2 : bt t (3 + p) = bt s (2 + p)) (h : ∀ i, i < 13 → i ≠ 2 + p → i ≠ 3 + p → bt t i = bt s i) : ¬ Val t := by
  intro ht
  obtain ⟨hsh, hc⟩ := val_iff.1 hv
  obtain ⟨hsh', hc'⟩ := val_iff.1 ht
  have d1 := hsh.digs (2 + p) (by omega) (by omega)
  have d2 := hsh.digs (3 + p) (by omega) (by omega)
  have h10 := h 10 (by omega) (by omega) (by omega)
  have hw : wsumAt t 2 8 = wsumAt s 2 8 + (wt p - wt (p + 1)) * (bt s (3 + p) - bt s (2 + p)) := by
    have hh : ∀ k, k < 8 → bt t (2 + k) = if k = p then bt s (3 + p) else if k = p + 1 then bt s (2 + p) else bt s (2 + k) := by
      intro k hk
      by_cases e1 : k = p
      · subst e1; rw [if_pos rfl]; exact h1
      · rw [if_neg e1]
        by_cases e2 : k = p + 1
        · subst e2; rw [if_pos rfl, show 2 + (p + 1) = 3 + p by omega]; exact h2
        · rw [if_neg e2]; exact h (2 + k) (by omega) (by omega) (by omega)
    have q0 := hh 0 (by omega); have q1 := hh 1 (by omega); have q2 := hh 2 (by omega); have q3 := hh 3 (by omega)
    have q4 := hh 4 (by omega); have q5 := hh 5 (by omega); have q6 := hh 6 (by omega); have q7 := hh 7 (by omega)
    obtain rfl | rfl | rfl | rfl | rfl | rfl | rfl : p = 0 ∨ p = 1 ∨ p = 2 ∨ p = 3 ∨ p = 4 ∨ p = 5 ∨ p = 6 := by omega
    all_goals (simp [wsumAt, wt, q0, q1, q2, q3, q4, q5, q6, q7]; omega)
  rw [hw, h10, ← hc] at hc'
  have hmn : (wsumAt s 2 8 + (wt p - wt (p + 1)) * (bt s (3 + p) - bt s (2 + p))) % 11 ≠ wsumAt s 2 8 % 11 := by
    obtain ⟨e, he, e0, e1, e2⟩ : ∃ e, bt s (3 + p) - bt s (2 + p) = e ∧ e ≠ 0 ∧ -9 ≤ e ∧ e ≤ 9 := ⟨_, rfl, by omega, by omega, by omega⟩
    rw [he]
    generalize wsumAt s 2 8 = n
    clear hw hc hc' h10 d1 d2 he h1 h2 h hne
    obtain rfl | rfl | rfl | rfl | rfl | rfl | rfl : p = 0 ∨ p = 1 ∨ p = 2 ∨ p = 3 ∨ p = 4 ∨ p = 5 ∨ p = 6 := by omega
    all_goals (simp [wt]; omega)
  have := chk_eq hc'.symm (fun e => hmn e.symm)
  omega
end Go.Proofs.YthldjchogdefjaaDoor
