/- What a text can be misread as: plain. -/
import Derived.Test.YthldjchogdefjaaDoorE
namespace Go.Proofs.YthldjchogdefjaaDoor
open Go.PF Go.RowKit

/-- s with the byte b at place i -/
def nbr (s : ByteArray) (i b : Nat) : ByteArray := s.extract 0 i ++ ⟨#[UInt8.ofNat b]⟩ ++ s.extract (i + 1) s.size
def at1 (s : ByteArray) (i d : Nat) : List ByteArray := if bt s (2 + i) = 48 + (d : Int) then [] else [nbr s (2 + i) (48 + d)]
def candsAt (s : ByteArray) (i : Nat) : Nat → List ByteArray
  | 0 => []
  | d + 1 => candsAt s i d ++ at1 s i d
def candsTo (s : ByteArray) : Nat → List ByteArray
  | 0 => []
  | i + 1 => candsTo s i ++ candsAt s i 10
def cands (s : ByteArray) : List ByteArray := candsTo s 9
theorem candsAt_pre (s : ByteArray) (i : Nat) {d e : Nat} (h : d ≤ e) : ∃ suf, candsAt s i e = candsAt s i d ++ suf := by
  induction h with
  | refl => exact ⟨[], by simp⟩
  | step _ ih => obtain ⟨suf, h⟩ := ih; exact ⟨suf ++ _, by rw [candsAt, h, List.append_assoc]⟩
theorem candsTo_pre (s : ByteArray) {i j : Nat} (h : i ≤ j) : ∃ suf, candsTo s j = candsTo s i ++ suf := by
  induction h with
  | refl => exact ⟨[], by simp⟩
  | step _ ih => obtain ⟨suf, h⟩ := ih; exact ⟨suf ++ _, by rw [candsTo, h, List.append_assoc]⟩
theorem cands_pos {s : ByteArray} {i d : Nat} (hi : i < 9) (hd : d < 10) (hne : bt s (2 + i) ≠ 48 + (d : Int)) : ∃ suf, cands s = (candsTo s i ++ candsAt s i d) ++ nbr s (2 + i) (48 + d) :: suf := by
  obtain ⟨s1, h1⟩ := candsTo_pre s (show i + 1 ≤ 9 by omega)
  obtain ⟨s2, h2⟩ := candsAt_pre s i (show d + 1 ≤ 10 by omega)
  refine ⟨s2 ++ s1, ?_⟩
  unfold cands
  rw [h1, candsTo, h2, candsAt, at1, if_neg hne]
  simp
theorem candsAt_len (s : ByteArray) (i : Nat) : ∀ d, (candsAt s i d).length ≤ d
  | 0 => by simp [candsAt]
  | d + 1 => by
    have := candsAt_len s i d
    simp only [candsAt, List.length_append, at1]
    split <;> simp <;> omega
theorem candsTo_len (s : ByteArray) : ∀ i, (candsTo s i).length ≤ 10 * i
  | 0 => by simp [candsTo]
  | i + 1 => by
    have := candsTo_len s i
    have := candsAt_len s i 10
    simp only [candsTo, List.length_append]
    omega
theorem mem_cands {s t : ByteArray} : t ∈ cands s ↔ ∃ i d : Nat, i < 9 ∧ d < 10 ∧ bt s (2 + i) ≠ 48 + (d : Int) ∧ t = nbr s (2 + i) (48 + d) := by
  have h1 : ∀ i e, t ∈ candsAt s i e ↔ ∃ d : Nat, d < e ∧ bt s (2 + i) ≠ 48 + (d : Int) ∧ t = nbr s (2 + i) (48 + d) := by
    intro i e
    induction e with
    | zero => simp [candsAt]
    | succ e ih =>
      rw [candsAt, List.mem_append, ih]
      constructor
      · rintro (⟨d, h1, h2⟩ | h)
        · exact ⟨d, by omega, h2⟩
        · unfold at1 at h
          split at h
          · cases h
          · rename_i hne
            simp at h
            exact ⟨e, by omega, hne, h⟩
      · rintro ⟨d, h1, h2, h3⟩
        rcases Nat.lt_or_ge d e with h | h
        · exact .inl ⟨d, h, h2, h3⟩
        · obtain rfl : d = e := by omega
          right
          unfold at1
          rw [if_neg h2]
          simp [h3]
  have h2 : ∀ j, t ∈ candsTo s j ↔ ∃ i d : Nat, i < j ∧ d < 10 ∧ bt s (2 + i) ≠ 48 + (d : Int) ∧ t = nbr s (2 + i) (48 + d) := by
    intro j
    induction j with
    | zero => simp [candsTo]
    | succ j ih =>
      rw [candsTo, List.mem_append, ih, h1]
      constructor
      · rintro (⟨i, d, a, b⟩ | ⟨d, b⟩)
        · exact ⟨i, d, by omega, b⟩
        · exact ⟨j, d, by omega, b⟩
      · rintro ⟨i, d, a, b⟩
        rcases Nat.lt_or_ge i j with h | h
        · exact .inl ⟨i, d, h, b⟩
        · obtain rfl : i = j := by omega
          exact .inr ⟨d, b⟩
  exact h2 9

/-- the valid ones -/
noncomputable def found (s : ByteArray) : List ByteArray := (cands s).filter fun t => dec (Val t)
theorem nbr_size {s : ByteArray} (hs : s.size = 13) {i b : Nat} (hi : i < 13) : (nbr s i b).size = 13 := by
  unfold nbr
  rw [ByteArray.size_append, ByteArray.size_append, size_extract' s 0 i (by omega), size_extract' s (i + 1) s.size (by omega)]
  show i - 0 + 1 + (s.size - (i + 1)) = 13
  omega
end Go.Proofs.YthldjchogdefjaaDoor
