/- Depth: plain. -/
import Derived.Test.YtegmhdabedgloaaPlc
namespace Go.Proofs.Ytegmhdabedgloaa
open Go.PF Go.RowKit

theorem out_room {l : List Box} (hv : Valid l) : ∀ (m : Nat) {i : Nat} {b : Box}, (outside l i).length ≤ m → l[i]? = some b → ((outside l i).length : Int) ≤ 3 - b.kind
  | 0, i, b, hm, hb => by have := (hv.each i b hb).k2; omega
  | m + 1, i, b, hm, hb => by
    have hok := hv.each i b hb
    have he := outside_eq hv hb
    by_cases hp : b.parent < 0
    · rw [if_pos hp] at he; rw [he]; have := hok.k2; simp; omega
    · rw [if_neg hp] at he
      obtain ⟨q, h1, h2, _⟩ := hok.up (by omega)
      have := out_room hv m (i := b.parent.toNat) (by rw [he] at hm; simpa using hm) h1
      rw [he]
      simp only [List.length_cons]
      omega

def above (l : List Box) (b k : Nat) : Nat := ((List.range k).filter fun i => decide (i ∈ outside l b)).length
theorem above_succ (l : List Box) (b k : Nat) : above l b (k + 1) = above l b k + if k ∈ outside l b then 1 else 0 := by
  unfold above
  rw [List.range_succ, List.filter_append, List.length_append]
  split <;> simp_all
theorem above_le {l : List Box} (hv : Valid l) {i : Nat} {b : Box} (hb : l[i]? = some b) (k : Nat) : (above l i k : Int) ≤ 3 - b.kind := by
  have h1 := out_room hv _ (Nat.le_refl _) hb
  have h2 : above l i k ≤ (outside l i).length := by
    refine List.Nodup.length_le_of_subset (List.Nodup.sublist List.filter_sublist List.nodup_range) ?_
    intro x hx
    simp at hx
    exact hx.2
  omega
theorem mem_inside {l : List Box} {i b : Nat} : i ∈ inside l b ↔ i < l.length ∧ b ∈ outside l i := by simp [inside]
end Go.Proofs.Ytegmhdabedgloaa
