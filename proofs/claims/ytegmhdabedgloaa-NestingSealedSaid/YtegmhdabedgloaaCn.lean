/- Contents: plain. -/
import Derived.Test.YtegmhdabedgloaaPres
namespace Go.Proofs.Ytegmhdabedgloaa
open Go.PF Go.RowKit

theorem inside_up {l : List Box} (hv : Valid l) {a b : Nat} {c : Box} (hc : l[a]? = some c) : a ∈ inside l b ↔ 0 ≤ c.parent ∧ (c.parent = (b : Int) ∨ c.parent.toNat ∈ inside l b) := by
  have ha := (List.getElem?_eq_some_iff.1 hc).1
  rw [mem_inside, outside_eq hv hc]
  by_cases hp : c.parent < 0
  · rw [if_pos hp]; simp; omega
  · rw [if_neg hp]
    obtain ⟨q, hq, _⟩ := (hv.each a c hc).up (by omega)
    have hql := (List.getElem?_eq_some_iff.1 hq).1
    rw [mem_inside]
    simp only [List.mem_cons]
    constructor
    · rintro ⟨_, h | h⟩
      · exact ⟨by omega, .inl (by omega)⟩
      · exact ⟨by omega, .inr ⟨hql, h⟩⟩
    · rintro ⟨_, h | h⟩
      · exact ⟨ha, .inl (by omega)⟩
      · exact ⟨ha, .inr h.2⟩

theorem out_place {l : List Box} (hv : Valid l) : ∀ (m : Nat) {i c : Nat} {b q : Box}, (outside l i).length ≤ m → l[i]? = some b → c ∈ outside l i → l[c]? = some q → b.place = q.place
  | 0, i, c, b, q, hm, hb, hc, hq => by
    have : outside l i = [] := List.eq_nil_of_length_eq_zero (by omega)
    rw [this] at hc; cases hc
  | m + 1, i, c, b, q, hm, hb, hc, hq => by
    have hok := hv.each i b hb
    rw [outside_eq hv hb] at hc hm
    split at hc
    · cases hc
    · rename_i hp
      rw [if_neg hp] at hm
      obtain ⟨p, h1, h2, h3⟩ := hok.up (by omega)
      simp only [List.mem_cons] at hc
      rcases hc with rfl | hc
      · rw [h1] at hq; cases hq; exact h3.symm
      · have := out_place hv m (by simpa using hm) h1 hc hq
        omega

theorem inside_place {l : List Box} (hv : Valid l) {a b : Nat} {c d : Box} (hc : l[a]? = some c) (hd : l[b]? = some d) (h : a ∈ inside l b) : c.place = d.place := out_place hv _ (Nat.le_refl _) hc (mem_inside.1 h).2 hd

theorem root_box {l : List Box} (hv : Valid l) : ∀ (m : Nat) {i : Nat} {b : Box}, (outside l i).length ≤ m → l[i]? = some b → ∃ c, l[root l i]? = some c ∧ c.parent = -1 ∧ c.place = b.place
  | m, i, b, hm, hb => by
    have hok := hv.each i b hb
    have he := outside_eq hv hb
    by_cases hp : b.parent < 0
    · rw [if_pos hp] at he
      refine ⟨b, ?_, by have := hok.q1; omega, rfl⟩
      unfold root; rw [he]; exact hb
    · rw [if_neg hp] at he
      obtain ⟨q, h1, h2, h3⟩ := hok.up (by omega)
      match m, hm with
      | 0, hm => rw [he] at hm; simp at hm
      | m + 1, hm =>
        obtain ⟨c, e1, e2, e3⟩ := root_box hv m (i := b.parent.toNat) (by rw [he] at hm; simpa using hm) h1
        rw [root_up hv hb (by omega)]
        exact ⟨c, e1, e2, by omega⟩

theorem inside_sorted (l : List Box) (b : Nat) {i x y : Nat} (hx : (inside l b)[i]? = some x) (hy : (inside l b)[i + 1]? = some y) : x < y := by
  have hp : (inside l b).Pairwise (· < ·) := List.Pairwise.sublist List.filter_sublist List.pairwise_lt_range
  obtain ⟨h1, rfl⟩ := List.getElem?_eq_some_iff.1 hx
  obtain ⟨h2, rfl⟩ := List.getElem?_eq_some_iff.1 hy
  exact List.pairwise_iff_getElem.1 hp i (i + 1) h1 h2 (by omega)
end Go.Proofs.Ytegmhdabedgloaa
