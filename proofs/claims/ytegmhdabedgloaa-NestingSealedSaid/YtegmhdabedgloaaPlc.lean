/- Places: plain. -/
import Derived.Test.YtegmhdabedgloaaSub
namespace Go.Proofs.Ytegmhdabedgloaa
open Go.PF Go.RowKit

def placed (l : List Box) (js : List Nat) (p : Int) : List Box := l.mapIdx fun i b => if i ∈ js then { b with place := p } else b
theorem placed_len (l : List Box) (js : List Nat) (p : Int) : (placed l js p).length = l.length := by simp [placed]
theorem placed_get (l : List Box) (js : List Nat) (p : Int) {i : Nat} {b : Box} (hb : l[i]? = some b) : (placed l js p)[i]? = some (if i ∈ js then { b with place := p } else b) := by simp [placed, hb]
theorem placed_snoc (l : List Box) (js : List Nat) (p : Int) {j : Nat} {b : Box} (hb : l[j]? = some b) : placed l (js ++ [j]) p = (placed l js p).set j { (if j ∈ js then { b with place := p } else b) with place := p } := by
  apply List.ext_getElem?
  intro i
  have hj : j < l.length := (List.getElem?_eq_some_iff.1 hb).1
  rw [List.getElem?_set]
  by_cases hji : j = i
  · subst hji
    rw [placed_get l _ p hb]
    simp [placed_len, hj]
    split <;> simp
  · rw [if_neg hji]
    cases h : l[i]? with
    | none => simp [placed, h]
    | some c =>
      rw [placed_get l _ p h, placed_get l _ p h]
      have : i ≠ j := fun e => hji e.symm
      simp [this]
theorem placed_one (l : List Box) (p : Int) {j : Nat} {b : Box} (hb : l[j]? = some b) : l.set j { b with place := p } = placed l [j] p := by
  have h0 : placed l [] p = l := by
    apply List.ext_getElem?
    intro i
    cases h : l[i]? with
    | none => simp [placed, h]
    | some c => rw [placed_get l _ p h]; simp
  have := placed_snoc l [] p hb
  rw [h0] at this
  simpa using this.symm

/-- The outermost box: it is the one, or the last outside. -/
theorem root_eq {l : List Box} (hv : Valid l) : ∀ (m : Nat) {i r : Nat} {b c : Box}, (outside l i).length ≤ m → l[i]? = some b → l[r]? = some c → c.parent = -1 → (root l i = r ↔ i = r ∨ r ∈ outside l i)
  | m, i, r, b, c, hm, hb, hc, hp => by
    have he := outside_eq hv hb
    have hok := hv.each i b hb
    by_cases hbp : b.parent < 0
    · rw [if_pos hbp] at he
      unfold root
      simp [he]
    · rw [if_neg hbp] at he
      obtain ⟨q, hq, _⟩ := hok.up (by omega)
      have hir : i ≠ r := fun e => by subst e; rw [hb] at hc; cases hc; omega
      match m, hm with
      | 0, hm => exact absurd hm (by rw [he]; simp)
      | m + 1, hm =>
        have ih := root_eq hv m (i := b.parent.toNat) (r := r) (by rw [he] at hm; simpa using hm) hq hc hp
        have hroot : root l i = root l b.parent.toNat := by
          unfold root
          rw [he]
          cases hx : outside l b.parent.toNat with
          | nil => rfl
          | cons a t => rfl
        rw [hroot, ih, he]
        simp only [List.mem_cons]
        constructor
        · rintro (h | h)
          · exact .inr (.inl h.symm)
          · exact .inr (.inr h)
        · rintro (h | h | h)
          · exact absurd h hir
          · exact .inl h.symm
          · exact .inr h
theorem root_iff {l : List Box} (hv : Valid l) {i r : Nat} {c : Box} (hi : i < l.length) (hc : l[r]? = some c) (hp : c.parent = -1) : root l i = r ↔ i = r ∨ i ∈ inside l r := by
  rw [root_eq hv _ (Nat.le_refl _) (List.getElem?_eq_getElem hi) hc hp]
  simp [inside, hi]

theorem placed_moved {l : List Box} (hv : Valid l) {r : Nat} {c : Box} (hc : l[r]? = some c) (hp : c.parent = -1) (p : Int) : placed l ([r] ++ inside l r) p = moved l r p l.length := by
  apply List.ext_getElem?
  intro i
  cases h : l[i]? with
  | none => simp [placed, moved, h]
  | some b =>
    have hi := (List.getElem?_eq_some_iff.1 h).1
    rw [placed_get l _ p h, moved_get l r p _ i b h]
    have := root_iff hv hi hc hp
    simp only [List.cons_append, List.nil_append, List.mem_cons, this, hi, true_and]
end Go.Proofs.Ytegmhdabedgloaa
