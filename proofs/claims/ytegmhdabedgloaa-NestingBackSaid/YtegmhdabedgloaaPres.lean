/- The changes keep what is asked of boxes: plain. -/
import Derived.Test.YtegmhdabedgloaaDp
namespace Go.Proofs.Ytegmhdabedgloaa
open Go.PF Go.RowKit

theorem valid_of {l l' : List Box} (hv : Valid l) (hlen : l'.length = l.length) (h : ∀ (i : Nat) (b : Box), l[i]? = some b → ∃ b', l'[i]? = some b' ∧ b'.label = b.label ∧ BoxOK l' b') : Valid l' := by
  have back : ∀ (i : Nat) (b' : Box), l'[i]? = some b' → ∃ b, l[i]? = some b ∧ b'.label = b.label ∧ BoxOK l' b' := by
    intro i b' hb'
    have hi : i < l.length := by rw [← hlen]; exact (List.getElem?_eq_some_iff.1 hb').1
    obtain ⟨b2, h1, h2, h3⟩ := h i l[i] (List.getElem?_eq_getElem hi)
    rw [hb'] at h1; cases h1
    exact ⟨_, List.getElem?_eq_getElem hi, h2, h3⟩
  refine ⟨by rw [hlen]; exact hv.few, fun i b' hb' => ?_, fun i j b' c' hb' hc' he => ?_⟩
  · obtain ⟨_, _, _, h3⟩ := back i b' hb'; exact h3
  · obtain ⟨b, h1, h2, _⟩ := back i b' hb'
    obtain ⟨c, h3, h4, _⟩ := back j c' hc'
    exact hv.apart i j b c h1 h3 (by rw [← h2, ← h4]; exact he)

/-- One box turned: label, kind and place stay. -/
theorem set_valid {l : List Box} (hv : Valid l) {i : Nat} {b n : Box} (hb : l[i]? = some b) (h1 : n.label = b.label) (h2 : n.kind = b.kind) (h3 : n.place = b.place) (hcl : ¬ (n.closed = true ∧ n.kind = 0)) (hq1 : -1 ≤ n.parent) (hq2 : n.parent < l.length)
    (hup : 0 ≤ n.parent → ∃ q, l[n.parent.toNat]? = some q ∧ b.kind < q.kind ∧ q.place = b.place) : Valid (l.set i n) := by
  have hi := (List.getElem?_eq_some_iff.1 hb).1
  have look : ∀ (k : Nat) (q : Box), l[k]? = some q → ∃ q', (l.set i n)[k]? = some q' ∧ q'.kind = q.kind ∧ q'.place = q.place := by
    intro k q hq
    by_cases hik : i = k
    · subst hik
      rw [hb] at hq; cases hq
      exact ⟨n, by rw [List.getElem?_set_self hi], h2, h3⟩
    · exact ⟨q, by rw [List.getElem?_set_ne hik]; exact hq, rfl, rfl⟩
  refine valid_of hv (by simp) fun k c hc => ?_
  have hok := hv.each k c hc
  by_cases hik : i = k
  · subst hik
    rw [hb] at hc; cases hc
    refine ⟨n, by rw [List.getElem?_set_self hi], h1, ?_⟩
    refine ⟨by rw [h1]; exact hok.l1, by rw [h1]; exact hok.l2, by rw [h2]; exact hok.k1, by rw [h2]; exact hok.k2, by rw [h3]; exact hok.p1, by rw [h3]; exact hok.p2, hq1, by simpa using hq2, hcl, fun hp => ?_⟩
    obtain ⟨q, e1, e2, e3⟩ := hup hp
    obtain ⟨q', f1, f2, f3⟩ := look _ q e1
    exact ⟨q', f1, by rw [h2, f2]; exact e2, by rw [f3, h3]; exact e3⟩
  · refine ⟨c, by rw [List.getElem?_set_ne hik]; exact hc, rfl, ?_⟩
    refine ⟨hok.l1, hok.l2, hok.k1, hok.k2, hok.p1, hok.p2, hok.q1, by simpa using hok.q2, hok.cl, fun hp => ?_⟩
    obtain ⟨q, e1, e2, e3⟩ := hok.up hp
    obtain ⟨q', f1, f2, f3⟩ := look _ q e1
    exact ⟨q', f1, by rw [f2]; exact e2, by rw [f3]; exact e3⟩

theorem root_up {l : List Box} (hv : Valid l) {i : Nat} {b : Box} (hb : l[i]? = some b) (hp : 0 ≤ b.parent) : root l i = root l b.parent.toNat := by
  have he := outside_eq hv hb
  rw [if_neg (by omega)] at he
  unfold root
  rw [he]
  cases hx : outside l b.parent.toNat with
  | nil => rfl
  | cons a t => rfl

theorem moved_valid {l : List Box} (hv : Valid l) (r : Nat) {p : Int} (h0 : 0 ≤ p) (h1 : p ≤ 11) : Valid (moved l r p l.length) := by
  refine valid_of hv (moved_len _ _ _ _) fun i b hb => ?_
  have hi := (List.getElem?_eq_some_iff.1 hb).1
  have hok := hv.each i b hb
  refine ⟨_, moved_get l r p _ i b hb, by split <;> rfl, ?_⟩
  have hup : 0 ≤ b.parent → ∃ q, l[b.parent.toNat]? = some q ∧ b.kind < q.kind ∧ q.place = b.place := hok.up
  by_cases hr : i < l.length ∧ root l i = r
  · rw [if_pos hr]
    refine ⟨hok.l1, hok.l2, hok.k1, hok.k2, h0, h1, hok.q1, by rw [moved_len]; exact hok.q2, hok.cl, fun hp => ?_⟩
    obtain ⟨q, e1, e2, e3⟩ := hup hp
    have hq := (List.getElem?_eq_some_iff.1 e1).1
    refine ⟨_, moved_get l r p _ _ q e1, ?_⟩
    rw [if_pos ⟨hq, by rw [← root_up hv hb hp]; exact hr.2⟩]
    exact ⟨e2, rfl⟩
  · rw [if_neg hr]
    refine ⟨hok.l1, hok.l2, hok.k1, hok.k2, hok.p1, hok.p2, hok.q1, by rw [moved_len]; exact hok.q2, hok.cl, fun hp => ?_⟩
    obtain ⟨q, e1, e2, e3⟩ := hup hp
    refine ⟨_, moved_get l r p _ _ q e1, ?_⟩
    rw [if_neg (fun h => hr ⟨hi, by rw [root_up hv hb hp]; exact h.2⟩)]
    exact ⟨e2, e3⟩

/-- What is outside is told by the parents alone. -/
theorem ups_congr {l l' : List Box} (h : ∀ k : Nat, (l'[k]?).map Box.parent = (l[k]?).map Box.parent) : ∀ (n : Nat) (p : Int), ups l' n p = ups l n p
  | 0, _ => rfl
  | n + 1, p => by
    simp only [ups]
    split
    · rfl
    · have := h p.toNat
      cases h1 : l[p.toNat]? with
      | none => rw [h1] at this; cases h2 : l'[p.toNat]? with
        | none => rfl
        | some q => rw [h2] at this; cases this
      | some q => rw [h1] at this; cases h2 : l'[p.toNat]? with
        | none => rw [h2] at this; cases this
        | some q' =>
          rw [h2] at this
          simp at this
          simp only [this, ups_congr h n]
theorem outside_congr {l l' : List Box} (h : ∀ k : Nat, (l'[k]?).map Box.parent = (l[k]?).map Box.parent) (i : Nat) : outside l' i = outside l i := by
  unfold outside
  have := h i
  cases h1 : l[i]? with
  | none => rw [h1] at this; cases h2 : l'[i]? with
    | none => rfl
    | some q => rw [h2] at this; cases this
  | some q => rw [h1] at this; cases h2 : l'[i]? with
    | none => rw [h2] at this; cases this
    | some q' =>
      rw [h2] at this
      simp at this
      simp only [this, ups_congr h]
theorem inside_congr {l l' : List Box} (hlen : l'.length = l.length) (h : ∀ k : Nat, (l'[k]?).map Box.parent = (l[k]?).map Box.parent) (i : Nat) : inside l' i = inside l i := by
  unfold inside
  rw [hlen]
  congr 1
  funext x
  rw [outside_congr h]
theorem moved_parent (l : List Box) (r : Nat) (p : Int) (k : Nat) (i : Nat) : ((moved l r p k)[i]?).map Box.parent = (l[i]?).map Box.parent := by
  cases h : l[i]? with
  | none => simp [moved, h]
  | some b =>
    rw [moved_get l r p k i b h]
    simp
    split <;> rfl
end Go.Proofs.Ytegmhdabedgloaa
