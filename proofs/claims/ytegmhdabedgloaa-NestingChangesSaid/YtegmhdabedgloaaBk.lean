/- A change and its opposite: plain. -/
import Derived.Test.YtegmhdabedgloaaCh
namespace Go.Proofs.Ytegmhdabedgloaa
open Go.PF Go.RowKit

theorem locked_none {l : List Box} {i : Nat} : locked l i = false ↔ ∀ p ∈ outside l i, ∀ q, l[p]? = some q → q.closed = false := by
  unfold locked
  rw [List.any_eq_false]
  constructor
  · intro h p hp q hq
    have := h p hp
    rw [hq] at this
    simpa using this
  · intro h p hp
    cases hq : l[p]? with
    | none => simp
    | some q => simp [h p hp q hq]

theorem set_back {l : List Box} {b : Nat} {c n : Box} (hc : l[b]? = some c) : (l.set b n).set b c = l := by
  have hb := (List.getElem?_eq_some_iff.1 hc).1
  rw [List.set_set]
  apply List.ext_getElem?
  intro i
  by_cases hbi : b = i
  · subst hbi; rw [List.getElem?_set_self hb, hc]
  · rw [List.getElem?_set_ne hbi]

theorem root_congr {l l' : List Box} (h : ∀ k : Nat, (l'[k]?).map Box.parent = (l[k]?).map Box.parent) (i : Nat) : root l' i = root l i := by
  unfold root; rw [outside_congr h]

def opp (k : Int) : Int := if k = 0 then 1 else if k = 1 then 0 else if k = 2 then 3 else if k = 3 then 2 else 4

theorem went_back {l m : List Box} (hv : Valid l) {k other : Int} {b : Nat} {c : Box} (hc : l[b]? = some c) (h : Went l m k b other) : chS m (opp k) (b : Int) (if k = 4 then c.place else c.parent) = (l, 0) := by
  have hst := went_step hv h
  have hb := (List.getElem?_eq_some_iff.1 hc).1
  have hhas : BHas m (b : Int) := ⟨hst.valid, by omega, by rw [hst.len]; omega⟩
  cases h with
  | put c' d hk hc' ho hd hp h1 h2 h3 h4 hm =>
    rw [hc] at hc'; cases hc'
    subst hk
    obtain ⟨o, rfl⟩ : ∃ o : Nat, other = o := ⟨other.toNat, by omega⟩
    simp only [Int.toNat_natCast] at hd h4
    have hg : m[b]? = some { c with parent := (o : Int) } := by rw [hm]; exact List.getElem?_set_self hb
    have hne : ∀ (p : Nat) (q : Box), p ≠ b → m[p]? = some q → l[p]? = some q := fun p q hpb hq => by rw [hm, List.getElem?_set_ne (fun e => hpb e.symm)] at hq; exact hq
    have hob : o ≠ b := fun e => by subst e; rw [hc] at hd; cases hd; omega
    have hlk : locked m b = false := by
      rw [locked_none]
      intro p hp' q hq
      have hlink := outside_link hv hc hd hp h1 (by rw [← hm]; exact hst.valid) _ p (Nat.le_refl _) (i := b) hb
      rw [← hm] at hlink
      have h0 : outside l b = [] := by rw [outside_eq hv hc, if_pos (by omega)]
      rw [h0] at hlink
      rcases hlink.1 hp' with h | ⟨_, h | h⟩
      · cases h
      · subst h
        have := hne p q hob hq
        rw [hd] at this; cases this; exact h3
      · have hpb : p ≠ b := fun e => by subst e; have := out_lt hv hd h hc; omega
        exact locked_none.1 h4 p h q (hne p q hpb hq)
    rw [show chS m (opp 0) (b : Int) (if (0 : Int) = 4 then c.place else c.parent) = takeS m b by simp [chS, opp]]
    unfold takeS
    rw [if_neg (by simpa using hhas)]
    simp only [Int.toNat_natCast, hg]
    rw [if_neg (by omega), hlk]
    simp only [Bool.false_eq_true, if_false]
    rw [hm, show ({ c with parent := -1 } : Box) = c by cases c; simp at hp; simp [hp], set_back hc]
  | take c' hk hc' hp h4 hm =>
    rw [hc] at hc'; cases hc'
    subst hk
    obtain ⟨o, ho⟩ : ∃ o : Nat, c.parent = o := ⟨c.parent.toNat, by omega⟩
    obtain ⟨d, hd, hkd, hpl⟩ := (hv.each b c hc).up hp
    rw [ho, Int.toNat_natCast] at hd
    have hob : o ≠ b := fun e => by subst e; rw [hc] at hd; cases hd; omega
    have hol := (List.getElem?_eq_some_iff.1 hd).1
    have hg : m[b]? = some { c with parent := -1 } := by rw [hm]; exact List.getElem?_set_self hb
    have hgo : m[o]? = some d := by rw [hm, List.getElem?_set_ne (fun e => hob e.symm)]; exact hd
    have hback : m.set b { ({ c with parent := -1 } : Box) with parent := (o : Int) } = l := by
      rw [hm, show ({ ({ c with parent := -1 } : Box) with parent := (o : Int) } : Box) = c by cases c; simp at ho; simp [ho], set_back hc]
    have hlink := fun p => outside_link hst.valid hg hgo rfl hkd (by rw [hback]; exact hv) _ p (Nat.le_refl _) (i := b) (by rw [hst.len]; exact hb)
    rw [hback] at hlink
    have hcl : ∀ p, p = o ∨ p ∈ outside m o → ∀ q, m[p]? = some q → q.closed = false := by
      intro p hp' q hq
      have hin : p ∈ outside l b := (hlink p).2 (.inr ⟨.inl rfl, hp'⟩)
      have hpb : p ≠ b := fun e => by subst e; exact absurd (out_lt hv hc hin hc) (by omega)
      exact locked_none.1 h4 p hin q (by rw [hm, List.getElem?_set_ne (fun e => hpb e.symm)] at hq; exact hq)
    have hlk : locked m o = false := locked_none.2 fun p hp' q hq => hcl p (.inr hp') q hq
    have hdc : d.closed = false := hcl o (.inl rfl) d hgo
    rw [show chS m (opp 1) (b : Int) (if (1 : Int) = 4 then c.place else c.parent) = putS m b c.parent by simp [chS, opp], ho]
    unfold putS
    rw [if_neg (by simp only [Classical.not_not]; exact ⟨hhas, hst.valid, by omega, by rw [hst.len]; omega⟩)]
    simp only [Int.toNat_natCast, hg, hgo]
    rw [if_neg (by omega), if_neg (by simp [hlk, hdc, hpl]; omega)]
    rw [← hback]
  | close c' hk hc' h1 h4 h3 hm =>
    rw [hc] at hc'; cases hc'
    subst hk
    have hg : m[b]? = some { c with closed := true } := by rw [hm]; exact List.getElem?_set_self hb
    have hpar : ∀ k : Nat, (m[k]?).map Box.parent = (l[k]?).map Box.parent := fun i => by
      by_cases hbi : b = i
      · subst hbi; rw [hg, hc]; rfl
      · rw [hm, List.getElem?_set_ne hbi]
    have hlk : locked m b = false := by
      rw [locked_none]
      intro p hp' q hq
      rw [outside_congr hpar] at hp'
      have hpb : p ≠ b := fun e => by subst e; exact absurd (out_lt hv hc hp' hc) (by omega)
      exact locked_none.1 h4 p hp' q (by rw [hm, List.getElem?_set_ne (fun e => hpb e.symm)] at hq; exact hq)
    rw [show chS m (opp 2) (b : Int) (if (2 : Int) = 4 then c.place else c.parent) = reopenS m b by simp [chS, opp]]
    unfold reopenS
    rw [if_neg (by simpa using hhas)]
    simp only [Int.toNat_natCast, hg]
    rw [if_neg (by simp [h1, hlk])]
    simp only [Bool.true_eq_false, if_false]
    rw [hm, show ({ c with closed := false } : Box) = c by cases c; simp at h3; simp [h3], set_back hc]
  | reopen c' hk hc' h1 h4 h3 hm =>
    rw [hc] at hc'; cases hc'
    subst hk
    have hg : m[b]? = some { c with closed := false } := by rw [hm]; exact List.getElem?_set_self hb
    have hpar : ∀ k : Nat, (m[k]?).map Box.parent = (l[k]?).map Box.parent := fun i => by
      by_cases hbi : b = i
      · subst hbi; rw [hg, hc]; rfl
      · rw [hm, List.getElem?_set_ne hbi]
    have hlk : locked m b = false := by
      rw [locked_none]
      intro p hp' q hq
      rw [outside_congr hpar] at hp'
      have hpb : p ≠ b := fun e => by subst e; exact absurd (out_lt hv hc hp' hc) (by omega)
      exact locked_none.1 h4 p hp' q (by rw [hm, List.getElem?_set_ne (fun e => hpb e.symm)] at hq; exact hq)
    rw [show chS m (opp 3) (b : Int) (if (3 : Int) = 4 then c.place else c.parent) = closeS m b by simp [chS, opp]]
    unfold closeS
    rw [if_neg (by simpa using hhas)]
    simp only [Int.toNat_natCast, hg]
    rw [if_neg (by simp [h1, hlk])]
    simp only [Bool.false_eq_true, if_false]
    rw [hm, show ({ c with closed := true } : Box) = c by cases c; simp at h3; simp [h3], set_back hc]
  | move c' hk hc' hp hm =>
    rw [hc] at hc'; cases hc'
    subst hk
    have hok := hv.each b c hc
    have hpl : c.place % 12 = c.place := by have := hok.p1; have := hok.p2; omega
    have hg := moved_get l b (other % 12) l.length b c hc
    rw [← hm] at hg
    have hpar : ∀ k : Nat, (m[k]?).map Box.parent = (l[k]?).map Box.parent := fun i => by rw [hm]; exact moved_parent _ _ _ _ i
    have hgp : (if b < l.length ∧ root l b = b then { c with place := other % 12 } else c : Box).parent = -1 := by split <;> exact hp
    rw [show chS m (opp 4) (b : Int) (if (4 : Int) = 4 then c.place else c.parent) = moveS m b (c.place % 12) by simp [chS, opp], hpl]
    unfold moveS
    rw [if_neg (by simp only [Classical.not_not]; exact ⟨hhas, hok.p1, hok.p2⟩)]
    simp only [Int.toNat_natCast, hg]
    rw [if_neg (by rw [hgp]; decide)]
    simp only [Prod.mk.injEq, and_true]
    apply List.ext_getElem?
    intro i
    cases hi : l[i]? with
    | none =>
      have : m[i]? = none := by rw [List.getElem?_eq_none_iff] at hi ⊢; rw [hst.len]; exact hi
      simp [moved, this]
    | some e =>
      have hil := (List.getElem?_eq_some_iff.1 hi).1
      have hmi := moved_get l b (other % 12) l.length i e hi
      rw [← hm] at hmi
      rw [moved_get m b c.place m.length i _ hmi, root_congr hpar, hst.len]
      by_cases hr : i < l.length ∧ root l i = b
      · rw [if_pos hr, if_pos hr]
        obtain ⟨c2, e1, _, e3⟩ := root_box hv _ (Nat.le_refl _) hi
        rw [hr.2, hc] at e1; cases e1
        congr 1
        cases e; simp at e3; simp [e3]
      · rw [if_neg hr, if_neg hr]
end Go.Proofs.Ytegmhdabedgloaa
