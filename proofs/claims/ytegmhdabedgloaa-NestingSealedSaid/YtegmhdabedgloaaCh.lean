/- The changes, as one: plain. -/
import Derived.Test.YtegmhdabedgloaaCn
namespace Go.Proofs.Ytegmhdabedgloaa
open Go.PF Go.RowKit

noncomputable def chS (l : List Box) (k box other : Int) : List Box × Int :=
  if k = 0 then putS l box other else if k = 1 then takeS l box else if k = 2 then closeS l box else if k = 3 then reopenS l box else moveS l box (other % 12)

/-- What a change makes of one box. -/
structure Step (l m : List Box) (k : Int) (b : Nat) : Prop where
  len : m.length = l.length
  valid : Valid m
  each : ∀ (i : Nat) (c : Box), l[i]? = some c → ∃ d, m[i]? = some d ∧ d.label = c.label ∧ d.kind = c.kind ∧ (k ≠ 4 → d.place = c.place) ∧ (i ≠ b ∨ k > 1 → d.parent = c.parent) ∧ (i ≠ b ∨ (k ≠ 2 ∧ k ≠ 3) → d.closed = c.closed)

theorem step_set {l : List Box} {k : Int} {b : Nat} {c n : Box} (hv : Valid (l.set b n)) (hc : l[b]? = some c) (h1 : n.label = c.label) (h2 : n.kind = c.kind) (h3 : n.place = c.place) (h4 : k > 1 → n.parent = c.parent) (h5 : k ≠ 2 ∧ k ≠ 3 → n.closed = c.closed) : Step l (l.set b n) k b := by
  have hb := (List.getElem?_eq_some_iff.1 hc).1
  refine ⟨by simp, hv, fun i d hd => ?_⟩
  by_cases hib : b = i
  · subst hib
    rw [hc] at hd; cases hd
    refine ⟨n, List.getElem?_set_self hb, h1, h2, fun _ => h3, fun h => h4 (h.resolve_left (fun e => e rfl)), fun h => h5 (h.resolve_left (fun e => e rfl))⟩
  · exact ⟨d, by rw [List.getElem?_set_ne hib]; exact hd, rfl, rfl, fun _ => rfl, fun _ => rfl, fun _ => rfl⟩

/-- A change that went well, told apart. -/
inductive Went (l m : List Box) (k : Int) (b : Nat) (other : Int) : Prop
  | put (c d : Box) (hk : k = 0) (hc : l[b]? = some c) (ho : 0 ≤ other) (hd : l[other.toNat]? = some d) (hp : c.parent = -1) (h1 : c.kind < d.kind) (h2 : d.place = c.place) (h3 : d.closed = false) (h4 : locked l other.toNat = false) (hm : m = l.set b { c with parent := other })
  | take (c : Box) (hk : k = 1) (hc : l[b]? = some c) (hp : 0 ≤ c.parent) (h4 : locked l b = false) (hm : m = l.set b { c with parent := -1 })
  | close (c : Box) (hk : k = 2) (hc : l[b]? = some c) (h1 : c.kind ≠ 0) (h4 : locked l b = false) (h3 : c.closed = false) (hm : m = l.set b { c with closed := true })
  | reopen (c : Box) (hk : k = 3) (hc : l[b]? = some c) (h1 : c.kind ≠ 0) (h4 : locked l b = false) (h3 : c.closed = true) (hm : m = l.set b { c with closed := false })
  | move (c : Box) (hk : k = 4) (hc : l[b]? = some c) (hp : c.parent = -1) (hm : m = moved l b (other % 12) l.length)

theorem ch_went {l m : List Box} (hv : Valid l) {k other e : Int} {b : Nat} (hk : 0 ≤ k ∧ k ≤ 4) (hb : b < l.length) (h : chS l k (b : Int) other = (m, e)) : (e ≠ 0 ∧ m = []) ∨ (e = 0 ∧ Went l m k b other) := by
  obtain ⟨c, hc⟩ : ∃ q, l[b]? = some q := ⟨l[b], List.getElem?_eq_getElem hb⟩
  have hok := hv.each b c hc
  have hhas : BHas l (b : Int) := ⟨hv, by omega, by omega⟩
  have err : ∀ {x : List Box} {y : Int}, ([], y) = (x, e) → y ≠ 0 → (e ≠ 0 ∧ x = []) := fun h hy => by
    simp only [Prod.mk.injEq] at h; exact ⟨by rw [← h.2]; exact hy, h.1.symm⟩
  unfold chS at h
  split at h
  · rename_i h0
    unfold putS at h
    split at h
    · exact .inl (err h (by decide))
    · rename_i hh
      simp only [Classical.not_not] at hh
      obtain ⟨_, _, ho0, ho1⟩ := hh
      obtain ⟨d, hd⟩ : ∃ q, l[other.toNat]? = some q := ⟨l[other.toNat]'(by omega), List.getElem?_eq_getElem (by omega)⟩
      simp only [Int.toNat_natCast, hc, hd] at h
      split at h
      · exact .inl (err h (by decide))
      · rename_i hp
        split at h
        · exact .inl (err h (by decide))
        · rename_i hq
          simp only [Prod.mk.injEq] at h
          simp only [not_or] at hq
          exact .inr ⟨h.2.symm, .put c d h0 hc ho0 hd (by have := hok.q1; omega) (by omega) (Classical.not_not.1 hq.2.1) (by simpa using hq.2.2.1) (by simpa using hq.2.2.2) h.1.symm⟩
  · split at h
    · rename_i h0 h1
      unfold takeS at h
      rw [if_neg (by simpa using hhas)] at h
      simp only [Int.toNat_natCast, hc] at h
      split at h
      · exact .inl (err h (by decide))
      · rename_i hp
        split at h
        · exact .inl (err h (by decide))
        · rename_i hq
          simp only [Prod.mk.injEq] at h
          exact .inr ⟨h.2.symm, .take c h1 hc (by omega) (by simpa using hq) h.1.symm⟩
    · split at h
      · rename_i h0 h1 h2
        unfold closeS at h
        rw [if_neg (by simpa using hhas)] at h
        simp only [Int.toNat_natCast, hc] at h
        split at h
        · exact .inl (err h (by decide))
        · rename_i hp
          split at h
          · exact .inl (err h (by decide))
          · rename_i hq
            simp only [Prod.mk.injEq] at h
            simp only [not_or] at hp
            exact .inr ⟨h.2.symm, .close c h2 hc hp.1 (by simpa using hp.2) (by simpa using hq) h.1.symm⟩
      · split at h
        · rename_i h0 h1 h2 h3
          unfold reopenS at h
          rw [if_neg (by simpa using hhas)] at h
          simp only [Int.toNat_natCast, hc] at h
          split at h
          · exact .inl (err h (by decide))
          · rename_i hp
            split at h
            · exact .inl (err h (by decide))
            · rename_i hq
              simp only [Prod.mk.injEq] at h
              simp only [not_or] at hp
              exact .inr ⟨h.2.symm, .reopen c h3 hc hp.1 (by simpa using hp.2) (by simpa using hq) h.1.symm⟩
        · rename_i h0 h1 h2 h3
          unfold moveS at h
          rw [if_neg (by simp only [Classical.not_not]; exact ⟨hhas, by omega, by omega⟩)] at h
          simp only [Int.toNat_natCast, hc] at h
          split at h
          · exact .inl (err h (by decide))
          · rename_i hp
            simp only [Prod.mk.injEq] at h
            exact .inr ⟨h.2.symm, .move c (by omega) hc (by have := hok.q1; omega) h.1.symm⟩

theorem went_step {l m : List Box} (hv : Valid l) {k other : Int} {b : Nat} (h : Went l m k b other) : Step l m k b := by
  cases h with
  | put c d hk hc ho hd hp h1 h2 h3 h4 hm =>
    subst hm
    have hok := hv.each b c hc
    have := (List.getElem?_eq_some_iff.1 hd).1
    exact step_set (set_valid hv hc rfl rfl rfl hok.cl (by show -1 ≤ other; omega) (by show other < l.length; omega) (fun _ => ⟨d, hd, h1, h2⟩)) hc rfl rfl rfl (fun h => by omega) (fun _ => rfl)
  | take c hk hc hp h4 hm =>
    subst hm
    have hok := hv.each b c hc
    exact step_set (set_valid hv hc rfl rfl rfl hok.cl (by show -1 ≤ (-1 : Int); omega) (by show (-1 : Int) < l.length; omega) (fun h => absurd h (by show ¬ (0 : Int) ≤ -1; omega))) hc rfl rfl rfl (fun h => by omega) (fun _ => rfl)
  | close c hk hc h1 h4 h3 hm =>
    subst hm
    have hok := hv.each b c hc
    exact step_set (set_valid hv hc rfl rfl rfl (fun h => h1 h.2) hok.q1 hok.q2 hok.up) hc rfl rfl rfl (fun _ => rfl) (fun h => absurd hk h.1)
  | reopen c hk hc h1 h4 h3 hm =>
    subst hm
    have hok := hv.each b c hc
    exact step_set (set_valid hv hc rfl rfl rfl (fun h => h1 h.2) hok.q1 hok.q2 hok.up) hc rfl rfl rfl (fun _ => rfl) (fun h => absurd hk h.2)
  | move c hk hc hp hm =>
    subst hm
    refine ⟨moved_len _ _ _ _, moved_valid hv b (by omega) (by omega), fun i d hd => ⟨_, moved_get l b (other % 12) _ i d hd, ?_⟩⟩
    by_cases hr : i < l.length ∧ root l i = b
    · rw [if_pos hr]; exact ⟨rfl, rfl, fun h => absurd hk h, fun _ => rfl, fun _ => rfl⟩
    · rw [if_neg hr]; exact ⟨rfl, rfl, fun _ => rfl, fun _ => rfl, fun _ => rfl⟩

/-- A box put into another: what is outside then. -/
theorem outside_link {l : List Box} (hv : Valid l) {x o : Nat} {c d : Box} (hc : l[x]? = some c) (hd : l[o]? = some d) (hp : c.parent = -1) (hk : c.kind < d.kind) (hv' : Valid (l.set x { c with parent := (o : Int) })) :
    ∀ (m : Nat) {i : Nat} (b : Nat), (outside (l.set x { c with parent := (o : Int) }) i).length ≤ m → i < l.length →
      (b ∈ outside (l.set x { c with parent := (o : Int) }) i ↔ b ∈ outside l i ∨ ((i = x ∨ x ∈ outside l i) ∧ (b = o ∨ b ∈ outside l o)))
  | m, i, b, hm, hi => by
    have hx := (List.getElem?_eq_some_iff.1 hc).1
    have hol := (List.getElem?_eq_some_iff.1 hd).1
    have hxo : x ≠ o := fun e => by subst e; rw [hc] at hd; cases hd; omega
    have hxno : ¬ x ∈ outside l o := fun h => by have := out_lt hv hd h hc; omega
    by_cases hix : i = x
    · subst hix
      have h0 : outside l i = [] := by rw [outside_eq hv hc, if_pos (by omega)]
      have hn := List.getElem?_set_self (a := { c with parent := (o : Int) }) hx
      have he := outside_eq hv' hn
      rw [if_neg (by show ¬ (o : Int) < 0; omega)] at he
      simp only [Int.toNat_natCast] at he
      match m, hm with
      | 0, hm => rw [he] at hm; simp at hm
      | m + 1, hm =>
        have ih := outside_link hv hc hd hp hk hv' m (i := o) b (by rw [he] at hm; simpa using hm) hol
        rw [he, h0, List.mem_cons, ih]
        constructor
        · rintro (h | h | ⟨h, _⟩)
          · exact .inr ⟨.inl rfl, .inl h⟩
          · exact .inr ⟨.inl rfl, .inr h⟩
          · rcases h with h | h
            · exact absurd h.symm hxo
            · exact absurd h hxno
        · rintro (h | ⟨_, h | h⟩)
          · cases h
          · exact .inl h
          · exact .inr (.inl h)
    · have hg : (l.set x { c with parent := (o : Int) })[i]? = some l[i] := by rw [List.getElem?_set_ne (fun e => hix e.symm)]; exact List.getElem?_eq_getElem hi
      have he := outside_eq hv' hg
      have he0 := outside_eq hv (List.getElem?_eq_getElem hi)
      by_cases hpi : l[i].parent < 0
      · rw [if_pos hpi] at he he0
        rw [he, he0]
        simp [hix]
      · rw [if_neg hpi] at he he0
        obtain ⟨q, hq, _⟩ := (hv.each i _ (List.getElem?_eq_getElem hi)).up (by omega)
        have hql := (List.getElem?_eq_some_iff.1 hq).1
        match m, hm with
        | 0, hm => rw [he] at hm; simp at hm
        | m + 1, hm =>
          have ih := outside_link hv hc hd hp hk hv' m (i := l[i].parent.toNat) b (by rw [he] at hm; simpa using hm) hql
          rw [he, he0]
          simp only [List.mem_cons, ih, hix, false_or]
          constructor
          · rintro (h | h | ⟨h, h'⟩)
            · exact .inl (.inl h)
            · exact .inl (.inr h)
            · exact .inr ⟨h.imp Eq.symm id, h'⟩
          · rintro ((h | h) | ⟨h, h'⟩)
            · exact .inl h
            · exact .inr (.inl h)
            · exact .inr (.inr ⟨h.imp Eq.symm id, h'⟩)

theorem inside_link {l : List Box} (hv : Valid l) {x o b : Nat} {c d : Box} (hc : l[x]? = some c) (hd : l[o]? = some d) (hp : c.parent = -1) (hk : c.kind < d.kind) (hv' : Valid (l.set x { c with parent := (o : Int) })) (h1 : b ≠ o) (h2 : ¬ b ∈ outside l o) :
    inside (l.set x { c with parent := (o : Int) }) b = inside l b := by
  unfold inside
  rw [List.length_set]
  refine List.filter_congr fun i hi => ?_
  have hi : i < l.length := by simpa using hi
  have := outside_link hv hc hd hp hk hv' _ b (Nat.le_refl _) hi
  simp only [h1, h2, or_self, and_false, or_false] at this
  rw [Bool.eq_iff_iff]
  simpa using this

theorem not_locked {l : List Box} {i b : Nat} {q : Box} (h : locked l i = false) (hq : l[b]? = some q) (hc : q.closed = true) : ¬ b ∈ outside l i := fun hb => by
  unfold locked at h
  rw [List.any_eq_false] at h
  have := h b hb
  rw [hq] at this
  exact this hc

/-- A closed box stays as it is, whatever change is made but reopening it. -/
theorem went_sealed {l m : List Box} (hv : Valid l) {k other : Int} {x b : Nat} {q : Box} (h : Went l m k x other) (hq : l[b]? = some q) (hcl : q.closed = true) (hno : ¬ (x = b ∧ k = 3)) : (∃ q', m[b]? = some q' ∧ q'.closed = true) ∧ inside m b = inside l b := by
  have hst := went_step hv h
  constructor
  · obtain ⟨q', e1, _, _, _, _, e6⟩ := hst.each b q hq
    refine ⟨q', e1, ?_⟩
    by_cases hbx : b = x
    · subst hbx
      cases h with
      | put c d hk => rw [e6 (.inr (by omega))]; exact hcl
      | take c hk => rw [e6 (.inr (by omega))]; exact hcl
      | close c hk hc h1 h4 h3 => rw [hq] at hc; cases hc; rw [hcl] at h3; cases h3
      | reopen c hk => exact absurd ⟨rfl, hk⟩ hno
      | move c hk => rw [e6 (.inr (by omega))]; exact hcl
    · rw [e6 (.inl hbx)]; exact hcl
  · cases h with
    | put c d hk hc ho hd hp h1 h2 h3 h4 hm =>
      subst hm
      obtain ⟨o, rfl⟩ : ∃ o : Nat, other = o := ⟨other.toNat, by omega⟩
      simp only [Int.toNat_natCast] at hd h4
      exact inside_link hv hc hd hp h1 hst.valid (fun e => by subst e; rw [hq] at hd; cases hd; rw [hcl] at h3; cases h3) (not_locked h4 hq hcl)
    | take c hk hc hp h4 hm =>
      subst hm
      have hx := (List.getElem?_eq_some_iff.1 hc).1
      obtain ⟨o, ho⟩ : ∃ o : Nat, c.parent = o := ⟨c.parent.toNat, by omega⟩
      obtain ⟨d, hd, hkd, _⟩ := (hv.each x c hc).up hp
      rw [ho, Int.toNat_natCast] at hd
      have hox : x ≠ o := fun e => by subst e; rw [hc] at hd; cases hd; omega
      have hback : (l.set x { c with parent := -1 }).set x { ({ c with parent := -1 } : Box) with parent := (o : Int) } = l := by
        rw [List.set_set]
        apply List.ext_getElem?
        intro i
        by_cases hxi : x = i
        · subst hxi
          rw [List.getElem?_set_self hx, hc]
          congr 1
          cases c; simp_all
        · rw [List.getElem?_set_ne hxi]
      have hc' : (l.set x { c with parent := -1 })[x]? = some { c with parent := -1 } := List.getElem?_set_self hx
      have hd' : (l.set x { c with parent := -1 })[o]? = some d := by rw [List.getElem?_set_ne hox]; exact hd
      have hnl := not_locked h4 hq hcl
      have hlink := outside_link hst.valid hc' hd' rfl hkd (by rw [hback]; exact hv) _ b (Nat.le_refl _) (i := x) (by simpa using hx)
      rw [hback] at hlink
      have hn : ¬ (b = o ∨ b ∈ outside (l.set x { c with parent := -1 }) o) := fun h => hnl (hlink.2 (.inr ⟨.inl rfl, h⟩))
      have := inside_link hst.valid hc' hd' rfl hkd (by rw [hback]; exact hv) (fun e => hn (.inl e)) (fun e => hn (.inr e))
      rw [hback] at this
      exact this.symm
    | close c hk hc h1 h4 h3 hm =>
      subst hm
      refine inside_congr (by simp) (fun i => ?_) b
      have hx := (List.getElem?_eq_some_iff.1 hc).1
      by_cases hxi : x = i
      · subst hxi; rw [List.getElem?_set_self hx, hc]; rfl
      · rw [List.getElem?_set_ne hxi]
    | reopen c hk hc h1 h4 h3 hm =>
      subst hm
      refine inside_congr (by simp) (fun i => ?_) b
      have hx := (List.getElem?_eq_some_iff.1 hc).1
      by_cases hxi : x = i
      · subst hxi; rw [List.getElem?_set_self hx, hc]; rfl
      · rw [List.getElem?_set_ne hxi]
    | move c hk hc hp hm =>
      subst hm
      exact inside_congr (moved_len _ _ _ _) (moved_parent _ _ _ _) b
end Go.Proofs.Ytegmhdabedgloaa
