/- Texts of this claim, joined. -/
import Derived.Test.YtnjknkgomhmlfaaGreatDoorQD
import Derived.Test.YtnjknkgomhmlfaaGreatDoorProg
import Derived.KernelRfl
set_option linter.unusedSimpArgs false
set_option linter.unusedVariables false
set_option maxRecDepth 100000
set_option maxHeartbeats 4000000
namespace Go.Ord
variable {d : Dist}
abbrev UB := U × Int
def Bef (d : Dist) (a c : UB) : Prop := at2 d a.1.exit c.1.entry ≠ -1 ∧ a.2 + a.1.span + at2 d a.1.exit c.1.entry ≤ c.2
theorem Bef.trans (hd : WfD d) {a b c : UB} (ha : UOK d a.1) (hb : UOK d b.1) (hc : UOK d c.1) (h1 : Bef d a b) (h2 : Bef d b c) : Bef d a c := by
 obtain ⟨p1, p2⟩ := hd.tri _ _ _ ha.e2 hb.e1 hb.e2 h1.1 hb.way
 obtain ⟨q1, q2⟩ := hd.tri _ _ _ ha.e2 hb.e2 hc.e1 p1 h2.1
 refine ⟨q1, ?_⟩
 have := h1.2
 have := h2.2
 have := hb.long
 omega
theorem run_of_times : ∀ {l : List UB} {s : St}, (∀ x ∈ l, x.1.low ≤ x.2 ∧ x.2 ≤ x.1.high) → l.Pairwise (Bef d) → (∀ x, l.head? = some x → far d s.1 x.1 ≠ -1 ∧ s.2 + far d s.1 x.1 ≤ x.2) → Run d s (l.map (·.1))
 | [], _, _, _, _ => trivial
 | a :: l, s, hw, hp, hh => by
  obtain ⟨h1, h2⟩ := hh a rfl
  obtain ⟨w1, w2⟩ := hw a (by simp)
  rw [List.pairwise_cons] at hp
  refine ⟨⟨h1, by show s.2 + far d s.1 a.1 ≤ a.1.high; omega⟩, run_of_times (fun x hx => hw x (by simp [hx])) hp.2 fun x hx => ?_⟩
  have hb := hp.1 x (by cases l with | nil => cases hx | cons y l => simp at hx; subst hx; simp)
  refine ⟨hb.1, ?_⟩
  show beg d s a.1 + a.1.span + at2 d a.1.exit x.1.entry ≤ x.2
  have := hb.2
  have : beg d s a.1 ≤ a.2 := by unfold beg; omega
  omega
open Classical in
theorem feas_of_times (hd : WfD d) {l : List UB} (hu : ∀ x ∈ l, UOK d x.1) (hw : ∀ x ∈ l, 0 ≤ x.2 ∧ x.1.low ≤ x.2 ∧ x.2 ≤ x.1.high) (hp : l.Pairwise fun a b => Bef d a b ∨ Bef d b a) : Feas d (none, 0) (l.map (·.1)) := by
 have key : ∀ l : List UB, (∀ x ∈ l, UOK d x.1) → l.Pairwise (fun a b => Bef d a b ∨ Bef d b a) → ∃ l' : List UB, l'.Perm l ∧ l'.Pairwise (Bef d) := by
  intro l
  induction l with
  | nil => intro _ _; exact ⟨[], List.Perm.refl _, List.Pairwise.nil⟩
  | cons a l ih =>
   intro hu hp
   rw [List.pairwise_cons] at hp
   obtain ⟨l', hp', hs'⟩ := ih (fun x hx => hu x (by simp [hx])) hp.2
   refine ⟨l'.takeWhile (fun x => decide (Bef d x a)) ++ a :: l'.dropWhile (fun x => decide (Bef d x a)), ?_, ?_⟩
   ·refine List.perm_middle.trans ?_
    rw [List.takeWhile_append_dropWhile]
    exact hp'.cons a
   ·have hsplit : l'.takeWhile (fun x => decide (Bef d x a)) ++ l'.dropWhile (fun x => decide (Bef d x a)) = l' := List.takeWhile_append_dropWhile
    have hall : ∀ x ∈ l', UOK d x.1 := fun x hx => hu x (by simp [hp'.mem_iff.1 hx])
    have hor : ∀ x ∈ l', Bef d x a ∨ Bef d a x := fun x hx => (hp.1 x (hp'.mem_iff.1 hx)).symm
    rw [← hsplit, List.pairwise_append] at hs'
    obtain ⟨q1, q2, q3⟩ := hs'
    have hT : ∀ x ∈ l'.takeWhile (fun x => decide (Bef d x a)), Bef d x a := by
     have : ∀ (m : List UB), ∀ x ∈ m.takeWhile (fun x => decide (Bef d x a)), Bef d x a := by
      intro m
      induction m with
      | nil => simp
      | cons y m ihm =>
       intro x hx
       rw [List.takeWhile_cons] at hx
       split at hx
       ·rename_i hy
        rcases List.mem_cons.1 hx with rfl | hx
        ·exact of_decide_eq_true hy
        ·exact ihm x hx
       ·cases hx
     exact this l'
    have hD : ∀ x ∈ l'.dropWhile (fun x => decide (Bef d x a)), Bef d a x := by
     cases hDc : l'.dropWhile (fun x => decide (Bef d x a)) with
     | nil => simp
     | cons y m =>
      have hym : ∀ x ∈ y :: m, x ∈ l' := fun x hx => by rw [← hsplit, hDc]; simp at hx ⊢; exact .inr hx
      have hy : ¬ Bef d y a := by
       have := List.head?_dropWhile_not (fun x => decide (Bef d x a)) l'
       rw [hDc] at this
       simpa using this
      have hay : Bef d a y := (hor y (hym y (by simp))).resolve_left hy
      rw [hDc, List.pairwise_cons] at q2
      intro x hx
      rcases List.mem_cons.1 hx with rfl | hx
      ·exact hay
      ·exact hay.trans hd (hu a (by simp)) (hall y (hym y (by simp))) (hall x (hym x (by simp [hx]))) (q2.1 x hx)
    rw [List.pairwise_append]
    refine ⟨q1, List.pairwise_cons.2 ⟨hD, q2⟩, fun x hx y hy => ?_⟩
    rcases List.mem_cons.1 hy with rfl | hy
    ·exact hT x hx
    ·exact q3 x hx y hy
 obtain ⟨l', hp', hs'⟩ := key l hu hp
 refine ⟨l'.map (·.1), hp'.map _, run_of_times (fun x hx => (hw x (hp'.mem_iff.1 hx)).2) hs' fun x hx => ?_⟩
 have hm : x ∈ l := hp'.mem_iff.1 (by cases l' with | nil => cases hx | cons y m => simp at hx; subst hx; simp)
 refine ⟨by simp [far], ?_⟩
 have := (hw x hm).1
 simp [far]
 omega
theorem times_of_run (hd : WfD d) : ∀ {us : List U} {s : St}, SOK d s → 0 ≤ s.2 → (∀ u ∈ us, UOK d u) → (∀ u ∈ us, u.low ≤ u.high) → Run d s us →
  ∃ l : List UB, l.map (·.1) = us ∧ (∀ x ∈ l, 0 ≤ x.2 ∧ x.1.low ≤ x.2 ∧ x.2 ≤ x.1.high ∧ far d s.1 x.1 ≠ -1 ∧ s.2 + far d s.1 x.1 ≤ x.2) ∧ l.Pairwise (Bef d)
 | [], s, _, _, _, _, _ => ⟨[], rfl, by simp, List.Pairwise.nil⟩
 | u :: us, s, hs, h0, hu, hw, hr => by
  have hok := hu u (by simp)
  have hsp := span_nonneg hd hok
  have hfar : 0 ≤ far d s.1 u := by
   have h1 := hr.1.1
   obtain ⟨o, t⟩ := s
   cases o with
   | none => simp [far]
   | some x => exact at2_nonneg hd (hs x rfl) hok.e1 h1
  have hbeg : s.2 + far d s.1 u ≤ beg d s u := by unfold beg; omega
  obtain ⟨l, h1, h2, h3⟩ := times_of_run hd (us := us) (s := nxt d s u) (sok_nxt hok) (by show 0 ≤ beg d s u + u.span; omega) (fun x hx => hu x (by simp [hx])) (fun x hx => hw x (by simp [hx])) hr.2
  refine ⟨(u, beg d s u) :: l, by simp [h1], ?_, List.pairwise_cons.2 ⟨fun x hx => ?_, h3⟩⟩
  ·intro x hx
   rcases List.mem_cons.1 hx with rfl | hx
   ·have h4 := hr.1.2
    have h5 := hw u (by simp)
    refine ⟨by show 0 ≤ beg d s u; omega, by show u.low ≤ beg d s u; unfold beg; omega, by show beg d s u ≤ u.high; unfold beg; omega, hr.1.1, hbeg⟩
   ·obtain ⟨a1, a2, a3, a4, a5⟩ := h2 x hx
    have hxu : UOK d x.1 := hu x.1 (by rw [← h1]; simp; exact .inr ⟨x.2, hx⟩)
    obtain ⟨b1, b2⟩ := better_via hd hs hok hr.1 x.1 hxu a4
    exact ⟨a1, a2, a3, b1, by omega⟩
  ·obtain ⟨a1, a2, a3, a4, a5⟩ := h2 x hx
   exact ⟨a4, a5⟩
theorem times_of_feas (hd : WfD d) {us : List U} (hu : ∀ u ∈ us, UOK d u) (hw : ∀ u ∈ us, u.low ≤ u.high) (h : Feas d (none, 0) us) :
  ∃ l : List UB, (l.map (·.1)).Perm us ∧ (∀ x ∈ l, 0 ≤ x.2 ∧ x.1.low ≤ x.2 ∧ x.2 ≤ x.1.high) ∧ l.Pairwise (Bef d) := by
 obtain ⟨o, hp, hr⟩ := h
 obtain ⟨l, h1, h2, h3⟩ := times_of_run hd (us := o) (s := (none, 0)) (fun x hx => by cases hx) (Int.le_refl _) (fun u hu' => hu u (hp.mem_iff.1 hu')) (fun u hu' => hw u (hp.mem_iff.1 hu')) hr
 exact ⟨l, by rw [h1]; exact hp, fun x hx => ⟨(h2 x hx).1, (h2 x hx).2.1, (h2 x hx).2.2.1⟩, h3⟩
end Go.Ord
namespace Go.Ord
variable {d : Dist}
structure Ev where
 office : Int
 low : Int
 high : Int
 needs : List Int
def lowC (e : Ev) : Int := min (max e.low 0) 1000001
def highC (e : Ev) : Int := max (min e.high 1000000) (-1)
def uOf (e : Ev) : U := ⟨lowC e, highC e, 0, e.office.toNat, e.office.toNat⟩
structure EOK (d : Dist) (e : Ev) : Prop where
 o1 : 0 ≤ e.office
 o2 : e.office < d.length
theorem uok_of (hd : WfD d) {e : Ev} (h : EOK d e) : UOK d (uOf e) := by
 have : e.office.toNat < d.length := by have := h.o1; have := h.o2; omega
 exact ⟨this, this, by rw [show at2 d (uOf e).entry (uOf e).exit = at2 d e.office.toNat e.office.toNat from rfl, hd.diag _ this]; decide, by rw [show at2 d (uOf e).entry (uOf e).exit = at2 d e.office.toNat e.office.toNat from rfl, hd.diag _ this]; exact Int.le_refl _⟩
abbrev ET := Ev × Int
def Aft (d : Dist) (a b : ET) : Prop := at2 d a.1.office.toNat b.1.office.toNat ≠ -1 ∧ at2 d a.1.office.toNat b.1.office.toNat ≤ b.2 - a.2
structure HoldsN (d : Dist) (l : List ET) : Prop where
 each : ∀ x ∈ l, 0 ≤ x.2 ∧ x.2 ≤ 1000000 ∧ x.1.low ≤ x.2 ∧ x.2 ≤ x.1.high
 two : l.Pairwise fun a b => Aft d a b ∨ Aft d b a
def Poss (d : Dist) (evs : List Ev) : Prop := ∃ l : List ET, l.map (·.1) = evs ∧ HoldsN d l
theorem pairwise_or {α : Type} {R : α → α → Prop} : ∀ {l l' : List α}, l.Perm l' → l.Pairwise (fun a b => R a b ∨ R b a) → l'.Pairwise (fun a b => R a b ∨ R b a) := fun hp h => hp.pairwise h (fun h => h.symm)
theorem feas_iff (hd : WfD d) {evs : List Ev} (he : ∀ e ∈ evs, EOK d e) {us : List U} (hp : us.Perm (evs.map uOf)) : Poss d evs ↔ (∀ u ∈ us, u.low ≤ u.high) ∧ Feas d (none, 0) us := by
 constructor
 ·rintro ⟨l, rfl, h⟩
  have hwin : ∀ x ∈ l, (uOf x.1).low ≤ x.2 ∧ x.2 ≤ (uOf x.1).high := by
   intro x hx
   obtain ⟨h1, h2, h3, h4⟩ := h.each x hx
   show lowC x.1 ≤ x.2 ∧ x.2 ≤ highC x.1
   unfold lowC highC
   omega
  refine ⟨fun u hu => ?_, ?_⟩
  ·have := hp.mem_iff.1 hu
   rw [List.map_map, List.mem_map] at this
   obtain ⟨x, hx, rfl⟩ := this
   have := hwin x hx
   show (uOf x.1).low ≤ (uOf x.1).high
   omega
  ·have hf := feas_of_times hd (l := l.map fun x => (uOf x.1, x.2)) ?_ ?_ ?_
   ·obtain ⟨o, h1, h2⟩ := hf
    refine ⟨o, ?_, h2⟩
    refine h1.trans ?_
    rw [List.map_map]
    refine List.Perm.trans ?_ hp.symm
    rw [List.map_map]
    exact List.Perm.refl _
   ·intro x hx
    rw [List.mem_map] at hx
    obtain ⟨y, hy, rfl⟩ := hx
    exact uok_of hd (he _ (List.mem_map.2 ⟨y, hy, rfl⟩))
   ·intro x hx
    rw [List.mem_map] at hx
    obtain ⟨y, hy, rfl⟩ := hx
    exact ⟨(h.each y hy).1, hwin y hy⟩
   ·rw [List.pairwise_map]
    refine h.two.imp fun {a b} hab => ?_
    rcases hab with q | q
    ·exact .inl ⟨q.1, by show a.2 + 0 + at2 d a.1.office.toNat b.1.office.toNat ≤ b.2; have := q.2; omega⟩
    ·exact .inr ⟨q.1, by show b.2 + 0 + at2 d b.1.office.toNat a.1.office.toNat ≤ a.2; have := q.2; omega⟩
 ·rintro ⟨hw, hf⟩
  have hu : ∀ u ∈ us, UOK d u := fun u hu => by
   have := hp.mem_iff.1 hu
   rw [List.mem_map] at this
   obtain ⟨e, hx, rfl⟩ := this
   exact uok_of hd (he e hx)
  obtain ⟨l, h1, h2, h3⟩ := times_of_feas hd hu hw hf
  have key : ∀ (evs : List Ev) (l : List UB), (l.map (·.1)).Perm (evs.map uOf) → l.Pairwise (fun a b => Bef d a b ∨ Bef d b a) → ∃ m : List ET, m.map (·.1) = evs ∧ (m.map fun x => (uOf x.1, x.2)).Perm l := by
   intro evs
   induction evs with
   | nil =>
    intro l hl _
    have : l = [] := by
     have := hl.length_eq
     simp at this
     exact this
    subst this
    exact ⟨[], rfl, List.Perm.refl _⟩
   | cons e evs ih =>
    intro l hl hpw
    have hm : uOf e ∈ l.map (·.1) := hl.mem_iff.2 (by simp)
    rw [List.mem_map] at hm
    obtain ⟨x, hx, hxe⟩ := hm
    obtain ⟨pre, post, rfl⟩ := List.append_of_mem hx
    have h4 : ((pre ++ post).map (·.1)).Perm (evs.map uOf) := by
     have q : ((pre ++ x :: post).map (·.1)).Perm (uOf e :: (pre ++ post).map (·.1)) := by
      rw [← hxe]
      exact (List.perm_middle (a := x) (l₁ := pre) (l₂ := post)).map (fun y : UB => y.1)
     have q2 : (uOf e :: (pre ++ post).map (·.1)).Perm (uOf e :: evs.map uOf) := q.symm.trans (by simpa using hl)
     exact List.Perm.cons_inv q2
    have hpw' : (x :: (pre ++ post)).Pairwise (fun a b => Bef d a b ∨ Bef d b a) := pairwise_or List.perm_middle hpw
    obtain ⟨m, hm1, hm2⟩ := ih (pre ++ post) h4 (List.pairwise_cons.1 hpw').2
    refine ⟨(e, x.2) :: m, by simp [hm1], ?_⟩
    refine List.Perm.trans ?_ List.perm_middle.symm
    have : (uOf e, x.2) = x := by rw [← hxe]
    rw [List.map_cons]
    show ((uOf e, x.2) :: _).Perm _
    rw [this]
    exact hm2.cons x
  have hor : l.Pairwise (fun a b => Bef d a b ∨ Bef d b a) := h3.imp fun h => .inl h
  obtain ⟨m, hm1, hm2⟩ := key evs l (h1.trans hp) hor
  refine ⟨m, hm1, fun x hx => ?_, ?_⟩
  ·have hxl : (uOf x.1, x.2) ∈ l := hm2.mem_iff.1 (List.mem_map.2 ⟨x, hx, rfl⟩)
   obtain ⟨a1, a2, a3⟩ := h2 _ hxl
   have a2 : lowC x.1 ≤ x.2 := a2
   have a3 : x.2 ≤ highC x.1 := a3
   unfold lowC at a2
   unfold highC at a3
   have a1 : 0 ≤ x.2 := a1
   refine ⟨a1, by omega, by omega, by omega⟩
  ·have hpm := pairwise_or hm2.symm hor
   rw [List.pairwise_map] at hpm
   refine hpm.imp fun {a b} hab => ?_
   rcases hab with q | q
   ·refine .inl ⟨q.1, ?_⟩
    have : a.2 + 0 + at2 d a.1.office.toNat b.1.office.toNat ≤ b.2 := q.2
    omega
   ·refine .inr ⟨q.1, ?_⟩
    have : b.2 + 0 + at2 d b.1.office.toNat a.1.office.toNat ≤ a.2 := q.2
    omega
theorem Poss.sub {evs evs' : List Ev} (h : Poss d evs) (hs : evs'.Sublist evs) : Poss d evs' := by
 obtain ⟨l, rfl, h1⟩ := h
 obtain ⟨l', h2, rfl⟩ := List.sublist_map_iff.1 hs
 exact ⟨l', rfl, fun x hx => h1.each x (h2.subset hx), h1.two.sublist h2⟩
end Go.Ord
namespace Go.PF
noncomputable def dec (p : Prop) : Bool := @decide p (Classical.propDecidable p)
theorem dec_iff {p : Prop} : dec p = true ↔ p := @decide_eq_true_iff p (Classical.propDecidable p)
theorem dec_pos {p : Prop} (h : p) : dec p = true := dec_iff.2 h
theorem dec_neg {p : Prop} (h : ¬ p) : dec p = false := by
 cases hd : dec p with
 | false => rfl
 | true => exact absurd (dec_iff.1 hd) h
theorem dec_congr {p q : Prop} (h : p ↔ q) : dec p = dec q := by rw [show p = q from propext h]
theorem dec_eq_decide {p : Prop} [Decidable p] : dec p = decide p := by
 by_cases h : p
 ·rw [dec_pos h]; simp [h]
 ·rw [dec_neg h]; simp [h]
theorem nb {p : Prop} [Decidable p] (h : (!decide p) = true) : ¬ p := by simpa using h
theorem ndec {p : Prop} (h : (!dec p) = true) : ¬ p := fun hp => by rw [dec_pos hp] at h; cases h
theorem ndec' {p : Prop} (h : (!dec p) = false) : p := dec_iff.1 (by simpa using h)
end Go.PF
namespace Go.Ord
open Go.PF
structure RowOK (d : Dist) (i : Nat) (r : List Int) : Prop where
 len : r.length = d.length
 diag : r[i]? = some 0
 rng : ∀ (j : Nat) (x : Int), r[j]? = some x → -1 ≤ x ∧ x ≤ 1000000
def Tri (d : Dist) (i k j : Nat) : Prop := at2 d i k ≠ -1 → at2 d k j ≠ -1 → at2 d i j ≠ -1 ∧ at2 d i j ≤ at2 d i k + at2 d k j
theorem at2_eq {d : Dist} {i j : Nat} {r : List Int} {x : Int} (hr : d[i]? = some r) (hx : r[j]? = some x) : at2 d i j = x := by
 unfold at2
 simp [List.getD_eq_getElem?_getD, hr, hx]
theorem wfd_of {d : Dist} (h1 : d.length ≤ 12) (h2 : ∀ (i : Nat) (r : List Int), d[i]? = some r → RowOK d i r) (h3 : ∀ i k j, i < d.length → k < d.length → j < d.length → Tri d i k j) : WfD d := by
 refine ⟨h1, fun i r hr => (h2 i r hr).len, fun i hi => ?_, fun i j hi hj => ?_, h3⟩
 ·have hr : d[i]? = some d[i] := List.getElem?_eq_getElem hi
  exact at2_eq hr (h2 i _ hr).diag
 ·have hr : d[i]? = some d[i] := List.getElem?_eq_getElem hi
  have hl := (h2 i _ hr).len
  have hx : d[i][j]? = some (d[i][j]'(by omega)) := List.getElem?_eq_getElem (by omega)
  rw [at2_eq hr hx]
  exact (h2 i _ hr).rng j _ hx
theorem WfD.rowOK {d : Dist} (h : WfD d) {i : Nat} {r : List Int} (hr : d[i]? = some r) : RowOK d i r := by
 have hi := (List.getElem?_eq_some_iff.1 hr).1
 have hl := h.row i r hr
 refine ⟨hl, ?_, fun j x hx => ?_⟩
 ·have hx : r[i]? = some (r[i]'(by omega)) := List.getElem?_eq_getElem (by omega)
  have := h.diag i hi
  rw [at2_eq hr hx] at this
  rw [hx, this]
 ·have hj := (List.getElem?_eq_some_iff.1 hx).1
  have := h.rng i j hi (by omega)
  rw [at2_eq hr hx] at this
  exact this
end Go.Ord
namespace Go.PF
open Go.RowKit
class En (P : Program) (k : FuncId) : Prop where
 q : enters P k = true
class FnI (P : Program) (k : FuncId) (fn : outParam Func) (N : outParam Nat) : Prop where
 q : P.funcs[k]? = some fn
 n : fn.ntmps = N
class Sr (P : Program) (t : TypeId) (n : outParam Nat) : Prop where
 u : ∃ fs, P.underlying t = some (.struct fs)
 s : (P.info? t).map (·.size) = some n
section
variable {P : Program} {r : Option Nat} {Q : Exit → Act → World → Prop} {N : Nat} {ds : List Deferred} {ops rest : List Oper} {E : Env} {D : DE} {w : World} {G : Option Bool} {Fin : DE → Prop} {md : Mode}
variable {d : Option Tmp} {ty : TypeId} {pos : String} {af : Array Edge} {gu : Option (Nat × Bool)}
variable {x y z : Operand} {cx cy cz : Option Bool} {ρ : Operand → Value}
theorem rnT {p q : Prop} (next : q) (imp : q → p := by
  intro hq
  repeat (first
   | ((first | apply TW.v V.move | apply TW.v V.assign | apply TW.v V.lss | apply TW.v V.leq | apply TW.v V.gtr | apply TW.v V.geq | apply TW.v V.eql | apply TW.v V.neq | apply TW.v V.add | apply TW.v V.sub | apply TW.v V.mul | apply TW.v V.not | apply TW.v V.lenSlice | apply TW.v V.fieldAddr | apply TW.v V.indexAddr | apply TW.v V.extract | apply TW.v (V.conv rfl) | apply TW.v V.quo | apply TW.v V.rem | apply TW.v V.index); exact rfl; (first | exact ⟨ct, trivial⟩ | exact ⟨ct, ct, trivial⟩ | exact ⟨id, trivial⟩ | (clear hq; repeat (first | exact trivial | (apply And.intro; (first | exact ct | exact id | exact candL | (simp_all [Cnd]; done)))))); (first | exact fun _ => trivial | exact fun _ => rfl | (clear hq; intro h; (try dsimp only); (first | omega | (simp [Cnd] at h; omega)))))
   | (apply TW.pickOr; exact rfl; exact rfl; exact rfl; (first | exact ct | exact id | exact candL | (clear hq; simp_all [Cnd]; done)); exact rfl; (first | exact pT | exact pOr0 | exact pOr1 | exact pAnd0 | exact pAnd1))
   | (apply TW.pickAnd; exact rfl; exact rfl; exact rfl; (first | exact ct | exact id | exact candL | (clear hq; simp_all [Cnd]; done)); exact rfl; (first | exact pT | exact pOr0 | exact pOr1 | exact pAnd0 | exact pAnd1))
   | ((first | apply TW.v V.eqlS | apply TW.v V.lenString); exact rfl; (first | exact ⟨ct, trivial⟩ | exact ⟨ct, ct, trivial⟩ | exact ⟨id, trivial⟩ | (clear hq; repeat (first | exact trivial | (apply And.intro; (first | exact ct | exact id | exact candL | (simp_all [Cnd]; done)))))); (first | exact fun _ => trivial | exact fun _ => rfl | (clear hq; intro h; (try dsimp only); (first | omega | (simp [Cnd] at h; omega)))))
   | ((first | apply TW.v V.eqlB); exact rfl; (first | exact ⟨ct, trivial⟩ | exact ⟨ct, ct, trivial⟩ | exact ⟨id, trivial⟩ | (clear hq; repeat (first | exact trivial | (apply And.intro; (first | exact ct | exact id | exact candL | (simp_all [Cnd]; done)))))); (first | exact fun _ => trivial | exact fun _ => rfl | (clear hq; intro h; (try dsimp only); (first | omega | (simp [Cnd] at h; omega)))))
   | (apply TW.eqlNil; exact rfl; exact rfl; exact Und.q; exact rfl; (first | exact ct | exact id | exact candL | (clear hq; simp_all [Cnd]; done)))
   | refine TW.nil ?_
   | refine CW.seq ?_
   | refine CW.region ?_
   | refine KW.then_ ?_
   | refine CW.skip ?_
   | refine CW.block ?_
   | refine CW.ret ?_
   | refine KW.thenR ?_
   | refine KW.blockN ?_
   | refine CW.exit ?_
   | refine KW.blockX ?_
   | refine KW.thenX ?_
   | (refine KW.blockY ?_ ?_; exact rfl)
   | refine KW.blockR ?_
   | refine CW.scope ?_
   | refine KW.scopeN ?_
   | refine KW.scopeX ?_
   | refine KW.scopeR ?_
   | refine CW.label ?_
   )
  exact hq) : p := imp next
theorem rnD {p q : Prop} (next : q) (imp : q → p := by
  intro hq
  repeat (first
   | ((first | apply DW.v V.move | apply DW.v V.assign | apply DW.v V.lss | apply DW.v V.leq | apply DW.v V.gtr | apply DW.v V.geq | apply DW.v V.eql | apply DW.v V.neq | apply DW.v V.add | apply DW.v V.sub | apply DW.v V.mul | apply DW.v V.not | apply DW.v V.lenSlice | apply DW.v V.fieldAddr | apply DW.v V.indexAddr | apply DW.v V.extract | apply DW.v (V.conv rfl) | apply DW.v V.quo | apply DW.v V.rem | apply DW.v V.index); exact rfl; (first | exact ⟨ct, trivial⟩ | exact ⟨ct, ct, trivial⟩ | exact ⟨id, trivial⟩ | (clear hq; repeat (first | exact trivial | (apply And.intro; (first | exact ct | exact id | exact candL | (simp_all [Cnd]; done)))))); (first | exact fun _ => trivial | exact fun _ => rfl | (clear hq; intro h; (try dsimp only); (first | omega | (simp [Cnd] at h; omega)))))
   | (apply DW.pickOr; exact rfl; exact rfl; exact rfl; (first | exact ct | exact id | exact candL | (clear hq; simp_all [Cnd]; done)); exact rfl; (first | exact pT | exact pOr0 | exact pOr1 | exact pAnd0 | exact pAnd1))
   | (apply DW.pickAnd; exact rfl; exact rfl; exact rfl; (first | exact ct | exact id | exact candL | (clear hq; simp_all [Cnd]; done)); exact rfl; (first | exact pT | exact pOr0 | exact pOr1 | exact pAnd0 | exact pAnd1))
   | ((first | apply DW.v V.eqlS | apply DW.v V.lenString); exact rfl; (first | exact ⟨ct, trivial⟩ | exact ⟨ct, ct, trivial⟩ | exact ⟨id, trivial⟩ | (clear hq; repeat (first | exact trivial | (apply And.intro; (first | exact ct | exact id | exact candL | (simp_all [Cnd]; done)))))); (first | exact fun _ => trivial | exact fun _ => rfl | (clear hq; intro h; (try dsimp only); (first | omega | (simp [Cnd] at h; omega)))))
   | ((first | apply DW.v V.eqlB); exact rfl; (first | exact ⟨ct, trivial⟩ | exact ⟨ct, ct, trivial⟩ | exact ⟨id, trivial⟩ | (clear hq; repeat (first | exact trivial | (apply And.intro; (first | exact ct | exact id | exact candL | (simp_all [Cnd]; done)))))); (first | exact fun _ => trivial | exact fun _ => rfl | (clear hq; intro h; (try dsimp only); (first | omega | (simp [Cnd] at h; omega)))))
   )
  exact hq) : p := imp next
theorem look_add : ∀ {E E' : Env} {i : Nat} {c : Option Bool} {v : Value}, look (E ++ E') i = some (c, v) → look E i = some (c, v) ∨ look E' i = some (c, v)
 | [], _, _, _, _, h => .inr h
 | (j, c', v') :: E, E', i, c, v, h => by
  simp only [List.cons_append, look] at h ⊢
  cases hb : Nat.beq j i with
  | true => rw [hb] at h; exact .inl h
  | false => rw [hb] at h; exact look_add h
theorem Fit.app {E E' : Env} {a : Act} (h : Fit N ds E a) (h' : Fit N ds E' a) : Fit N ds (E ++ E') a := ⟨h.size, h.defers, fun i c v hl => (look_add hl).elim (h.slots i c v) (h'.slots i c v)⟩
theorem TW.pk (is : List Nat) {E' : Env} (hp : PF.pick E is = some E') (h : TW P r Q N ds ops rest E' w) : TW P r Q N ds ops rest E w := fun a ha => h a (ha.pick hp)
theorem CW.pk {c : Code} (is : List Nat) {E' : Env} (hp : PF.pick E is = some E') (h : CW P r Q N ds c E' w) : CW P r Q N ds c E w := CW.pick is E' hp h
theorem TW.ld {t : TypeId} {ad : Addr} {v : Value} [One P t] (h : (gd ops E gu, okDst N d, ev E x) = (some G, true, some (cx, .pointer (some ad)))) (hc : w.cell? ad = some v)
  (next : TW P r Q N ds ops rest (ins E d G v) w) (ix : Cnd G → Cnd cx := by first | exact ct | exact id | exact candL | (simp_all [Cnd]; done)) : TW P r Q N ds ops (⟨d, .load t x, ty, pos, af, gu⟩ :: rest) E w := by
 simp only [Prod.mk.injEq] at h
 exact TW.load h.1 h.2.1 One.q h.2.2 ix (fun _ => hc) next
theorem DW.ld {t : TypeId} {ad : Addr} {v : Value} [One P t] (h : (dgd ops D gu, okDst N d, dev D x) = (some G, true, some (cx, .ex (.pointer (some ad))))) (hc : w.cell? ad = some v)
  (next : DW P N ds md ops w Fin rest (dins D d G (.ex v))) (ix : Cnd G → Cnd cx := by first | exact ct | exact id | exact candL | (simp_all [Cnd]; done)) : DW P N ds md ops w Fin (⟨d, .load t x, ty, pos, af, gu⟩ :: rest) D := by
 simp only [Prod.mk.injEq] at h
 exact DW.load h.1 h.2.1 One.q h.2.2 ix (fun _ => hc) next
def evs (E : Env) : List Operand → Option (List Value)
 | [] => some []
 | x :: xs => match ev E x with
  | some (none, v) => match evs E xs with
   | some vs => some (v :: vs)
   | none => none
  | _ => none
theorem evs_args : ∀ {xs : List Operand} {vs : List Value}, evs E xs = some vs → Args N ds E G xs vs
 | [], vs, h => by simp [evs] at h; subst h; exact Args.nil
 | x :: xs, vs, h => by
  simp only [evs] at h
  split at h
  ·rename_i v hv
   split at h
   ·rename_i us hu
    simp only [Option.some.injEq] at h
    subst h
    exact Args.cons hv ct (evs_args hu)
   ·cases h
  ·cases h
theorem TW.cl {k : FuncId} {xs : List Operand} {vs : List Value} {ts : Array TypeId} {R : Value → World → Prop} [En P k] (h : (okDst N d, evs E xs) = (true, some vs)) (hc : Gives P k vs.toArray w R)
  (next : ∀ v w', R v w' → TW P r Q N ds ops rest (ins E d none v) w') : TW P r Q N ds ops (⟨d, .call ⟨.value (.func k), xs.toArray, ts⟩, ty, pos, af, none⟩ :: rest) E w := by
 simp only [Prod.mk.injEq] at h
 exact TW.call0 (cap := []) rfl h.1 En.q rfl (evs_args h.2) (by simpa using hc) next
def devs (D : DE) : List Operand → Option (List Value)
 | [] => some []
 | x :: xs => match dev D x with
  | some (none, .ex v) => match devs D xs with
   | some vs => some (v :: vs)
   | none => none
  | _ => none
theorem devs_args {L : List Nat} : ∀ {xs : List Operand} {vs : List Value}, devs D xs = some vs → DArgs L N ds D G xs vs
 | [], vs, h => by simp [devs] at h; subst h; exact DArgs.nil
 | x :: xs, vs, h => by
  simp only [devs] at h
  split at h
  ·rename_i v hv
   split at h
   ·rename_i us hu
    simp only [Option.some.injEq] at h
    subst h
    exact DArgs.cons hv ct (devs_args hu)
   ·cases h
  ·cases h
theorem DW.cl {k : FuncId} {xs : List Operand} {vs : List Value} {ts : Array TypeId} [En P k] (e : Ent) (hm : e.mono) (h : (dgd ops D gu, okDst N d, devs D xs) = (some G, true, some vs))
  (hc : Cnd G → ∀ w', Below w.heap.size w w' → Gives P k vs.toArray w' fun v w'' => Below w'.heap.size w' w'' ∧ e.sat v w'')
  (next : DW P N ds .weak ops w Fin rest (dins D d G e)) : DW P N ds .weak ops w Fin (⟨d, .call ⟨.value (.func k), xs.toArray, ts⟩, ty, pos, af, gu⟩ :: rest) D := by
 simp only [Prod.mk.injEq] at h
 exact DW.call (cap := []) e hm h.1 h.2.1 En.q rfl ct (devs_args h.2.2) (fun g w' hb => by simpa using hc g w' hb) next
theorem TW.ldS {t : TypeId} {ad : Addr} {cs : List Value} {n : Nat} [Sr P t n] (h : (gd ops E gu, okDst N d, ev E x) = (some G, true, some (cx, .pointer (some ad)))) (hc : ∀ j v, cs[j]? = some v → w.cell? (ad.add j) = some v)
  (next : TW P r Q N ds ops rest (ins E d G (.agg cs.toArray)) w) (hl : cs.length = n := by rfl) (ix : Cnd G → Cnd cx := by first | exact ct | exact id | exact candL | (simp_all [Cnd]; done)) : TW P r Q N ds ops (⟨d, .load t x, ty, pos, af, gu⟩ :: rest) E w := by
 simp only [Prod.mk.injEq] at h
 obtain ⟨fs, hu⟩ := Sr.u (P := P) (t := t)
 exact TW.loadS cs h.1 h.2.1 hu Sr.s h.2.2 ix (fun _ => hc) hl next
theorem DW.ldS {t : TypeId} {ad : Addr} {cs : List Value} {n : Nat} [Sr P t n] (h : (dgd ops D gu, okDst N d, dev D x) = (some G, true, some (cx, .ex (.pointer (some ad))))) (hc : ∀ j v, cs[j]? = some v → w.cell? (ad.add j) = some v)
  (next : DW P N ds md ops w Fin rest (dins D d G (.ex (.agg cs.toArray)))) (hl : cs.length = n := by rfl) (ix : Cnd G → Cnd cx := by first | exact ct | exact id | exact candL | (simp_all [Cnd]; done)) : DW P N ds md ops w Fin (⟨d, .load t x, ty, pos, af, gu⟩ :: rest) D := by
 simp only [Prod.mk.injEq] at h
 obtain ⟨fs, hu⟩ := Sr.u (P := P) (t := t)
 exact DW.loadS cs h.1 h.2.1 hu Sr.s h.2.2 ix (fun _ => hc) hl next
theorem DW.fi {K : Act → World → Prop} (is : List Nat) {E' : Env} (hp : dpick D is = some E') (h : ∀ w', Below w.heap.size w w' → KW N ds K E' w') : DW P N ds md ops w (fun D => ∀ a w', Below w.heap.size w w' → FitD N ds D a w' → K a w') [] D := DW.nil (DW.fin is E' hp h)
theorem gv {f : FuncId} {fn : Func} {c : Code} {vs : List Value} {R : Value → World → Prop} [FnI P f fn N]
  (h : CW P none (bodyPost P fn fun e w' => ∃ v, e = .returned v ∧ R v w') N [] c (argEnv vs 0) w) (hb : fn.body = some c := by rfl) (hle : Nat.ble vs.length N = true := by rfl) : Gives P f vs.toArray w R := gives_of _ FnI.q hb (FnI.n P f) hle rfl h
theorem gvM {f : FuncId} {fn : Func} {c : Code} {vs : List Value} {R : Value → World → Prop} [FnI P f fn N]
  (h : CW P none (bodyPostM (FR none) 0 P fn fun e w' => ∃ v, e = .returned v ∧ R v w') N [] c (argEnv vs 0) w) (hb : fn.body = some c := by rfl) (hle : Nat.ble vs.length N = true := by rfl) : Gives P f vs.toArray w R := gives_ofM _ FnI.q hb (FnI.n P f) hle rfl h
theorem CW.lp {α : Type} {c : Code} {K : Env} (ks : List Nat) (F : α → Env) (J : α → World → Prop) (m : α → Nat) (x0 : α) (h0 : J x0 w)
  (round : ∀ x w, J x w → CW P r (Exit.then (fun a' w' => ∃ x', Fit N ds (F x' ++ K) a' ∧ J x' w' ∧ m x' < m x) Q) N ds c (F x ++ K) w)
  (hK : PF.pick E ks = some K := by rfl) (hE : PF.pick E ((F x0).map (·.1)) = some (F x0) := by rfl) : CW P r Q N ds (.loop c) E w :=
 CW.loop (fun x => F x ++ K) J m x0 h0 (fun _ ha => (ha.pick hE).app (ha.pick hK)) round
theorem KW.rd {α : Type} {F : α → Env} {K : Env} {J : α → World → Prop} {m : α → Nat} {x : α} (x' : α) (hJ : J x' w) (hm : m x' < m x := by (try dsimp only); omega)
  (hp : PF.pick E ((F x' ++ K).map (·.1)) = some (F x' ++ K) := by rfl) : KW N ds (Exit.then (fun a' w' => ∃ x', Fit N ds (F x' ++ K) a' ∧ J x' w' ∧ m x' < m x) Q .normal) E w :=
 fun _ ha => ⟨x', ha.pick hp, hJ, hm⟩
variable {fn : Func} {R : Value → World → Prop} {s t : Nat} {v u : Value}
theorem rt1 (h : (fn.results, look E s) = (#[.tmp s], some (none, v))) (hR : R v w) : KW N [] (bodyPost P fn (fun e w' => ∃ v, e = .returned v ∧ R v w') .ret) E w := by
 simp only [Prod.mk.injEq] at h
 exact ret1 h.1 h.2 hR
theorem rt2 (h : (fn.results, look E s, look E t) = (#[.tmp s, .tmp t], some (none, v), some (none, u))) (hR : R (.tuple #[v, u]) w) : KW N [] (bodyPost P fn (fun e w' => ∃ v, e = .returned v ∧ R v w') .ret) E w := by
 simp only [Prod.mk.injEq] at h
 exact ret2 h.1 h.2.1 h.2.2 hR
end
end Go.PF
namespace Go.Proofs.YtnjknkgomhmlfaaGreatDoor
open Go.PF
theorem mixed : Tryz.prog.follows .mixedOrders = true := by kernel_rfl
instance io3 : One Tryz.prog 3 := ⟨by kernel_rfl⟩
theorem one3 : one Tryz.prog 3 = true := io3.q
instance is3 : Sz Tryz.prog 3 1 := ⟨by kernel_rfl⟩
theorem sz3 : (Tryz.prog.info? 3).map (·.size) = some 1 := is3.q
instance iu3 : Und Tryz.prog 3 (.int .i64) := ⟨Tryz.underlying3⟩
theorem zc3 : zeroCells Tryz.prog 3 = some [.int .i64 0] := by kernel_rfl
theorem ze3 : (Tryz.prog.info? 3).bind (·.zero) = some (.int .i64 0) := by kernel_rfl
instance io4 : One Tryz.prog 4 := ⟨by kernel_rfl⟩
instance is4 : Sz Tryz.prog 4 1 := ⟨by kernel_rfl⟩
theorem sz4 : (Tryz.prog.info? 4).map (·.size) = some 1 := is4.q
instance iu4 : Und Tryz.prog 4 (.bool) := ⟨Tryz.underlying4⟩
theorem ze4 : (Tryz.prog.info? 4).bind (·.zero) = some (.bool false) := by kernel_rfl
instance io5 : One Tryz.prog 5 := ⟨by kernel_rfl⟩
instance is5 : Sz Tryz.prog 5 1 := ⟨by kernel_rfl⟩
instance iu5 : Und Tryz.prog 5 (.int .u8) := ⟨Tryz.underlying5⟩
instance io9 : One Tryz.prog 9 := ⟨by kernel_rfl⟩
theorem one9 : one Tryz.prog 9 = true := io9.q
instance is9 : Sz Tryz.prog 9 1 := ⟨by kernel_rfl⟩
theorem sz9 : (Tryz.prog.info? 9).map (·.size) = some 1 := is9.q
instance iu9 : Und Tryz.prog 9 (.string) := ⟨Tryz.underlying9⟩
instance io22 : One Tryz.prog 22 := ⟨by kernel_rfl⟩
instance iu22 : Und Tryz.prog 22 (.slice 118) := ⟨Tryz.underlying22⟩
theorem eo22 : elemOK Tryz.prog 22 118 3 = true := by kernel_rfl
instance io23 : One Tryz.prog 23 := ⟨by kernel_rfl⟩
instance iu23 : Und Tryz.prog 23 (.slice 9) := ⟨Tryz.underlying23⟩
theorem eo23 : elemOK Tryz.prog 23 9 1 = true := by kernel_rfl
theorem go23 : growOK Tryz.prog 23 9 1 16 = true := by kernel_rfl
instance io24 : One Tryz.prog 24 := ⟨by kernel_rfl⟩
instance iu24 : Und Tryz.prog 24 (.slice 122) := ⟨Tryz.underlying24⟩
theorem eo24 : elemOK Tryz.prog 24 122 1 = true := by kernel_rfl
instance io25 : One Tryz.prog 25 := ⟨by kernel_rfl⟩
instance iu25 : Und Tryz.prog 25 (.slice 120) := ⟨Tryz.underlying25⟩
theorem eo25 : elemOK Tryz.prog 25 120 7 = true := by kernel_rfl
instance io26 : One Tryz.prog 26 := ⟨by kernel_rfl⟩
instance iu26 : Und Tryz.prog 26 (.slice 53) := ⟨Tryz.underlying26⟩
theorem eo26 : elemOK Tryz.prog 26 53 6 = true := by kernel_rfl
instance io27 : One Tryz.prog 27 := ⟨by kernel_rfl⟩
instance iu27 : Und Tryz.prog 27 (.slice 172) := ⟨Tryz.underlying27⟩
instance is29 : Sz Tryz.prog 29 6 := ⟨by kernel_rfl⟩
theorem sz29 : (Tryz.prog.info? 29).map (·.size) = some 6 := is29.q
theorem zc29 : zeroCells Tryz.prog 29 = some [.slice none 0 0, .slice none 0 0, .slice none 0 0, .slice none 0 0, .slice none 0 0, .slice none 0 0] := by kernel_rfl
instance ir29 : Sr Tryz.prog 29 6 := ⟨⟨_, Tryz.underlying29⟩, is29.q⟩
instance if29_0 : FO Tryz.prog 29 0 0 := ⟨by kernel_rfl⟩
instance if29_1 : FO Tryz.prog 29 1 1 := ⟨by kernel_rfl⟩
instance if29_2 : FO Tryz.prog 29 2 2 := ⟨by kernel_rfl⟩
instance if29_3 : FO Tryz.prog 29 3 3 := ⟨by kernel_rfl⟩
instance if29_4 : FO Tryz.prog 29 4 4 := ⟨by kernel_rfl⟩
instance if29_5 : FO Tryz.prog 29 5 5 := ⟨by kernel_rfl⟩
instance io30 : One Tryz.prog 30 := ⟨by kernel_rfl⟩
instance is30 : Sz Tryz.prog 30 1 := ⟨by kernel_rfl⟩
theorem sz30 : (Tryz.prog.info? 30).map (·.size) = some 1 := is30.q
instance iu30 : Und Tryz.prog 30 (.slice 48) := ⟨Tryz.underlying30⟩
theorem zc30 : zeroCells Tryz.prog 30 = some [.slice none 0 0] := by kernel_rfl
theorem eo30 : elemOK Tryz.prog 30 48 1 = true := by kernel_rfl
theorem go30 : growOK Tryz.prog 30 48 1 24 = true := by kernel_rfl
instance io31 : One Tryz.prog 31 := ⟨by kernel_rfl⟩
instance is31 : Sz Tryz.prog 31 1 := ⟨by kernel_rfl⟩
theorem sz31 : (Tryz.prog.info? 31).map (·.size) = some 1 := is31.q
instance iu31 : Und Tryz.prog 31 (.slice 50) := ⟨Tryz.underlying31⟩
theorem zc31 : zeroCells Tryz.prog 31 = some [.slice none 0 0] := by kernel_rfl
theorem eo31 : elemOK Tryz.prog 31 50 4 = true := by kernel_rfl
theorem go31 : growOK Tryz.prog 31 50 4 48 = true := by kernel_rfl
instance is35 : Sz Tryz.prog 35 2 := ⟨by kernel_rfl⟩
theorem sz35 : (Tryz.prog.info? 35).map (·.size) = some 2 := is35.q
theorem zc35 : zeroCells Tryz.prog 35 = some [.int .i64 0, .int .i64 0] := by kernel_rfl
instance ir35 : Sr Tryz.prog 35 2 := ⟨⟨_, Tryz.underlying35⟩, is35.q⟩
instance io39 : One Tryz.prog 39 := ⟨by kernel_rfl⟩
instance is39 : Sz Tryz.prog 39 1 := ⟨by kernel_rfl⟩
theorem sz39 : (Tryz.prog.info? 39).map (·.size) = some 1 := is39.q
instance iu39 : Und Tryz.prog 39 (.slice 35) := ⟨Tryz.underlying39⟩
theorem zc39 : zeroCells Tryz.prog 39 = some [.slice none 0 0] := by kernel_rfl
theorem eo39 : elemOK Tryz.prog 39 35 2 = true := by kernel_rfl
theorem go39 : growOK Tryz.prog 39 35 2 16 = true := by kernel_rfl
instance io48 : One Tryz.prog 48 := ⟨by kernel_rfl⟩
instance is48 : Sz Tryz.prog 48 1 := ⟨by kernel_rfl⟩
theorem sz48 : (Tryz.prog.info? 48).map (·.size) = some 1 := is48.q
instance iu48 : Und Tryz.prog 48 (.slice 3) := ⟨Tryz.underlying48⟩
theorem eo48 : elemOK Tryz.prog 48 3 1 = true := by kernel_rfl
theorem go48 : growOK Tryz.prog 48 3 1 8 = true := by kernel_rfl
theorem ze48 : (Tryz.prog.info? 48).bind (·.zero) = some (.slice none 0 0) := by kernel_rfl
instance is50 : Sz Tryz.prog 50 4 := ⟨by kernel_rfl⟩
theorem sz50 : (Tryz.prog.info? 50).map (·.size) = some 4 := is50.q
theorem zc50 : zeroCells Tryz.prog 50 = some [.int .i64 0, .int .i64 0, .int .i64 0, .slice none 0 0] := by kernel_rfl
instance ir50 : Sr Tryz.prog 50 4 := ⟨⟨_, Tryz.underlying50⟩, is50.q⟩
instance if50_0 : FO Tryz.prog 50 0 0 := ⟨by kernel_rfl⟩
instance if50_1 : FO Tryz.prog 50 1 1 := ⟨by kernel_rfl⟩
instance if50_2 : FO Tryz.prog 50 2 2 := ⟨by kernel_rfl⟩
instance if50_3 : FO Tryz.prog 50 3 3 := ⟨by kernel_rfl⟩
instance is53 : Sz Tryz.prog 53 6 := ⟨by kernel_rfl⟩
theorem sz53 : (Tryz.prog.info? 53).map (·.size) = some 6 := is53.q
theorem zc53 : zeroCells Tryz.prog 53 = some [.string ByteArray.empty, .int .i64 0, .int .i64 0, .int .i64 0, .int .i64 0, .int .i64 0] := by kernel_rfl
instance ir53 : Sr Tryz.prog 53 6 := ⟨⟨_, Tryz.underlying53⟩, is53.q⟩
instance if53_0 : FO Tryz.prog 53 0 0 := ⟨by kernel_rfl⟩
instance if53_1 : FO Tryz.prog 53 1 1 := ⟨by kernel_rfl⟩
instance if53_2 : FO Tryz.prog 53 2 2 := ⟨by kernel_rfl⟩
instance if53_3 : FO Tryz.prog 53 3 3 := ⟨by kernel_rfl⟩
instance if53_4 : FO Tryz.prog 53 4 4 := ⟨by kernel_rfl⟩
instance if53_5 : FO Tryz.prog 53 5 5 := ⟨by kernel_rfl⟩
instance is57 : Sz Tryz.prog 57 3 := ⟨by kernel_rfl⟩
theorem sz57 : (Tryz.prog.info? 57).map (·.size) = some 3 := is57.q
theorem zc57 : zeroCells Tryz.prog 57 = some [.int .i64 0, .int .i64 0, .int .i64 0] := by kernel_rfl
instance ir57 : Sr Tryz.prog 57 3 := ⟨⟨_, Tryz.underlying57⟩, is57.q⟩
instance if57_0 : FO Tryz.prog 57 0 0 := ⟨by kernel_rfl⟩
theorem fo57_0 : fieldOff Tryz.prog 57 0 = some 0 := if57_0.q
instance if57_1 : FO Tryz.prog 57 1 1 := ⟨by kernel_rfl⟩
theorem fo57_1 : fieldOff Tryz.prog 57 1 = some 1 := if57_1.q
instance if57_2 : FO Tryz.prog 57 2 2 := ⟨by kernel_rfl⟩
theorem fo57_2 : fieldOff Tryz.prog 57 2 = some 2 := if57_2.q
instance iu58 : Und Tryz.prog 58 (.slice 57) := ⟨Tryz.underlying58⟩
theorem eo58 : elemOK Tryz.prog 58 57 3 = true := by kernel_rfl
instance iu60 : Und Tryz.prog 60 (.int .i64) := ⟨Tryz.underlying60⟩
instance iu72 : Und Tryz.prog 72 (.slice 129) := ⟨Tryz.underlying72⟩
theorem eo72 : elemOK Tryz.prog 72 129 3 = true := by kernel_rfl
theorem go72 : growOK Tryz.prog 72 129 3 24 = true := by kernel_rfl
instance io75 : One Tryz.prog 75 := ⟨by kernel_rfl⟩
instance is75 : Sz Tryz.prog 75 1 := ⟨by kernel_rfl⟩
theorem sz75 : (Tryz.prog.info? 75).map (·.size) = some 1 := is75.q
instance iu75 : Und Tryz.prog 75 (.slice 31) := ⟨Tryz.underlying75⟩
theorem zc75 : zeroCells Tryz.prog 75 = some [.slice none 0 0] := by kernel_rfl
theorem eo75 : elemOK Tryz.prog 75 31 1 = true := by kernel_rfl
theorem go75 : growOK Tryz.prog 75 31 1 24 = true := by kernel_rfl
instance io81 : One Tryz.prog 81 := ⟨by kernel_rfl⟩
instance io85 : One Tryz.prog 85 := ⟨by kernel_rfl⟩
instance io88 : One Tryz.prog 88 := ⟨by kernel_rfl⟩
instance iu88 : Und Tryz.prog 88 (.slice 101) := ⟨Tryz.underlying88⟩
theorem eo88 : elemOK Tryz.prog 88 101 1 = true := by kernel_rfl
theorem go88 : growOK Tryz.prog 88 101 1 16 = true := by kernel_rfl
instance io92 : One Tryz.prog 92 := ⟨by kernel_rfl⟩
instance is92 : Sz Tryz.prog 92 1 := ⟨by kernel_rfl⟩
theorem sz92 : (Tryz.prog.info? 92).map (·.size) = some 1 := is92.q
instance iu92 : Und Tryz.prog 92 (.slice 96) := ⟨Tryz.underlying92⟩
theorem go92 : growOK Tryz.prog 92 96 1 4 = true := by kernel_rfl
instance if94_0 : FO Tryz.prog 94 0 0 := ⟨by kernel_rfl⟩
instance if94_1 : FO Tryz.prog 94 1 1 := ⟨by kernel_rfl⟩
instance if94_2 : FO Tryz.prog 94 2 2 := ⟨by kernel_rfl⟩
instance io96 : One Tryz.prog 96 := ⟨by kernel_rfl⟩
instance is96 : Sz Tryz.prog 96 1 := ⟨by kernel_rfl⟩
theorem sz96 : (Tryz.prog.info? 96).map (·.size) = some 1 := is96.q
instance iu96 : Und Tryz.prog 96 (.int .u32) := ⟨Tryz.underlying96⟩
theorem ze96 : (Tryz.prog.info? 96).bind (·.zero) = some (.int .u32 0) := by kernel_rfl
instance is98 : Sz Tryz.prog 98 2 := ⟨by kernel_rfl⟩
theorem sz98 : (Tryz.prog.info? 98).map (·.size) = some 2 := is98.q
theorem zc98 : zeroCells Tryz.prog 98 = some [.int .u32 0, .int .i64 0] := by kernel_rfl
instance ir98 : Sr Tryz.prog 98 2 := ⟨⟨_, Tryz.underlying98⟩, is98.q⟩
instance if98_0 : FO Tryz.prog 98 0 0 := ⟨by kernel_rfl⟩
instance if98_1 : FO Tryz.prog 98 1 1 := ⟨by kernel_rfl⟩
instance io101 : One Tryz.prog 101 := ⟨by kernel_rfl⟩
instance is101 : Sz Tryz.prog 101 1 := ⟨by kernel_rfl⟩
theorem sz101 : (Tryz.prog.info? 101).map (·.size) = some 1 := is101.q
instance io110 : One Tryz.prog 110 := ⟨by kernel_rfl⟩
instance is110 : Sz Tryz.prog 110 1 := ⟨by kernel_rfl⟩
theorem sz110 : (Tryz.prog.info? 110).map (·.size) = some 1 := is110.q
theorem zc110 : zeroCells Tryz.prog 110 = some [.map none] := by kernel_rfl
instance io116 : One Tryz.prog 116 := ⟨by kernel_rfl⟩
instance is116 : Sz Tryz.prog 116 1 := ⟨by kernel_rfl⟩
theorem sz116 : (Tryz.prog.info? 116).map (·.size) = some 1 := is116.q
instance iu116 : Und Tryz.prog 116 (.slice 4) := ⟨Tryz.underlying116⟩
theorem zc116 : zeroCells Tryz.prog 116 = some [.slice none 0 0] := by kernel_rfl
theorem eo116 : elemOK Tryz.prog 116 4 1 = true := by kernel_rfl
theorem go116 : growOK Tryz.prog 116 4 1 1 = true := by kernel_rfl
instance is118 : Sz Tryz.prog 118 3 := ⟨by kernel_rfl⟩
theorem sz118 : (Tryz.prog.info? 118).map (·.size) = some 3 := is118.q
theorem zc118 : zeroCells Tryz.prog 118 = some [.int .i64 0, .slice none 0 0, .slice none 0 0] := by kernel_rfl
instance ir118 : Sr Tryz.prog 118 3 := ⟨⟨_, Tryz.underlying118⟩, is118.q⟩
instance if118_0 : FO Tryz.prog 118 0 0 := ⟨by kernel_rfl⟩
instance if118_1 : FO Tryz.prog 118 1 1 := ⟨by kernel_rfl⟩
instance if118_2 : FO Tryz.prog 118 2 2 := ⟨by kernel_rfl⟩
instance is120 : Sz Tryz.prog 120 7 := ⟨by kernel_rfl⟩
theorem sz120 : (Tryz.prog.info? 120).map (·.size) = some 7 := is120.q
theorem zc120 : zeroCells Tryz.prog 120 = some [.string ByteArray.empty, .int .i64 0, .int .i64 0, .int .i64 0, .int .i64 0, .int .i64 0, .slice none 0 0] := by kernel_rfl
instance ir120 : Sr Tryz.prog 120 7 := ⟨⟨_, Tryz.underlying120⟩, is120.q⟩
instance if120_0 : FO Tryz.prog 120 0 0 := ⟨by kernel_rfl⟩
instance if120_1 : FO Tryz.prog 120 1 1 := ⟨by kernel_rfl⟩
instance if120_2 : FO Tryz.prog 120 2 2 := ⟨by kernel_rfl⟩
instance if120_3 : FO Tryz.prog 120 3 3 := ⟨by kernel_rfl⟩
instance if120_4 : FO Tryz.prog 120 4 4 := ⟨by kernel_rfl⟩
instance if120_5 : FO Tryz.prog 120 5 5 := ⟨by kernel_rfl⟩
instance if120_6 : FO Tryz.prog 120 6 6 := ⟨by kernel_rfl⟩
instance is122 : Sz Tryz.prog 122 1 := ⟨by kernel_rfl⟩
instance ir122 : Sr Tryz.prog 122 1 := ⟨⟨_, Tryz.underlying122⟩, is122.q⟩
instance if122_0 : FO Tryz.prog 122 0 0 := ⟨by kernel_rfl⟩
instance is123 : Sz Tryz.prog 123 12 := ⟨by kernel_rfl⟩
instance iu123 : Und Tryz.prog 123 (.array 12 3) := ⟨Tryz.underlying123⟩
instance is124 : Sz Tryz.prog 124 144 := ⟨by kernel_rfl⟩
theorem sz124 : (Tryz.prog.info? 124).map (·.size) = some 144 := is124.q
instance iu124 : Und Tryz.prog 124 (.array 12 123) := ⟨Tryz.underlying124⟩
theorem zc124 : zeroCells Tryz.prog 124 = some [.int .i64 0, .int .i64 0, .int .i64 0, .int .i64 0, .int .i64 0, .int .i64 0, .int .i64 0, .int .i64 0, .int .i64 0, .int .i64 0, .int .i64 0, .int .i64 0, .int .i64 0, .int .i64 0, .int .i64 0, .int .i64 0, .int .i64 0, .int .i64 0, .int .i64 0, .int .i64 0, .int .i64 0, .int .i64 0, .int .i64 0, .int .i64 0, .int .i64 0, .int .i64 0, .int .i64 0, .int .i64 0, .int .i64 0, .int .i64 0, .int .i64 0, .int .i64 0, .int .i64 0, .int .i64 0, .int .i64 0, .int .i64 0, .int .i64 0, .int .i64 0, .int .i64 0, .int .i64 0, .int .i64 0, .int .i64 0, .int .i64 0, .int .i64 0, .int .i64 0, .int .i64 0, .int .i64 0, .int .i64 0, .int .i64 0, .int .i64 0, .int .i64 0, .int .i64 0, .int .i64 0, .int .i64 0, .int .i64 0, .int .i64 0, .int .i64 0, .int .i64 0, .int .i64 0, .int .i64 0, .int .i64 0, .int .i64 0, .int .i64 0, .int .i64 0, .int .i64 0, .int .i64 0, .int .i64 0, .int .i64 0, .int .i64 0, .int .i64 0, .int .i64 0, .int .i64 0, .int .i64 0, .int .i64 0, .int .i64 0, .int .i64 0, .int .i64 0, .int .i64 0, .int .i64 0, .int .i64 0, .int .i64 0, .int .i64 0, .int .i64 0, .int .i64 0, .int .i64 0, .int .i64 0, .int .i64 0, .int .i64 0, .int .i64 0, .int .i64 0, .int .i64 0, .int .i64 0, .int .i64 0, .int .i64 0, .int .i64 0, .int .i64 0, .int .i64 0, .int .i64 0, .int .i64 0, .int .i64 0, .int .i64 0, .int .i64 0, .int .i64 0, .int .i64 0, .int .i64 0, .int .i64 0, .int .i64 0, .int .i64 0, .int .i64 0, .int .i64 0, .int .i64 0, .int .i64 0, .int .i64 0, .int .i64 0, .int .i64 0, .int .i64 0, .int .i64 0, .int .i64 0, .int .i64 0, .int .i64 0, .int .i64 0, .int .i64 0, .int .i64 0, .int .i64 0, .int .i64 0, .int .i64 0, .int .i64 0, .int .i64 0, .int .i64 0, .int .i64 0, .int .i64 0, .int .i64 0, .int .i64 0, .int .i64 0, .int .i64 0, .int .i64 0, .int .i64 0, .int .i64 0, .int .i64 0, .int .i64 0, .int .i64 0, .int .i64 0, .int .i64 0, .int .i64 0] := by kernel_rfl
instance io126 : One Tryz.prog 126 := ⟨by kernel_rfl⟩
instance if141_0 : FO Tryz.prog 141 0 0 := ⟨by kernel_rfl⟩
theorem fo141_0 : fieldOff Tryz.prog 141 0 = some 0 := if141_0.q
instance if141_1 : FO Tryz.prog 141 1 3 := ⟨by kernel_rfl⟩
instance if141_2 : FO Tryz.prog 141 2 7 := ⟨by kernel_rfl⟩
instance if143_0 : FO Tryz.prog 143 0 0 := ⟨by kernel_rfl⟩
instance if143_1 : FO Tryz.prog 143 1 1 := ⟨by kernel_rfl⟩
instance is151 : Sz Tryz.prog 151 3 := ⟨by kernel_rfl⟩
theorem sz151 : (Tryz.prog.info? 151).map (·.size) = some 3 := is151.q
theorem zc151 : zeroCells Tryz.prog 151 = some [.int .i64 0, .int .i64 0, .int .i64 0] := by kernel_rfl
instance if151_0 : FO Tryz.prog 151 0 0 := ⟨by kernel_rfl⟩
instance if151_1 : FO Tryz.prog 151 1 1 := ⟨by kernel_rfl⟩
instance if151_2 : FO Tryz.prog 151 2 2 := ⟨by kernel_rfl⟩
instance iu153 : Und Tryz.prog 153 (.slice 98) := ⟨Tryz.underlying153⟩
theorem eo153 : elemOK Tryz.prog 153 98 2 = true := by kernel_rfl
theorem go153 : growOK Tryz.prog 153 98 2 16 = true := by kernel_rfl
instance io155 : One Tryz.prog 155 := ⟨by kernel_rfl⟩
instance io161 : One Tryz.prog 161 := ⟨by kernel_rfl⟩
instance io164 : One Tryz.prog 164 := ⟨by kernel_rfl⟩
instance io167 : One Tryz.prog 167 := ⟨by kernel_rfl⟩
instance io170 : One Tryz.prog 170 := ⟨by kernel_rfl⟩
instance is172 : Sz Tryz.prog 172 3 := ⟨by kernel_rfl⟩
instance ir172 : Sr Tryz.prog 172 3 := ⟨⟨_, Tryz.underlying172⟩, is172.q⟩
instance if172_0 : FO Tryz.prog 172 0 0 := ⟨by kernel_rfl⟩
instance if172_1 : FO Tryz.prog 172 1 1 := ⟨by kernel_rfl⟩
instance if172_2 : FO Tryz.prog 172 2 2 := ⟨by kernel_rfl⟩
instance io174 : One Tryz.prog 174 := ⟨by kernel_rfl⟩
instance iu178 : Und Tryz.prog 178 (.slice 183) := ⟨Tryz.underlying178⟩
theorem eo178 : elemOK Tryz.prog 178 183 7 = true := by kernel_rfl
theorem go178 : growOK Tryz.prog 178 183 7 56 = true := by kernel_rfl
instance iu181 : Und Tryz.prog 181 (.slice 186) := ⟨Tryz.underlying181⟩
theorem eo181 : elemOK Tryz.prog 181 186 4 = true := by kernel_rfl
theorem go181 : growOK Tryz.prog 181 186 4 32 = true := by kernel_rfl
instance is183 : Sz Tryz.prog 183 7 := ⟨by kernel_rfl⟩
theorem sz183 : (Tryz.prog.info? 183).map (·.size) = some 7 := is183.q
theorem zc183 : zeroCells Tryz.prog 183 = some [.int .i64 0, .int .i64 0, .int .i64 0, .int .i64 0, .int .i64 0, .int .i64 0, .int .i64 0] := by kernel_rfl
instance ir183 : Sr Tryz.prog 183 7 := ⟨⟨_, Tryz.underlying183⟩, is183.q⟩
instance if183_0 : FO Tryz.prog 183 0 0 := ⟨by kernel_rfl⟩
instance if183_1 : FO Tryz.prog 183 1 1 := ⟨by kernel_rfl⟩
instance if183_2 : FO Tryz.prog 183 2 2 := ⟨by kernel_rfl⟩
instance if183_3 : FO Tryz.prog 183 3 3 := ⟨by kernel_rfl⟩
instance if183_4 : FO Tryz.prog 183 4 4 := ⟨by kernel_rfl⟩
instance if183_5 : FO Tryz.prog 183 5 5 := ⟨by kernel_rfl⟩
instance if183_6 : FO Tryz.prog 183 6 6 := ⟨by kernel_rfl⟩
instance is186 : Sz Tryz.prog 186 4 := ⟨by kernel_rfl⟩
theorem sz186 : (Tryz.prog.info? 186).map (·.size) = some 4 := is186.q
theorem zc186 : zeroCells Tryz.prog 186 = some [.int .i64 0, .int .i64 0, .int .i64 0, .int .i64 0] := by kernel_rfl
instance ir186 : Sr Tryz.prog 186 4 := ⟨⟨_, Tryz.underlying186⟩, is186.q⟩
instance if186_0 : FO Tryz.prog 186 0 0 := ⟨by kernel_rfl⟩
instance if186_1 : FO Tryz.prog 186 1 1 := ⟨by kernel_rfl⟩
instance if186_2 : FO Tryz.prog 186 2 2 := ⟨by kernel_rfl⟩
instance if186_3 : FO Tryz.prog 186 3 3 := ⟨by kernel_rfl⟩
instance io194 : One Tryz.prog 194 := ⟨by kernel_rfl⟩
theorem one194 : one Tryz.prog 194 = true := io194.q
instance is194 : Sz Tryz.prog 194 1 := ⟨by kernel_rfl⟩
theorem sz194 : (Tryz.prog.info? 194).map (·.size) = some 1 := is194.q
instance is195 : Sz Tryz.prog 195 3 := ⟨by kernel_rfl⟩
theorem sz195 : (Tryz.prog.info? 195).map (·.size) = some 3 := is195.q
instance iu195 : Und Tryz.prog 195 (.array 3 194) := ⟨Tryz.underlying195⟩
theorem zc195 : zeroCells Tryz.prog 195 = some [.nilFunc, .nilFunc, .nilFunc] := by kernel_rfl
instance iu202 : Und Tryz.prog 202 (.int .u64) := ⟨Tryz.underlying202⟩
instance iu210 : Und Tryz.prog 210 (.slice 5) := ⟨Tryz.underlying210⟩
instance is211 : Sz Tryz.prog 211 17 := ⟨by kernel_rfl⟩
theorem sz211 : (Tryz.prog.info? 211).map (·.size) = some 17 := is211.q
instance iu211 : Und Tryz.prog 211 (.array 17 9) := ⟨Tryz.underlying211⟩
instance ig3 : FnI Tryz.prog 3 Tryz.f3 102 := ⟨Tryz.func3, Tryz.ntmps3⟩
instance ie11 : En Tryz.prog 11 := ⟨by kernel_rfl⟩
instance ig11 : FnI Tryz.prog 11 Tryz.f11 156 := ⟨Tryz.func11, Tryz.ntmps11⟩
instance ie12 : En Tryz.prog 12 := ⟨by kernel_rfl⟩
instance ig12 : FnI Tryz.prog 12 Tryz.f12 46 := ⟨Tryz.func12, Tryz.ntmps12⟩
instance ie13 : En Tryz.prog 13 := ⟨by kernel_rfl⟩
theorem en13 : enters Tryz.prog 13 = true := ie13.q
instance ig13 : FnI Tryz.prog 13 Tryz.f13 26 := ⟨Tryz.func13, Tryz.ntmps13⟩
instance ie14 : En Tryz.prog 14 := ⟨by kernel_rfl⟩
instance ig14 : FnI Tryz.prog 14 Tryz.f14 26 := ⟨Tryz.func14, Tryz.ntmps14⟩
instance ie15 : En Tryz.prog 15 := ⟨by kernel_rfl⟩
theorem en15 : enters Tryz.prog 15 = true := ie15.q
instance ig15 : FnI Tryz.prog 15 Tryz.f15 26 := ⟨Tryz.func15, Tryz.ntmps15⟩
instance ie16 : En Tryz.prog 16 := ⟨by kernel_rfl⟩
theorem en16 : enters Tryz.prog 16 = true := ie16.q
instance ig16 : FnI Tryz.prog 16 Tryz.f16 57 := ⟨Tryz.func16, Tryz.ntmps16⟩
instance ie17 : En Tryz.prog 17 := ⟨by kernel_rfl⟩
theorem en17 : enters Tryz.prog 17 = true := ie17.q
instance ig17 : FnI Tryz.prog 17 Tryz.f17 82 := ⟨Tryz.func17, Tryz.ntmps17⟩
instance ie18 : En Tryz.prog 18 := ⟨by kernel_rfl⟩
theorem en18 : enters Tryz.prog 18 = true := ie18.q
instance ig18 : FnI Tryz.prog 18 Tryz.f18 37 := ⟨Tryz.func18, Tryz.ntmps18⟩
instance ie19 : En Tryz.prog 19 := ⟨by kernel_rfl⟩
theorem en19 : enters Tryz.prog 19 = true := ie19.q
instance ig19 : FnI Tryz.prog 19 Tryz.f19 36 := ⟨Tryz.func19, Tryz.ntmps19⟩
instance ie20 : En Tryz.prog 20 := ⟨by kernel_rfl⟩
theorem en20 : enters Tryz.prog 20 = true := ie20.q
instance ig20 : FnI Tryz.prog 20 Tryz.f20 44 := ⟨Tryz.func20, Tryz.ntmps20⟩
instance ie21 : En Tryz.prog 21 := ⟨by kernel_rfl⟩
theorem en21 : enters Tryz.prog 21 = true := ie21.q
instance ig21 : FnI Tryz.prog 21 Tryz.f21 55 := ⟨Tryz.func21, Tryz.ntmps21⟩
instance ie25 : En Tryz.prog 25 := ⟨by kernel_rfl⟩
theorem en25 : enters Tryz.prog 25 = true := ie25.q
instance ig25 : FnI Tryz.prog 25 Tryz.f25 88 := ⟨Tryz.func25, Tryz.ntmps25⟩
instance ie26 : En Tryz.prog 26 := ⟨by kernel_rfl⟩
instance ig26 : FnI Tryz.prog 26 Tryz.f26 54 := ⟨Tryz.func26, Tryz.ntmps26⟩
instance ie27 : En Tryz.prog 27 := ⟨by kernel_rfl⟩
theorem en27 : enters Tryz.prog 27 = true := ie27.q
instance ig27 : FnI Tryz.prog 27 Tryz.f27 22 := ⟨Tryz.func27, Tryz.ntmps27⟩
instance ie28 : En Tryz.prog 28 := ⟨by kernel_rfl⟩
instance ig28 : FnI Tryz.prog 28 Tryz.f28 42 := ⟨Tryz.func28, Tryz.ntmps28⟩
instance ie30 : En Tryz.prog 30 := ⟨by kernel_rfl⟩
instance ig30 : FnI Tryz.prog 30 Tryz.f30 21 := ⟨Tryz.func30, Tryz.ntmps30⟩
instance ie31 : En Tryz.prog 31 := ⟨by kernel_rfl⟩
instance ig31 : FnI Tryz.prog 31 Tryz.f31 51 := ⟨Tryz.func31, Tryz.ntmps31⟩
instance ie32 : En Tryz.prog 32 := ⟨by kernel_rfl⟩
instance ig32 : FnI Tryz.prog 32 Tryz.f32 6 := ⟨Tryz.func32, Tryz.ntmps32⟩
instance ie33 : En Tryz.prog 33 := ⟨by kernel_rfl⟩
instance ig33 : FnI Tryz.prog 33 Tryz.f33 90 := ⟨Tryz.func33, Tryz.ntmps33⟩
instance ie34 : En Tryz.prog 34 := ⟨by kernel_rfl⟩
instance ig34 : FnI Tryz.prog 34 Tryz.f34 41 := ⟨Tryz.func34, Tryz.ntmps34⟩
instance ie35 : En Tryz.prog 35 := ⟨by kernel_rfl⟩
theorem en35 : enters Tryz.prog 35 = true := ie35.q
instance ig35 : FnI Tryz.prog 35 Tryz.f35 29 := ⟨Tryz.func35, Tryz.ntmps35⟩
instance ie36 : En Tryz.prog 36 := ⟨by kernel_rfl⟩
instance ig36 : FnI Tryz.prog 36 Tryz.f36 22 := ⟨Tryz.func36, Tryz.ntmps36⟩
instance ie37 : En Tryz.prog 37 := ⟨by kernel_rfl⟩
instance ig37 : FnI Tryz.prog 37 Tryz.f37 6 := ⟨Tryz.func37, Tryz.ntmps37⟩
instance ie38 : En Tryz.prog 38 := ⟨by kernel_rfl⟩
instance ig38 : FnI Tryz.prog 38 Tryz.f38 10 := ⟨Tryz.func38, Tryz.ntmps38⟩
instance ie39 : En Tryz.prog 39 := ⟨by kernel_rfl⟩
instance ig39 : FnI Tryz.prog 39 Tryz.f39 7 := ⟨Tryz.func39, Tryz.ntmps39⟩
instance ie40 : En Tryz.prog 40 := ⟨by kernel_rfl⟩
theorem en40 : enters Tryz.prog 40 = true := ie40.q
instance ig40 : FnI Tryz.prog 40 Tryz.f40 20 := ⟨Tryz.func40, Tryz.ntmps40⟩
instance ie41 : En Tryz.prog 41 := ⟨by kernel_rfl⟩
theorem en41 : enters Tryz.prog 41 = true := ie41.q
instance ig41 : FnI Tryz.prog 41 Tryz.f41 40 := ⟨Tryz.func41, Tryz.ntmps41⟩
instance ie42 : En Tryz.prog 42 := ⟨by kernel_rfl⟩
instance ig42 : FnI Tryz.prog 42 Tryz.f42 67 := ⟨Tryz.func42, Tryz.ntmps42⟩
instance ie43 : En Tryz.prog 43 := ⟨by kernel_rfl⟩
instance ig43 : FnI Tryz.prog 43 Tryz.f43 8 := ⟨Tryz.func43, Tryz.ntmps43⟩
instance ie44 : En Tryz.prog 44 := ⟨by kernel_rfl⟩
theorem en44 : enters Tryz.prog 44 = true := ie44.q
instance ig44 : FnI Tryz.prog 44 Tryz.f44 9 := ⟨Tryz.func44, Tryz.ntmps44⟩
instance ie45 : En Tryz.prog 45 := ⟨by kernel_rfl⟩
theorem en45 : enters Tryz.prog 45 = true := ie45.q
instance ig45 : FnI Tryz.prog 45 Tryz.f45 9 := ⟨Tryz.func45, Tryz.ntmps45⟩
instance ie46 : En Tryz.prog 46 := ⟨by kernel_rfl⟩
instance ig46 : FnI Tryz.prog 46 Tryz.f46 49 := ⟨Tryz.func46, Tryz.ntmps46⟩
instance ie47 : En Tryz.prog 47 := ⟨by kernel_rfl⟩
instance ig47 : FnI Tryz.prog 47 Tryz.f47 71 := ⟨Tryz.func47, Tryz.ntmps47⟩
instance ie48 : En Tryz.prog 48 := ⟨by kernel_rfl⟩
instance ig48 : FnI Tryz.prog 48 Tryz.f48 116 := ⟨Tryz.func48, Tryz.ntmps48⟩
instance ie49 : En Tryz.prog 49 := ⟨by kernel_rfl⟩
instance ig49 : FnI Tryz.prog 49 Tryz.f49 73 := ⟨Tryz.func49, Tryz.ntmps49⟩
instance ie50 : En Tryz.prog 50 := ⟨by kernel_rfl⟩
instance ig50 : FnI Tryz.prog 50 Tryz.f50 51 := ⟨Tryz.func50, Tryz.ntmps50⟩
instance ie51 : En Tryz.prog 51 := ⟨by kernel_rfl⟩
instance ig51 : FnI Tryz.prog 51 Tryz.f51 144 := ⟨Tryz.func51, Tryz.ntmps51⟩
instance ie52 : En Tryz.prog 52 := ⟨by kernel_rfl⟩
theorem en52 : enters Tryz.prog 52 = true := ie52.q
instance ig52 : FnI Tryz.prog 52 Tryz.f52 64 := ⟨Tryz.func52, Tryz.ntmps52⟩
instance ie53 : En Tryz.prog 53 := ⟨by kernel_rfl⟩
instance ig53 : FnI Tryz.prog 53 Tryz.f53 27 := ⟨Tryz.func53, Tryz.ntmps53⟩
instance ie54 : En Tryz.prog 54 := ⟨by kernel_rfl⟩
instance ig54 : FnI Tryz.prog 54 Tryz.f54 23 := ⟨Tryz.func54, Tryz.ntmps54⟩
instance ie55 : En Tryz.prog 55 := ⟨by kernel_rfl⟩
instance ig55 : FnI Tryz.prog 55 Tryz.f55 31 := ⟨Tryz.func55, Tryz.ntmps55⟩
instance ie56 : En Tryz.prog 56 := ⟨by kernel_rfl⟩
instance ig56 : FnI Tryz.prog 56 Tryz.f56 6 := ⟨Tryz.func56, Tryz.ntmps56⟩
instance ie57 : En Tryz.prog 57 := ⟨by kernel_rfl⟩
instance ig57 : FnI Tryz.prog 57 Tryz.f57 33 := ⟨Tryz.func57, Tryz.ntmps57⟩
instance ie58 : En Tryz.prog 58 := ⟨by kernel_rfl⟩
theorem en58 : enters Tryz.prog 58 = true := ie58.q
instance ig58 : FnI Tryz.prog 58 Tryz.f58 9 := ⟨Tryz.func58, Tryz.ntmps58⟩
instance ie59 : En Tryz.prog 59 := ⟨by kernel_rfl⟩
instance ig59 : FnI Tryz.prog 59 Tryz.f59 9 := ⟨Tryz.func59, Tryz.ntmps59⟩
instance ie60 : En Tryz.prog 60 := ⟨by kernel_rfl⟩
theorem en60 : enters Tryz.prog 60 = true := ie60.q
instance ig60 : FnI Tryz.prog 60 Tryz.f60 7 := ⟨Tryz.func60, Tryz.ntmps60⟩
instance ie61 : En Tryz.prog 61 := ⟨by kernel_rfl⟩
instance ig61 : FnI Tryz.prog 61 Tryz.f61 8 := ⟨Tryz.func61, Tryz.ntmps61⟩
instance ie63 : En Tryz.prog 63 := ⟨by kernel_rfl⟩
instance ig63 : FnI Tryz.prog 63 Tryz.f63 57 := ⟨Tryz.func63, Tryz.ntmps63⟩
instance ie64 : En Tryz.prog 64 := ⟨by kernel_rfl⟩
instance ig64 : FnI Tryz.prog 64 Tryz.f64 86 := ⟨Tryz.func64, Tryz.ntmps64⟩
instance ie65 : En Tryz.prog 65 := ⟨by kernel_rfl⟩
instance ig65 : FnI Tryz.prog 65 Tryz.f65 13 := ⟨Tryz.func65, Tryz.ntmps65⟩
instance ie66 : En Tryz.prog 66 := ⟨by kernel_rfl⟩
instance ig66 : FnI Tryz.prog 66 Tryz.f66 110 := ⟨Tryz.func66, Tryz.ntmps66⟩
instance ie67 : En Tryz.prog 67 := ⟨by kernel_rfl⟩
theorem en67 : enters Tryz.prog 67 = true := ie67.q
instance ig67 : FnI Tryz.prog 67 Tryz.f67 9 := ⟨Tryz.func67, Tryz.ntmps67⟩
instance ie68 : En Tryz.prog 68 := ⟨by kernel_rfl⟩
theorem en68 : enters Tryz.prog 68 = true := ie68.q
instance ig68 : FnI Tryz.prog 68 Tryz.f68 14 := ⟨Tryz.func68, Tryz.ntmps68⟩
instance ie69 : En Tryz.prog 69 := ⟨by kernel_rfl⟩
theorem en69 : enters Tryz.prog 69 = true := ie69.q
instance ig69 : FnI Tryz.prog 69 Tryz.f69 40 := ⟨Tryz.func69, Tryz.ntmps69⟩
instance ie70 : En Tryz.prog 70 := ⟨by kernel_rfl⟩
instance ig70 : FnI Tryz.prog 70 Tryz.f70 6 := ⟨Tryz.func70, Tryz.ntmps70⟩
instance ie71 : En Tryz.prog 71 := ⟨by kernel_rfl⟩
instance ig71 : FnI Tryz.prog 71 Tryz.f71 9 := ⟨Tryz.func71, Tryz.ntmps71⟩
instance ie72 : En Tryz.prog 72 := ⟨by kernel_rfl⟩
theorem en72 : enters Tryz.prog 72 = true := ie72.q
instance ig72 : FnI Tryz.prog 72 Tryz.f72 23 := ⟨Tryz.func72, Tryz.ntmps72⟩
instance ie73 : En Tryz.prog 73 := ⟨by kernel_rfl⟩
instance ig73 : FnI Tryz.prog 73 Tryz.f73 46 := ⟨Tryz.func73, Tryz.ntmps73⟩
instance ie74 : En Tryz.prog 74 := ⟨by kernel_rfl⟩
theorem en74 : enters Tryz.prog 74 = true := ie74.q
instance ig74 : FnI Tryz.prog 74 Tryz.f74 115 := ⟨Tryz.func74, Tryz.ntmps74⟩
instance ie75 : En Tryz.prog 75 := ⟨by kernel_rfl⟩
instance ig75 : FnI Tryz.prog 75 Tryz.f75 94 := ⟨Tryz.func75, Tryz.ntmps75⟩
instance ie76 : En Tryz.prog 76 := ⟨by kernel_rfl⟩
theorem en76 : enters Tryz.prog 76 = true := ie76.q
instance ig76 : FnI Tryz.prog 76 Tryz.f76 15 := ⟨Tryz.func76, Tryz.ntmps76⟩
instance ie77 : En Tryz.prog 77 := ⟨by kernel_rfl⟩
theorem en77 : enters Tryz.prog 77 = true := ie77.q
instance ig77 : FnI Tryz.prog 77 Tryz.f77 36 := ⟨Tryz.func77, Tryz.ntmps77⟩
instance ie78 : En Tryz.prog 78 := ⟨by kernel_rfl⟩
instance ig78 : FnI Tryz.prog 78 Tryz.f78 19 := ⟨Tryz.func78, Tryz.ntmps78⟩
instance ie79 : En Tryz.prog 79 := ⟨by kernel_rfl⟩
theorem en79 : enters Tryz.prog 79 = true := ie79.q
instance ig79 : FnI Tryz.prog 79 Tryz.f79 18 := ⟨Tryz.func79, Tryz.ntmps79⟩
instance ie80 : En Tryz.prog 80 := ⟨by kernel_rfl⟩
instance ig80 : FnI Tryz.prog 80 Tryz.f80 102 := ⟨Tryz.func80, Tryz.ntmps80⟩
instance ie81 : En Tryz.prog 81 := ⟨by kernel_rfl⟩
theorem en81 : enters Tryz.prog 81 = true := ie81.q
instance ig81 : FnI Tryz.prog 81 Tryz.f81 22 := ⟨Tryz.func81, Tryz.ntmps81⟩
instance ie82 : En Tryz.prog 82 := ⟨by kernel_rfl⟩
instance ig82 : FnI Tryz.prog 82 Tryz.f82 9 := ⟨Tryz.func82, Tryz.ntmps82⟩
instance ie83 : En Tryz.prog 83 := ⟨by kernel_rfl⟩
theorem en83 : enters Tryz.prog 83 = true := ie83.q
instance ig83 : FnI Tryz.prog 83 Tryz.f83 22 := ⟨Tryz.func83, Tryz.ntmps83⟩
instance ie84 : En Tryz.prog 84 := ⟨by kernel_rfl⟩
instance ig84 : FnI Tryz.prog 84 Tryz.f84 20 := ⟨Tryz.func84, Tryz.ntmps84⟩
instance ie85 : En Tryz.prog 85 := ⟨by kernel_rfl⟩
instance ig85 : FnI Tryz.prog 85 Tryz.f85 49 := ⟨Tryz.func85, Tryz.ntmps85⟩
instance ie86 : En Tryz.prog 86 := ⟨by kernel_rfl⟩
instance ig86 : FnI Tryz.prog 86 Tryz.f86 61 := ⟨Tryz.func86, Tryz.ntmps86⟩
instance ie87 : En Tryz.prog 87 := ⟨by kernel_rfl⟩
instance ig87 : FnI Tryz.prog 87 Tryz.f87 9 := ⟨Tryz.func87, Tryz.ntmps87⟩
instance ie88 : En Tryz.prog 88 := ⟨by kernel_rfl⟩
theorem en88 : enters Tryz.prog 88 = true := ie88.q
instance ig88 : FnI Tryz.prog 88 Tryz.f88 21 := ⟨Tryz.func88, Tryz.ntmps88⟩
instance ie89 : En Tryz.prog 89 := ⟨by kernel_rfl⟩
theorem en89 : enters Tryz.prog 89 = true := ie89.q
instance ig89 : FnI Tryz.prog 89 Tryz.f89 5 := ⟨Tryz.func89, Tryz.ntmps89⟩
instance ie90 : En Tryz.prog 90 := ⟨by kernel_rfl⟩
instance ig90 : FnI Tryz.prog 90 Tryz.f90 9 := ⟨Tryz.func90, Tryz.ntmps90⟩
instance ie91 : En Tryz.prog 91 := ⟨by kernel_rfl⟩
instance ig91 : FnI Tryz.prog 91 Tryz.f91 4 := ⟨Tryz.func91, Tryz.ntmps91⟩
instance ie92 : En Tryz.prog 92 := ⟨by kernel_rfl⟩
theorem en92 : enters Tryz.prog 92 = true := ie92.q
instance ig92 : FnI Tryz.prog 92 Tryz.f92 38 := ⟨Tryz.func92, Tryz.ntmps92⟩
instance ie93 : En Tryz.prog 93 := ⟨by kernel_rfl⟩
instance ig93 : FnI Tryz.prog 93 Tryz.f93 19 := ⟨Tryz.func93, Tryz.ntmps93⟩
instance ie94 : En Tryz.prog 94 := ⟨by kernel_rfl⟩
theorem en94 : enters Tryz.prog 94 = true := ie94.q
instance ig94 : FnI Tryz.prog 94 Tryz.f94 14 := ⟨Tryz.func94, Tryz.ntmps94⟩
instance ie95 : En Tryz.prog 95 := ⟨by kernel_rfl⟩
instance ig95 : FnI Tryz.prog 95 Tryz.f95 57 := ⟨Tryz.func95, Tryz.ntmps95⟩
instance ie96 : En Tryz.prog 96 := ⟨by kernel_rfl⟩
theorem en96 : enters Tryz.prog 96 = true := ie96.q
instance ig96 : FnI Tryz.prog 96 Tryz.f96 43 := ⟨Tryz.func96, Tryz.ntmps96⟩
instance ie97 : En Tryz.prog 97 := ⟨by kernel_rfl⟩
theorem en97 : enters Tryz.prog 97 = true := ie97.q
instance ig97 : FnI Tryz.prog 97 Tryz.f97 10 := ⟨Tryz.func97, Tryz.ntmps97⟩
instance ie98 : En Tryz.prog 98 := ⟨by kernel_rfl⟩
instance ig98 : FnI Tryz.prog 98 Tryz.f98 57 := ⟨Tryz.func98, Tryz.ntmps98⟩
instance ie99 : En Tryz.prog 99 := ⟨by kernel_rfl⟩
theorem en99 : enters Tryz.prog 99 = true := ie99.q
instance ig99 : FnI Tryz.prog 99 Tryz.f99 3 := ⟨Tryz.func99, Tryz.ntmps99⟩
instance ie100 : En Tryz.prog 100 := ⟨by kernel_rfl⟩
theorem en100 : enters Tryz.prog 100 = true := ie100.q
instance ig100 : FnI Tryz.prog 100 Tryz.f100 10 := ⟨Tryz.func100, Tryz.ntmps100⟩
instance ie101 : En Tryz.prog 101 := ⟨by kernel_rfl⟩
instance ig101 : FnI Tryz.prog 101 Tryz.f101 57 := ⟨Tryz.func101, Tryz.ntmps101⟩
instance ie102 : En Tryz.prog 102 := ⟨by kernel_rfl⟩
theorem en102 : enters Tryz.prog 102 = true := ie102.q
instance ig102 : FnI Tryz.prog 102 Tryz.f102 7 := ⟨Tryz.func102, Tryz.ntmps102⟩
instance ie103 : En Tryz.prog 103 := ⟨by kernel_rfl⟩
instance ig103 : FnI Tryz.prog 103 Tryz.f103 51 := ⟨Tryz.func103, Tryz.ntmps103⟩
instance ie104 : En Tryz.prog 104 := ⟨by kernel_rfl⟩
theorem en104 : enters Tryz.prog 104 = true := ie104.q
instance ig104 : FnI Tryz.prog 104 Tryz.f104 10 := ⟨Tryz.func104, Tryz.ntmps104⟩
instance ie105 : En Tryz.prog 105 := ⟨by kernel_rfl⟩
instance ig105 : FnI Tryz.prog 105 Tryz.f105 57 := ⟨Tryz.func105, Tryz.ntmps105⟩
instance ie106 : En Tryz.prog 106 := ⟨by kernel_rfl⟩
theorem en106 : enters Tryz.prog 106 = true := ie106.q
instance ig106 : FnI Tryz.prog 106 Tryz.f106 7 := ⟨Tryz.func106, Tryz.ntmps106⟩
instance ie107 : En Tryz.prog 107 := ⟨by kernel_rfl⟩
instance ig107 : FnI Tryz.prog 107 Tryz.f107 39 := ⟨Tryz.func107, Tryz.ntmps107⟩
instance ie108 : En Tryz.prog 108 := ⟨by kernel_rfl⟩
theorem en108 : enters Tryz.prog 108 = true := ie108.q
instance ig108 : FnI Tryz.prog 108 Tryz.f108 10 := ⟨Tryz.func108, Tryz.ntmps108⟩
instance ie109 : En Tryz.prog 109 := ⟨by kernel_rfl⟩
instance ig109 : FnI Tryz.prog 109 Tryz.f109 57 := ⟨Tryz.func109, Tryz.ntmps109⟩
instance ie110 : En Tryz.prog 110 := ⟨by kernel_rfl⟩
theorem en110 : enters Tryz.prog 110 = true := ie110.q
instance ig110 : FnI Tryz.prog 110 Tryz.f110 11 := ⟨Tryz.func110, Tryz.ntmps110⟩
instance ie111 : En Tryz.prog 111 := ⟨by kernel_rfl⟩
theorem en111 : enters Tryz.prog 111 = true := ie111.q
instance ig111 : FnI Tryz.prog 111 Tryz.f111 5 := ⟨Tryz.func111, Tryz.ntmps111⟩
instance ie112 : En Tryz.prog 112 := ⟨by kernel_rfl⟩
theorem en112 : enters Tryz.prog 112 = true := ie112.q
instance ig112 : FnI Tryz.prog 112 Tryz.f112 27 := ⟨Tryz.func112, Tryz.ntmps112⟩
instance ie113 : En Tryz.prog 113 := ⟨by kernel_rfl⟩
instance ig113 : FnI Tryz.prog 113 Tryz.f113 19 := ⟨Tryz.func113, Tryz.ntmps113⟩
instance ie114 : En Tryz.prog 114 := ⟨by kernel_rfl⟩
theorem en114 : enters Tryz.prog 114 = true := ie114.q
instance ig114 : FnI Tryz.prog 114 Tryz.f114 45 := ⟨Tryz.func114, Tryz.ntmps114⟩
instance ie115 : En Tryz.prog 115 := ⟨by kernel_rfl⟩
instance ig115 : FnI Tryz.prog 115 Tryz.f115 19 := ⟨Tryz.func115, Tryz.ntmps115⟩
instance ie116 : En Tryz.prog 116 := ⟨by kernel_rfl⟩
instance ig116 : FnI Tryz.prog 116 Tryz.f116 65 := ⟨Tryz.func116, Tryz.ntmps116⟩
instance ie117 : En Tryz.prog 117 := ⟨by kernel_rfl⟩
instance ig117 : FnI Tryz.prog 117 Tryz.f117 101 := ⟨Tryz.func117, Tryz.ntmps117⟩
instance ie118 : En Tryz.prog 118 := ⟨by kernel_rfl⟩
instance ig118 : FnI Tryz.prog 118 Tryz.f118 126 := ⟨Tryz.func118, Tryz.ntmps118⟩
instance ie119 : En Tryz.prog 119 := ⟨by kernel_rfl⟩
instance ig119 : FnI Tryz.prog 119 Tryz.f119 163 := ⟨Tryz.func119, Tryz.ntmps119⟩
instance ie120 : En Tryz.prog 120 := ⟨by kernel_rfl⟩
theorem en120 : enters Tryz.prog 120 = true := ie120.q
instance ig120 : FnI Tryz.prog 120 Tryz.f120 6 := ⟨Tryz.func120, Tryz.ntmps120⟩
instance ie121 : En Tryz.prog 121 := ⟨by kernel_rfl⟩
instance ig121 : FnI Tryz.prog 121 Tryz.f121 154 := ⟨Tryz.func121, Tryz.ntmps121⟩
instance ie122 : En Tryz.prog 122 := ⟨by kernel_rfl⟩
instance ig122 : FnI Tryz.prog 122 Tryz.f122 53 := ⟨Tryz.func122, Tryz.ntmps122⟩
instance ie123 : En Tryz.prog 123 := ⟨by kernel_rfl⟩
instance ig123 : FnI Tryz.prog 123 Tryz.f123 27 := ⟨Tryz.func123, Tryz.ntmps123⟩
instance ie124 : En Tryz.prog 124 := ⟨by kernel_rfl⟩
instance ig124 : FnI Tryz.prog 124 Tryz.f124 63 := ⟨Tryz.func124, Tryz.ntmps124⟩
instance ie125 : En Tryz.prog 125 := ⟨by kernel_rfl⟩
instance ig125 : FnI Tryz.prog 125 Tryz.f125 6 := ⟨Tryz.func125, Tryz.ntmps125⟩
instance ie126 : En Tryz.prog 126 := ⟨by kernel_rfl⟩
theorem en126 : enters Tryz.prog 126 = true := ie126.q
instance ig126 : FnI Tryz.prog 126 Tryz.f126 52 := ⟨Tryz.func126, Tryz.ntmps126⟩
instance ie127 : En Tryz.prog 127 := ⟨by kernel_rfl⟩
instance ig127 : FnI Tryz.prog 127 Tryz.f127 5 := ⟨Tryz.func127, Tryz.ntmps127⟩
instance ie128 : En Tryz.prog 128 := ⟨by kernel_rfl⟩
instance ie129 : En Tryz.prog 129 := ⟨by kernel_rfl⟩
theorem en129 : enters Tryz.prog 129 = true := ie129.q
instance ig129 : FnI Tryz.prog 129 Tryz.f129 14 := ⟨Tryz.func129, Tryz.ntmps129⟩
instance ie130 : En Tryz.prog 130 := ⟨by kernel_rfl⟩
theorem en130 : enters Tryz.prog 130 = true := ie130.q
instance ig130 : FnI Tryz.prog 130 Tryz.f130 9 := ⟨Tryz.func130, Tryz.ntmps130⟩
instance ie131 : En Tryz.prog 131 := ⟨by kernel_rfl⟩
instance ig131 : FnI Tryz.prog 131 Tryz.f131 49 := ⟨Tryz.func131, Tryz.ntmps131⟩
instance ie132 : En Tryz.prog 132 := ⟨by kernel_rfl⟩
theorem en132 : enters Tryz.prog 132 = true := ie132.q
instance ig132 : FnI Tryz.prog 132 Tryz.f132 17 := ⟨Tryz.func132, Tryz.ntmps132⟩
instance ie133 : En Tryz.prog 133 := ⟨by kernel_rfl⟩
theorem en133 : enters Tryz.prog 133 = true := ie133.q
instance ig133 : FnI Tryz.prog 133 Tryz.f133 12 := ⟨Tryz.func133, Tryz.ntmps133⟩
instance ie134 : En Tryz.prog 134 := ⟨by kernel_rfl⟩
theorem en134 : enters Tryz.prog 134 = true := ie134.q
instance ig134 : FnI Tryz.prog 134 Tryz.f134 9 := ⟨Tryz.func134, Tryz.ntmps134⟩
instance ie135 : En Tryz.prog 135 := ⟨by kernel_rfl⟩
theorem en135 : enters Tryz.prog 135 = true := ie135.q
instance ig135 : FnI Tryz.prog 135 Tryz.f135 17 := ⟨Tryz.func135, Tryz.ntmps135⟩
instance ie136 : En Tryz.prog 136 := ⟨by kernel_rfl⟩
theorem en136 : enters Tryz.prog 136 = true := ie136.q
instance ig136 : FnI Tryz.prog 136 Tryz.f136 12 := ⟨Tryz.func136, Tryz.ntmps136⟩
instance ie137 : En Tryz.prog 137 := ⟨by kernel_rfl⟩
theorem en137 : enters Tryz.prog 137 = true := ie137.q
instance ig137 : FnI Tryz.prog 137 Tryz.f137 9 := ⟨Tryz.func137, Tryz.ntmps137⟩
instance ie138 : En Tryz.prog 138 := ⟨by kernel_rfl⟩
theorem en138 : enters Tryz.prog 138 = true := ie138.q
instance ig138 : FnI Tryz.prog 138 Tryz.f138 17 := ⟨Tryz.func138, Tryz.ntmps138⟩
instance ie139 : En Tryz.prog 139 := ⟨by kernel_rfl⟩
theorem en139 : enters Tryz.prog 139 = true := ie139.q
instance ig139 : FnI Tryz.prog 139 Tryz.f139 12 := ⟨Tryz.func139, Tryz.ntmps139⟩
instance ie140 : En Tryz.prog 140 := ⟨by kernel_rfl⟩
instance ig140 : FnI Tryz.prog 140 Tryz.f140 13 := ⟨Tryz.func140, Tryz.ntmps140⟩
instance ie141 : En Tryz.prog 141 := ⟨by kernel_rfl⟩
theorem en141 : enters Tryz.prog 141 = true := ie141.q
instance ig141 : FnI Tryz.prog 141 Tryz.f141 13 := ⟨Tryz.func141, Tryz.ntmps141⟩
instance ie142 : En Tryz.prog 142 := ⟨by kernel_rfl⟩
instance ig142 : FnI Tryz.prog 142 Tryz.f142 32 := ⟨Tryz.func142, Tryz.ntmps142⟩
instance ie143 : En Tryz.prog 143 := ⟨by kernel_rfl⟩
theorem en143 : enters Tryz.prog 143 = true := ie143.q
instance ig143 : FnI Tryz.prog 143 Tryz.f143 15 := ⟨Tryz.func143, Tryz.ntmps143⟩
instance ie144 : En Tryz.prog 144 := ⟨by kernel_rfl⟩
theorem en144 : enters Tryz.prog 144 = true := ie144.q
instance ig144 : FnI Tryz.prog 144 Tryz.f144 9 := ⟨Tryz.func144, Tryz.ntmps144⟩
instance ie145 : En Tryz.prog 145 := ⟨by kernel_rfl⟩
theorem en145 : enters Tryz.prog 145 = true := ie145.q
instance ig145 : FnI Tryz.prog 145 Tryz.f145 17 := ⟨Tryz.func145, Tryz.ntmps145⟩
instance ie146 : En Tryz.prog 146 := ⟨by kernel_rfl⟩
theorem en146 : enters Tryz.prog 146 = true := ie146.q
instance ig146 : FnI Tryz.prog 146 Tryz.f146 12 := ⟨Tryz.func146, Tryz.ntmps146⟩
instance ie147 : En Tryz.prog 147 := ⟨by kernel_rfl⟩
theorem en147 : enters Tryz.prog 147 = true := ie147.q
instance ig147 : FnI Tryz.prog 147 Tryz.f147 13 := ⟨Tryz.func147, Tryz.ntmps147⟩
instance ie148 : En Tryz.prog 148 := ⟨by kernel_rfl⟩
theorem en148 : enters Tryz.prog 148 = true := ie148.q
instance ig148 : FnI Tryz.prog 148 Tryz.f148 9 := ⟨Tryz.func148, Tryz.ntmps148⟩
instance ie149 : En Tryz.prog 149 := ⟨by kernel_rfl⟩
theorem en149 : enters Tryz.prog 149 = true := ie149.q
instance ig149 : FnI Tryz.prog 149 Tryz.f149 17 := ⟨Tryz.func149, Tryz.ntmps149⟩
instance ie150 : En Tryz.prog 150 := ⟨by kernel_rfl⟩
theorem en150 : enters Tryz.prog 150 = true := ie150.q
instance ig150 : FnI Tryz.prog 150 Tryz.f150 12 := ⟨Tryz.func150, Tryz.ntmps150⟩
instance ie151 : En Tryz.prog 151 := ⟨by kernel_rfl⟩
theorem en151 : enters Tryz.prog 151 = true := ie151.q
instance ig151 : FnI Tryz.prog 151 Tryz.f151 10 := ⟨Tryz.func151, Tryz.ntmps151⟩
instance ie152 : En Tryz.prog 152 := ⟨by kernel_rfl⟩
instance ig152 : FnI Tryz.prog 152 Tryz.f152 39 := ⟨Tryz.func152, Tryz.ntmps152⟩
instance ie153 : En Tryz.prog 153 := ⟨by kernel_rfl⟩
instance ig153 : FnI Tryz.prog 153 Tryz.f153 7 := ⟨Tryz.func153, Tryz.ntmps153⟩
instance ie154 : En Tryz.prog 154 := ⟨by kernel_rfl⟩
instance ig154 : FnI Tryz.prog 154 Tryz.f154 30 := ⟨Tryz.func154, Tryz.ntmps154⟩
instance ie155 : En Tryz.prog 155 := ⟨by kernel_rfl⟩
instance ig155 : FnI Tryz.prog 155 Tryz.f155 13 := ⟨Tryz.func155, Tryz.ntmps155⟩
instance ie156 : En Tryz.prog 156 := ⟨by kernel_rfl⟩
theorem en156 : enters Tryz.prog 156 = true := ie156.q
instance ig156 : FnI Tryz.prog 156 Tryz.f156 61 := ⟨Tryz.func156, Tryz.ntmps156⟩
instance ie157 : En Tryz.prog 157 := ⟨by kernel_rfl⟩
instance ig157 : FnI Tryz.prog 157 Tryz.f157 53 := ⟨Tryz.func157, Tryz.ntmps157⟩
instance ie158 : En Tryz.prog 158 := ⟨by kernel_rfl⟩
instance ie159 : En Tryz.prog 159 := ⟨by kernel_rfl⟩
instance ig159 : FnI Tryz.prog 159 Tryz.f159 13 := ⟨Tryz.func159, Tryz.ntmps159⟩
instance ie162 : En Tryz.prog 162 := ⟨by kernel_rfl⟩
theorem en162 : enters Tryz.prog 162 = true := ie162.q
instance ig162 : FnI Tryz.prog 162 Tryz.f162 9 := ⟨Tryz.func162, Tryz.ntmps162⟩
instance ie163 : En Tryz.prog 163 := ⟨by kernel_rfl⟩
theorem en163 : enters Tryz.prog 163 = true := ie163.q
instance ig163 : FnI Tryz.prog 163 Tryz.f163 9 := ⟨Tryz.func163, Tryz.ntmps163⟩
instance ie164 : En Tryz.prog 164 := ⟨by kernel_rfl⟩
instance ig164 : FnI Tryz.prog 164 Tryz.f164 55 := ⟨Tryz.func164, Tryz.ntmps164⟩
instance ie165 : En Tryz.prog 165 := ⟨by kernel_rfl⟩
instance ig165 : FnI Tryz.prog 165 Tryz.f165 52 := ⟨Tryz.func165, Tryz.ntmps165⟩
instance ie178 : En Tryz.prog 178 := ⟨by kernel_rfl⟩
theorem en178 : enters Tryz.prog 178 = true := ie178.q
instance ig178 : FnI Tryz.prog 178 Tryz.f178 18 := ⟨Tryz.func178, Tryz.ntmps178⟩
instance ie179 : En Tryz.prog 179 := ⟨by kernel_rfl⟩
theorem en179 : enters Tryz.prog 179 = true := ie179.q
instance ig179 : FnI Tryz.prog 179 Tryz.f179 9 := ⟨Tryz.func179, Tryz.ntmps179⟩
instance ie180 : En Tryz.prog 180 := ⟨by kernel_rfl⟩
instance ig180 : FnI Tryz.prog 180 Tryz.f180 43 := ⟨Tryz.func180, Tryz.ntmps180⟩
instance ie181 : En Tryz.prog 181 := ⟨by kernel_rfl⟩
instance ig181 : FnI Tryz.prog 181 Tryz.f181 59 := ⟨Tryz.func181, Tryz.ntmps181⟩
instance ie182 : En Tryz.prog 182 := ⟨by kernel_rfl⟩
instance ig182 : FnI Tryz.prog 182 Tryz.f182 42 := ⟨Tryz.func182, Tryz.ntmps182⟩
instance ie183 : En Tryz.prog 183 := ⟨by kernel_rfl⟩
theorem en183 : enters Tryz.prog 183 = true := ie183.q
instance ig183 : FnI Tryz.prog 183 Tryz.f183 15 := ⟨Tryz.func183, Tryz.ntmps183⟩
instance ie190 : En Tryz.prog 190 := ⟨by kernel_rfl⟩
instance ig190 : FnI Tryz.prog 190 Tryz.f190 2 := ⟨Tryz.func190, Tryz.ntmps190⟩
instance ie191 : En Tryz.prog 191 := ⟨by kernel_rfl⟩
instance ig191 : FnI Tryz.prog 191 Tryz.f191 35 := ⟨Tryz.func191, Tryz.ntmps191⟩
instance ig209 : FnI Tryz.prog 209 Tryz.f209 10 := ⟨Tryz.func209, Tryz.ntmps209⟩
instance ig210 : FnI Tryz.prog 210 Tryz.f210 6 := ⟨Tryz.func210, Tryz.ntmps210⟩
instance ig211 : FnI Tryz.prog 211 Tryz.f211 34 := ⟨Tryz.func211, Tryz.ntmps211⟩
instance ig212 : FnI Tryz.prog 212 Tryz.f212 22 := ⟨Tryz.func212, Tryz.ntmps212⟩
instance ie213 : En Tryz.prog 213 := ⟨by kernel_rfl⟩
instance ig213 : FnI Tryz.prog 213 Tryz.f213 12 := ⟨Tryz.func213, Tryz.ntmps213⟩
instance ig214 : FnI Tryz.prog 214 Tryz.f214 10 := ⟨Tryz.func214, Tryz.ntmps214⟩
instance ig215 : FnI Tryz.prog 215 Tryz.f215 3 := ⟨Tryz.func215, Tryz.ntmps215⟩
instance ig216 : FnI Tryz.prog 216 Tryz.f216 9 := ⟨Tryz.func216, Tryz.ntmps216⟩
instance ig217 : FnI Tryz.prog 217 Tryz.f217 11 := ⟨Tryz.func217, Tryz.ntmps217⟩
end Go.Proofs.YtnjknkgomhmlfaaGreatDoor
namespace Go.Proofs.YtnjknkgomhmlfaaGreatDoor
open Go.PF Go.RowKit Go.Ord
attribute [local irreducible] TW CW KW DW
abbrev SD (w : World) (v : Value) (d : Dist) : Prop := SL (sliceT intT) (fun k => k < w.heap.size) w v d
theorem sd_step {w w' : World} {v : Value} {d : Dist} (h : SD w v d) (hb : Below w.heap.size w w') : SD w' v d := h.step (sliceT_now intT_now) hb
theorem distances_c {w : World} {v : Value} {d : Dist} (hd : SD w v d) : Gives Tryz.prog 80 #[v] w fun u w' => Below w.heap.size w w' ∧ u = .bool (dec (WfD d)) := by
 obtain ⟨A, cap, rfl, hcap⟩ := hd.form
 have hmax : d.length ≤ 9223372036854775807 := hd.len.2.2
 refine gv (f := 80) ?_
 refine rnT ?_
 refine CW.condP rfl (fun hbig => ?_) (fun hsmall => ?_)
 ·refine rnT ?_
  refine rt1 rfl ⟨Below.refl _ _, by rw [dec_neg (fun h => by have := h.few; omega)]⟩
 have h12 : d.length ≤ 12 := by omega
 refine rnT ?_
 refine CW.lp [0, 16, 17] (fun k : Nat => [(18, none, .int .i64 (k : Int))])
  (fun k W => k ≤ d.length ∧ W = w ∧ ∀ (i : Nat) (r : List Int), i < k → d[i]? = some r → RowOK d i r) (fun k => d.length - k) 0 ⟨by omega, rfl, fun i r hi => by omega⟩ ?_
 rintro k W ⟨hk, rfl, hrows⟩
 refine rnT ?_
 refine CW.condP rfl (fun hlt => ?_) (fun hge => ?_)
 ·have hkl : k < d.length := by omega
  obtain ⟨r, hr⟩ : ∃ r, d[k]? = some r := ⟨d[k], List.getElem?_eq_getElem hkl⟩
  obtain ⟨ad, rfl⟩ := hd.addr (by omega)
  obtain ⟨rv, hcell, hrow⟩ := hd.row hr
  obtain ⟨B, rcap, rfl, _⟩ := hrow.form
  by_cases hlen : r.length = d.length
  ·obtain ⟨bd, rfl⟩ := hrow.addr (by omega)
   obtain ⟨x, hx⟩ : ∃ x, r[k]? = some x := ⟨r[k]'(by omega), List.getElem?_eq_getElem (by omega)⟩
   refine rnT ?_
   refine TW.ld rfl hcell ?_
   refine rnT ?_
   refine TW.ld rfl (hrow.getI hx) ?_
   refine rnT ?_
   refine CW.pk [0, 3, 4, 16, 17, 18, 34] rfl ?_
   refine CW.cond rfl (fun hbad => ?_) (fun hgood => ?_)
   ·refine rnT ?_
    refine rt1 rfl ⟨Below.refl _ _, ?_⟩
    rw [dec_neg]
    intro h
    have := (h.rowOK hr).diag
    rw [hx] at this
    simp [hlen] at hbad
    exact hbad (by simpa using this)
   have hx0 : x = 0 := by simpa [hlen] using hgood
   refine rnT ?_
   refine CW.lp [0, 16, 17, 18, 35, 36] (fun j : Nat => [(37, none, .int .i64 (j : Int))])
    (fun j W' => j ≤ r.length ∧ W' = W ∧ ∀ (i : Nat) (y : Int), i < j → r[i]? = some y → -1 ≤ y ∧ y ≤ 1000000) (fun j => r.length - j) 0 ⟨by omega, rfl, fun i y hi => by omega⟩ ?_
   rintro j W' ⟨hj, rfl, hrng⟩
   refine rnT ?_
   refine CW.condP rfl (fun hlt2 => ?_) (fun hge2 => ?_)
   ·have hjl : j < r.length := by omega
    obtain ⟨y, hy⟩ : ∃ y, r[j]? = some y := ⟨r[j], List.getElem?_eq_getElem hjl⟩
    refine rnT ?_
    refine TW.ld rfl (hrow.getI hy) ?_
    refine rnT ?_
    refine CW.pk [0, 6, 16, 17, 18, 35, 36, 37, 46] rfl ?_
    refine CW.cond rfl (fun hbad2 => ?_) (fun hgood2 => ?_)
    ·refine rnT ?_
     refine rt1 rfl ⟨Below.refl _ _, ?_⟩
     rw [dec_neg]
     intro h
     have := (h.rowOK hr).rng j y hy
     simp at hbad2
     omega
    refine rnT ?_
    refine KW.rd (j + 1) ⟨by omega, rfl, fun i z hi hz => ?_⟩
    rcases Nat.lt_or_ge i j with h | h
    ·exact hrng i z h hz
    ·obtain rfl : i = j := by omega
     rw [hy] at hz; cases hz
     simp at hgood2
     omega
   ·refine rnT ?_
    refine KW.rd (k + 1) ⟨by omega, rfl, fun i r' hi hr' => ?_⟩
    rcases Nat.lt_or_ge i k with h | h
    ·exact hrows i r' h hr'
    ·obtain rfl : i = k := by omega
     rw [hr] at hr'; cases hr'
     exact ⟨hlen, by rw [hx, hx0], fun j y hy => hrng j y (by have := (List.getElem?_eq_some_iff.1 hy).1; omega) hy⟩
  ·skip
   refine rnT ?_
   refine TW.ld rfl hcell ?_
   refine TW.v V.assign rfl ⟨ct, trivial⟩ (fun _ => trivial) ?_
   refine TW.v V.assign rfl ⟨ct, trivial⟩ (fun _ => trivial) ?_
   refine TW.nil (KW.pick [0, 3, 4, 16, 17, 18] [(0, _, _), (3, _, _), (4, _, _), (16, _, _), (17, _, _), (18, _, _)] rfl (KW.then_ ?_))
   refine CW.seq (CW.seq (CW.region ?_))
   refine TW.v V.move rfl ⟨ct, trivial⟩ (fun _ => trivial) ?_
   refine TW.v V.lenSlice rfl ⟨ct, trivial⟩ (fun _ => trivial) ?_
   refine TW.v V.move rfl ⟨ct, trivial⟩ (fun _ => trivial) ?_
   refine TW.v V.lenSlice rfl ⟨ct, trivial⟩ (fun _ => trivial) ?_
   refine TW.v V.neq rfl ⟨ct, ct, trivial⟩ (fun _ => trivial) ?_
   refine TW.v V.move rfl ⟨ct, trivial⟩ (fun _ => trivial) ?_
   refine TW.dead (.bool false) rfl (by simp [Cnd]; omega) rfl ?_
   refine TW.dead (.bool false) rfl (by simp [Cnd]; omega) rfl ?_
   refine TW.dead (.bool false) rfl (by simp [Cnd]; omega) rfl ?_
   refine TW.dead (.bool false) rfl (by simp [Cnd]; omega) rfl ?_
   refine TW.dead (.bool false) rfl (by simp [Cnd]; omega) rfl ?_
   refine rnT ?_
   refine CW.pk [0, 3, 4, 16, 17, 18, 34] rfl ?_
   refine CW.cond rfl (fun hbad => ?_) (fun hgood => ?_)
   ·refine rnT ?_
    refine rt1 rfl ⟨Below.refl _ _, by rw [dec_neg (fun h => hlen (h.rowOK hr).len)]⟩
   exfalso
   simp at hgood
   omega
 ·have hrows' : ∀ (i : Nat) (r : List Int), d[i]? = some r → RowOK d i r := fun i r hr => hrows i r (by have := (List.getElem?_eq_some_iff.1 hr).1; omega) hr
  have hall : ∀ i, i < d.length → ∃ r, d[i]? = some r ∧ r.length = d.length := fun i hi => ⟨d[i], List.getElem?_eq_getElem hi, (hrows' i _ (List.getElem?_eq_getElem hi)).len⟩
  refine rnT ?_
  refine CW.lp [0, 49, 50] (fun i : Nat => [(51, none, .int .i64 (i : Int))])
   (fun i W' => i ≤ d.length ∧ W' = W ∧ ∀ a b c, a < i → b < d.length → c < d.length → Tri d a b c) (fun i => d.length - i) 0 ⟨by omega, rfl, fun a b c ha => by omega⟩ ?_
  rintro i W' ⟨hi, rfl, htri⟩
  refine rnT ?_
  refine CW.condP rfl (fun hlt1 => ?_) (fun hge1 => ?_)
  ·have hil : i < d.length := by omega
   obtain ⟨r, hr, hrl⟩ := hall i hil
   obtain ⟨ad, rfl⟩ := hd.addr (by omega)
   obtain ⟨rv, hcell, hrow⟩ := hd.row hr
   obtain ⟨B, rcap, rfl, _⟩ := hrow.form
   obtain ⟨bd, rfl⟩ := hrow.addr (by omega)
   refine rnT ?_
   refine TW.ld rfl hcell ?_
   refine rnT ?_
   refine CW.lp [0, 7, 8, 49, 50, 51, 56, 57] (fun k : Nat => [(58, none, .int .i64 (k : Int))])
    (fun k W2 => k ≤ d.length ∧ W2 = W' ∧ ∀ b c, b < k → c < d.length → Tri d i b c) (fun k => d.length - k) 0 ⟨by omega, rfl, fun b c hb => by omega⟩ ?_
   rintro k W2 ⟨hk2, rfl, htri2⟩
   refine rnT ?_
   refine CW.condP rfl (fun hlt2 => ?_) (fun hge2 => ?_)
   ·have hkl : k < d.length := by omega
    obtain ⟨x, hx⟩ : ∃ x, r[k]? = some x := ⟨r[k]'(by omega), List.getElem?_eq_getElem (by omega)⟩
    have hxa := at2_eq hr hx
    obtain ⟨r2, hr2, hr2l⟩ := hall k hkl
    obtain ⟨rv2, hcell2, hrow2⟩ := hd.row hr2
    obtain ⟨B2, rcap2, rfl, _⟩ := hrow2.form
    obtain ⟨bd2, rfl⟩ := hrow2.addr (by omega)
    have hxr := (hrows' i r hr).rng k x hx
    refine rnT ?_
    refine TW.ld rfl (hrow.getI hx) ?_
    refine rnT ?_
    refine CW.pk [0, 7, 8, 9, 10, 49, 50, 51, 56, 57, 58, 69] rfl ?_
    refine CW.cond rfl (fun hskip => ?_) (fun hgo => ?_)
    ·refine rnT ?_
     refine KW.rd (k + 1) ⟨by omega, rfl, fun b c hb hc => ?_⟩
     rcases Nat.lt_or_ge b k with h | h
     ·exact htri2 b c h hc
     ·obtain rfl : b = k := by omega
      intro q1 q2
      rw [hxa] at q1
      simp at hskip
      have hib : i = b := by omega
      subst hib
      have hx0 : x = 0 := by
       have := (hrows' i r hr).diag
       rw [hx] at this
       simpa using this
      rw [hxa, hx0]
      exact ⟨q2, by omega⟩
    have hx1 : x ≠ -1 := fun h => by simp [h] at hgo
    refine rnT ?_
    refine TW.ld rfl hcell2 ?_
    refine rnT ?_
    refine CW.lp [0, 7, 8, 10, 49, 50, 51, 56, 57, 58, 73, 74] (fun j : Nat => [(75, none, .int .i64 (j : Int))])
     (fun j W3 => j ≤ d.length ∧ W3 = W2 ∧ ∀ c, c < j → Tri d i k c) (fun j => d.length - j) 0 ⟨by omega, rfl, fun c hc => by omega⟩ ?_
    rintro j W3 ⟨hj3, rfl, htri3⟩
    refine rnT ?_
    refine CW.condP rfl (fun hlt3 => ?_) (fun hge3 => ?_)
    ·have hjl : j < d.length := by omega
     obtain ⟨y, hy⟩ : ∃ y, r2[j]? = some y := ⟨r2[j]'(by omega), List.getElem?_eq_getElem (by omega)⟩
     obtain ⟨z, hz⟩ : ∃ z, r[j]? = some z := ⟨r[j]'(by omega), List.getElem?_eq_getElem (by omega)⟩
     have hya := at2_eq hr2 hy
     have hza := at2_eq hr hz
     have hyr := (hrows' k r2 hr2).rng j y hy
     refine rnT ?_
     refine TW.ld rfl (hrow2.getI hy) ?_
     refine rnT ?_
     refine TW.ld rfl (hrow.getI hz) ?_
     refine rnT ?_
     refine TW.ld rfl (hrow.getI hz) ?_
     refine rnT ?_
     refine CW.pk [0, 7, 8, 10, 11, 12, 49, 50, 51, 56, 57, 58, 73, 74, 75, 98] rfl ?_
     refine CW.cond rfl (fun hbad => ?_) (fun hgood => ?_)
     ·refine rnT ?_
      refine rt1 rfl ⟨Below.refl _ _, ?_⟩
      rw [dec_neg]
      intro h
      have ht := h.tri i k j hil hkl hjl (by rw [hxa]; exact hx1)
      rw [hxa, hya, hza] at ht
      simp at hbad
      have := ht hbad.1
      omega
     refine rnT ?_
     refine KW.rd (j + 1) ⟨by omega, rfl, fun c hc => ?_⟩
     rcases Nat.lt_or_ge c j with h | h
     ·exact htri3 c h
     ·obtain rfl : c = j := by omega
      intro _ q2
      rw [hya] at q2
      rw [hxa, hya, hza]
      simp [q2] at hgood
      omega
    ·refine rnT ?_
     refine KW.rd (k + 1) ⟨by omega, rfl, fun b c hb hc => ?_⟩
     rcases Nat.lt_or_ge b k with h | h
     ·exact htri2 b c h hc
     ·obtain rfl : b = k := by omega
      exact htri3 c (by omega)
   ·refine rnT ?_
    refine KW.rd (i + 1) ⟨by omega, rfl, fun a b c ha hb hc => ?_⟩
    rcases Nat.lt_or_ge a i with h | h
    ·exact htri a b c h hb hc
    ·obtain rfl : a = i := by omega
     exact htri2 b c (by omega) hc
  ·refine rnT ?_
   refine rt1 rfl ⟨Below.refl _ _, by rw [dec_pos (wfd_of h12 hrows' (fun a b c ha hb hc => htri a b c (by omega) hb hc))]⟩
end Go.Proofs.YtnjknkgomhmlfaaGreatDoor
