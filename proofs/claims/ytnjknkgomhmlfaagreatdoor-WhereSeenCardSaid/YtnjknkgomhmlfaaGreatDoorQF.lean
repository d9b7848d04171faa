/- Texts of this claim, joined. -/
import Derived.Test.YtnjknkgomhmlfaaGreatDoorQE
import Derived.Test.YtnjknkgomhmlfaaGreatDoorProg
import Derived.KernelRfl
set_option linter.unusedSimpArgs false
set_option linter.unusedVariables false
set_option maxRecDepth 100000
set_option maxHeartbeats 4000000
namespace Go.Ord
variable {d : Dist}
abbrev UB := U × Int
def Bef (d : Dist) (a c : UB) : Prop := at2 d a.1.exit c.1.entry ≠ -1 ∧ a.2 + a.1.span + at2 d a.1.exit c.1.entry ≤ c.2
theorem Bef.trans (hd : WfD d) {a b c : UB} (ha : UOK d a.1) (hb : UOK d b.1) (hc : UOK d c.1) (h1 : Bef d a b) (h2 : Bef d b c) : Bef d a c := by
 obtain ⟨p1, p2⟩ := hd.tri _ _ _ ha.e2 hb.e1 hb.e2 h1.1 hb.way
 obtain ⟨q1, q2⟩ := hd.tri _ _ _ ha.e2 hb.e2 hc.e1 p1 h2.1
 refine ⟨q1, ?_⟩
 have := h1.2
 have := h2.2
 have := hb.long
 omega
theorem run_of_times : ∀ {l : List UB} {s : St}, (∀ x ∈ l, x.1.low ≤ x.2 ∧ x.2 ≤ x.1.high) → l.Pairwise (Bef d) → (∀ x, l.head? = some x → far d s.1 x.1 ≠ -1 ∧ s.2 + far d s.1 x.1 ≤ x.2) → Run d s (l.map (·.1))
 | [], _, _, _, _ => trivial
 | a :: l, s, hw, hp, hh => by
  obtain ⟨h1, h2⟩ := hh a rfl
  obtain ⟨w1, w2⟩ := hw a (by simp)
  rw [List.pairwise_cons] at hp
  refine ⟨⟨h1, by show s.2 + far d s.1 a.1 ≤ a.1.high; omega⟩, run_of_times (fun x hx => hw x (by simp [hx])) hp.2 fun x hx => ?_⟩
  have hb := hp.1 x (by cases l with | nil => cases hx | cons y l => simp at hx; subst hx; simp)
  refine ⟨hb.1, ?_⟩
  show beg d s a.1 + a.1.span + at2 d a.1.exit x.1.entry ≤ x.2
  have := hb.2
  have : beg d s a.1 ≤ a.2 := by unfold beg; omega
  omega
open Classical in
theorem feas_of_times (hd : WfD d) {l : List UB} (hu : ∀ x ∈ l, UOK d x.1) (hw : ∀ x ∈ l, 0 ≤ x.2 ∧ x.1.low ≤ x.2 ∧ x.2 ≤ x.1.high) (hp : l.Pairwise fun a b => Bef d a b ∨ Bef d b a) : Feas d (none, 0) (l.map (·.1)) := by
 have key : ∀ l : List UB, (∀ x ∈ l, UOK d x.1) → l.Pairwise (fun a b => Bef d a b ∨ Bef d b a) → ∃ l' : List UB, l'.Perm l ∧ l'.Pairwise (Bef d) := by
  intro l
  induction l with
  | nil => intro _ _; exact ⟨[], List.Perm.refl _, List.Pairwise.nil⟩
  | cons a l ih =>
   intro hu hp
   rw [List.pairwise_cons] at hp
   obtain ⟨l', hp', hs'⟩ := ih (fun x hx => hu x (by simp [hx])) hp.2
   refine ⟨l'.takeWhile (fun x => decide (Bef d x a)) ++ a :: l'.dropWhile (fun x => decide (Bef d x a)), ?_, ?_⟩
   ·refine List.perm_middle.trans ?_
    rw [List.takeWhile_append_dropWhile]
    exact hp'.cons a
   ·have hsplit : l'.takeWhile (fun x => decide (Bef d x a)) ++ l'.dropWhile (fun x => decide (Bef d x a)) = l' := List.takeWhile_append_dropWhile
    have hall : ∀ x ∈ l', UOK d x.1 := fun x hx => hu x (by simp [hp'.mem_iff.1 hx])
    have hor : ∀ x ∈ l', Bef d x a ∨ Bef d a x := fun x hx => (hp.1 x (hp'.mem_iff.1 hx)).symm
    rw [← hsplit, List.pairwise_append] at hs'
    obtain ⟨q1, q2, q3⟩ := hs'
    have hT : ∀ x ∈ l'.takeWhile (fun x => decide (Bef d x a)), Bef d x a := by
     have : ∀ (m : List UB), ∀ x ∈ m.takeWhile (fun x => decide (Bef d x a)), Bef d x a := by
      intro m
      induction m with
      | nil => simp
      | cons y m ihm =>
       intro x hx
       rw [List.takeWhile_cons] at hx
       split at hx
       ·rename_i hy
        rcases List.mem_cons.1 hx with rfl | hx
        ·exact of_decide_eq_true hy
        ·exact ihm x hx
       ·cases hx
     exact this l'
    have hD : ∀ x ∈ l'.dropWhile (fun x => decide (Bef d x a)), Bef d a x := by
     cases hDc : l'.dropWhile (fun x => decide (Bef d x a)) with
     | nil => simp
     | cons y m =>
      have hym : ∀ x ∈ y :: m, x ∈ l' := fun x hx => by rw [← hsplit, hDc]; simp at hx ⊢; exact .inr hx
      have hy : ¬ Bef d y a := by
       have := List.head?_dropWhile_not (fun x => decide (Bef d x a)) l'
       rw [hDc] at this
       simpa using this
      have hay : Bef d a y := (hor y (hym y (by simp))).resolve_left hy
      rw [hDc, List.pairwise_cons] at q2
      intro x hx
      rcases List.mem_cons.1 hx with rfl | hx
      ·exact hay
      ·exact hay.trans hd (hu a (by simp)) (hall y (hym y (by simp))) (hall x (hym x (by simp [hx]))) (q2.1 x hx)
    rw [List.pairwise_append]
    refine ⟨q1, List.pairwise_cons.2 ⟨hD, q2⟩, fun x hx y hy => ?_⟩
    rcases List.mem_cons.1 hy with rfl | hy
    ·exact hT x hx
    ·exact q3 x hx y hy
 obtain ⟨l', hp', hs'⟩ := key l hu hp
 refine ⟨l'.map (·.1), hp'.map _, run_of_times (fun x hx => (hw x (hp'.mem_iff.1 hx)).2) hs' fun x hx => ?_⟩
 have hm : x ∈ l := hp'.mem_iff.1 (by cases l' with | nil => cases hx | cons y m => simp at hx; subst hx; simp)
 refine ⟨by simp [far], ?_⟩
 have := (hw x hm).1
 simp [far]
 omega
theorem times_of_run (hd : WfD d) : ∀ {us : List U} {s : St}, SOK d s → 0 ≤ s.2 → (∀ u ∈ us, UOK d u) → (∀ u ∈ us, u.low ≤ u.high) → Run d s us →
  ∃ l : List UB, l.map (·.1) = us ∧ (∀ x ∈ l, 0 ≤ x.2 ∧ x.1.low ≤ x.2 ∧ x.2 ≤ x.1.high ∧ far d s.1 x.1 ≠ -1 ∧ s.2 + far d s.1 x.1 ≤ x.2) ∧ l.Pairwise (Bef d)
 | [], s, _, _, _, _, _ => ⟨[], rfl, by simp, List.Pairwise.nil⟩
 | u :: us, s, hs, h0, hu, hw, hr => by
  have hok := hu u (by simp)
  have hsp := span_nonneg hd hok
  have hfar : 0 ≤ far d s.1 u := by
   have h1 := hr.1.1
   obtain ⟨o, t⟩ := s
   cases o with
   | none => simp [far]
   | some x => exact at2_nonneg hd (hs x rfl) hok.e1 h1
  have hbeg : s.2 + far d s.1 u ≤ beg d s u := by unfold beg; omega
  obtain ⟨l, h1, h2, h3⟩ := times_of_run hd (us := us) (s := nxt d s u) (sok_nxt hok) (by show 0 ≤ beg d s u + u.span; omega) (fun x hx => hu x (by simp [hx])) (fun x hx => hw x (by simp [hx])) hr.2
  refine ⟨(u, beg d s u) :: l, by simp [h1], ?_, List.pairwise_cons.2 ⟨fun x hx => ?_, h3⟩⟩
  ·intro x hx
   rcases List.mem_cons.1 hx with rfl | hx
   ·have h4 := hr.1.2
    have h5 := hw u (by simp)
    refine ⟨by show 0 ≤ beg d s u; omega, by show u.low ≤ beg d s u; unfold beg; omega, by show beg d s u ≤ u.high; unfold beg; omega, hr.1.1, hbeg⟩
   ·obtain ⟨a1, a2, a3, a4, a5⟩ := h2 x hx
    have hxu : UOK d x.1 := hu x.1 (by rw [← h1]; simp; exact .inr ⟨x.2, hx⟩)
    obtain ⟨b1, b2⟩ := better_via hd hs hok hr.1 x.1 hxu a4
    exact ⟨a1, a2, a3, b1, by omega⟩
  ·obtain ⟨a1, a2, a3, a4, a5⟩ := h2 x hx
   exact ⟨a4, a5⟩
theorem times_of_feas (hd : WfD d) {us : List U} (hu : ∀ u ∈ us, UOK d u) (hw : ∀ u ∈ us, u.low ≤ u.high) (h : Feas d (none, 0) us) :
  ∃ l : List UB, (l.map (·.1)).Perm us ∧ (∀ x ∈ l, 0 ≤ x.2 ∧ x.1.low ≤ x.2 ∧ x.2 ≤ x.1.high) ∧ l.Pairwise (Bef d) := by
 obtain ⟨o, hp, hr⟩ := h
 obtain ⟨l, h1, h2, h3⟩ := times_of_run hd (us := o) (s := (none, 0)) (fun x hx => by cases hx) (Int.le_refl _) (fun u hu' => hu u (hp.mem_iff.1 hu')) (fun u hu' => hw u (hp.mem_iff.1 hu')) hr
 exact ⟨l, by rw [h1]; exact hp, fun x hx => ⟨(h2 x hx).1, (h2 x hx).2.1, (h2 x hx).2.2.1⟩, h3⟩
end Go.Ord
namespace Go.Ord
variable {d : Dist}
structure Ev where
 office : Int
 low : Int
 high : Int
 needs : List Int
def lowC (e : Ev) : Int := min (max e.low 0) 1000001
def highC (e : Ev) : Int := max (min e.high 1000000) (-1)
def uOf (e : Ev) : U := ⟨lowC e, highC e, 0, e.office.toNat, e.office.toNat⟩
structure EOK (d : Dist) (e : Ev) : Prop where
 o1 : 0 ≤ e.office
 o2 : e.office < d.length
theorem uok_of (hd : WfD d) {e : Ev} (h : EOK d e) : UOK d (uOf e) := by
 have : e.office.toNat < d.length := by have := h.o1; have := h.o2; omega
 exact ⟨this, this, by rw [show at2 d (uOf e).entry (uOf e).exit = at2 d e.office.toNat e.office.toNat from rfl, hd.diag _ this]; decide, by rw [show at2 d (uOf e).entry (uOf e).exit = at2 d e.office.toNat e.office.toNat from rfl, hd.diag _ this]; exact Int.le_refl _⟩
abbrev ET := Ev × Int
def Aft (d : Dist) (a b : ET) : Prop := at2 d a.1.office.toNat b.1.office.toNat ≠ -1 ∧ at2 d a.1.office.toNat b.1.office.toNat ≤ b.2 - a.2
structure HoldsN (d : Dist) (l : List ET) : Prop where
 each : ∀ x ∈ l, 0 ≤ x.2 ∧ x.2 ≤ 1000000 ∧ x.1.low ≤ x.2 ∧ x.2 ≤ x.1.high
 two : l.Pairwise fun a b => Aft d a b ∨ Aft d b a
def Poss (d : Dist) (evs : List Ev) : Prop := ∃ l : List ET, l.map (·.1) = evs ∧ HoldsN d l
theorem pairwise_or {α : Type} {R : α → α → Prop} : ∀ {l l' : List α}, l.Perm l' → l.Pairwise (fun a b => R a b ∨ R b a) → l'.Pairwise (fun a b => R a b ∨ R b a) := fun hp h => hp.pairwise h (fun h => h.symm)
theorem feas_iff (hd : WfD d) {evs : List Ev} (he : ∀ e ∈ evs, EOK d e) {us : List U} (hp : us.Perm (evs.map uOf)) : Poss d evs ↔ (∀ u ∈ us, u.low ≤ u.high) ∧ Feas d (none, 0) us := by
 constructor
 ·rintro ⟨l, rfl, h⟩
  have hwin : ∀ x ∈ l, (uOf x.1).low ≤ x.2 ∧ x.2 ≤ (uOf x.1).high := by
   intro x hx
   obtain ⟨h1, h2, h3, h4⟩ := h.each x hx
   show lowC x.1 ≤ x.2 ∧ x.2 ≤ highC x.1
   unfold lowC highC
   omega
  refine ⟨fun u hu => ?_, ?_⟩
  ·have := hp.mem_iff.1 hu
   rw [List.map_map, List.mem_map] at this
   obtain ⟨x, hx, rfl⟩ := this
   have := hwin x hx
   show (uOf x.1).low ≤ (uOf x.1).high
   omega
  ·have hf := feas_of_times hd (l := l.map fun x => (uOf x.1, x.2)) ?_ ?_ ?_
   ·obtain ⟨o, h1, h2⟩ := hf
    refine ⟨o, ?_, h2⟩
    refine h1.trans ?_
    rw [List.map_map]
    refine List.Perm.trans ?_ hp.symm
    rw [List.map_map]
    exact List.Perm.refl _
   ·intro x hx
    rw [List.mem_map] at hx
    obtain ⟨y, hy, rfl⟩ := hx
    exact uok_of hd (he _ (List.mem_map.2 ⟨y, hy, rfl⟩))
   ·intro x hx
    rw [List.mem_map] at hx
    obtain ⟨y, hy, rfl⟩ := hx
    exact ⟨(h.each y hy).1, hwin y hy⟩
   ·rw [List.pairwise_map]
    refine h.two.imp fun {a b} hab => ?_
    rcases hab with q | q
    ·exact .inl ⟨q.1, by show a.2 + 0 + at2 d a.1.office.toNat b.1.office.toNat ≤ b.2; have := q.2; omega⟩
    ·exact .inr ⟨q.1, by show b.2 + 0 + at2 d b.1.office.toNat a.1.office.toNat ≤ a.2; have := q.2; omega⟩
 ·rintro ⟨hw, hf⟩
  have hu : ∀ u ∈ us, UOK d u := fun u hu => by
   have := hp.mem_iff.1 hu
   rw [List.mem_map] at this
   obtain ⟨e, hx, rfl⟩ := this
   exact uok_of hd (he e hx)
  obtain ⟨l, h1, h2, h3⟩ := times_of_feas hd hu hw hf
  have key : ∀ (evs : List Ev) (l : List UB), (l.map (·.1)).Perm (evs.map uOf) → l.Pairwise (fun a b => Bef d a b ∨ Bef d b a) → ∃ m : List ET, m.map (·.1) = evs ∧ (m.map fun x => (uOf x.1, x.2)).Perm l := by
   intro evs
   induction evs with
   | nil =>
    intro l hl _
    have : l = [] := by
     have := hl.length_eq
     simp at this
     exact this
    subst this
    exact ⟨[], rfl, List.Perm.refl _⟩
   | cons e evs ih =>
    intro l hl hpw
    have hm : uOf e ∈ l.map (·.1) := hl.mem_iff.2 (by simp)
    rw [List.mem_map] at hm
    obtain ⟨x, hx, hxe⟩ := hm
    obtain ⟨pre, post, rfl⟩ := List.append_of_mem hx
    have h4 : ((pre ++ post).map (·.1)).Perm (evs.map uOf) := by
     have q : ((pre ++ x :: post).map (·.1)).Perm (uOf e :: (pre ++ post).map (·.1)) := by
      rw [← hxe]
      exact (List.perm_middle (a := x) (l₁ := pre) (l₂ := post)).map (fun y : UB => y.1)
     have q2 : (uOf e :: (pre ++ post).map (·.1)).Perm (uOf e :: evs.map uOf) := q.symm.trans (by simpa using hl)
     exact List.Perm.cons_inv q2
    have hpw' : (x :: (pre ++ post)).Pairwise (fun a b => Bef d a b ∨ Bef d b a) := pairwise_or List.perm_middle hpw
    obtain ⟨m, hm1, hm2⟩ := ih (pre ++ post) h4 (List.pairwise_cons.1 hpw').2
    refine ⟨(e, x.2) :: m, by simp [hm1], ?_⟩
    refine List.Perm.trans ?_ List.perm_middle.symm
    have : (uOf e, x.2) = x := by rw [← hxe]
    rw [List.map_cons]
    show ((uOf e, x.2) :: _).Perm _
    rw [this]
    exact hm2.cons x
  have hor : l.Pairwise (fun a b => Bef d a b ∨ Bef d b a) := h3.imp fun h => .inl h
  obtain ⟨m, hm1, hm2⟩ := key evs l (h1.trans hp) hor
  refine ⟨m, hm1, fun x hx => ?_, ?_⟩
  ·have hxl : (uOf x.1, x.2) ∈ l := hm2.mem_iff.1 (List.mem_map.2 ⟨x, hx, rfl⟩)
   obtain ⟨a1, a2, a3⟩ := h2 _ hxl
   have a2 : lowC x.1 ≤ x.2 := a2
   have a3 : x.2 ≤ highC x.1 := a3
   unfold lowC at a2
   unfold highC at a3
   have a1 : 0 ≤ x.2 := a1
   refine ⟨a1, by omega, by omega, by omega⟩
  ·have hpm := pairwise_or hm2.symm hor
   rw [List.pairwise_map] at hpm
   refine hpm.imp fun {a b} hab => ?_
   rcases hab with q | q
   ·refine .inl ⟨q.1, ?_⟩
    have : a.2 + 0 + at2 d a.1.office.toNat b.1.office.toNat ≤ b.2 := q.2
    omega
   ·refine .inr ⟨q.1, ?_⟩
    have : b.2 + 0 + at2 d b.1.office.toNat a.1.office.toNat ≤ a.2 := q.2
    omega
theorem Poss.sub {evs evs' : List Ev} (h : Poss d evs) (hs : evs'.Sublist evs) : Poss d evs' := by
 obtain ⟨l, rfl, h1⟩ := h
 obtain ⟨l', h2, rfl⟩ := List.sublist_map_iff.1 hs
 exact ⟨l', rfl, fun x hx => h1.each x (h2.subset hx), h1.two.sublist h2⟩
end Go.Ord
namespace Go.PF
noncomputable def dec (p : Prop) : Bool := @decide p (Classical.propDecidable p)
theorem dec_iff {p : Prop} : dec p = true ↔ p := @decide_eq_true_iff p (Classical.propDecidable p)
theorem dec_pos {p : Prop} (h : p) : dec p = true := dec_iff.2 h
theorem dec_neg {p : Prop} (h : ¬ p) : dec p = false := by
 cases hd : dec p with
 | false => rfl
 | true => exact absurd (dec_iff.1 hd) h
theorem dec_congr {p q : Prop} (h : p ↔ q) : dec p = dec q := by rw [show p = q from propext h]
theorem dec_eq_decide {p : Prop} [Decidable p] : dec p = decide p := by
 by_cases h : p
 ·rw [dec_pos h]; simp [h]
 ·rw [dec_neg h]; simp [h]
theorem nb {p : Prop} [Decidable p] (h : (!decide p) = true) : ¬ p := by simpa using h
theorem ndec {p : Prop} (h : (!dec p) = true) : ¬ p := fun hp => by rw [dec_pos hp] at h; cases h
theorem ndec' {p : Prop} (h : (!dec p) = false) : p := dec_iff.1 (by simpa using h)
end Go.PF
namespace Go.Ord
open Go.PF
structure RowOK (d : Dist) (i : Nat) (r : List Int) : Prop where
 len : r.length = d.length
 diag : r[i]? = some 0
 rng : ∀ (j : Nat) (x : Int), r[j]? = some x → -1 ≤ x ∧ x ≤ 1000000
def Tri (d : Dist) (i k j : Nat) : Prop := at2 d i k ≠ -1 → at2 d k j ≠ -1 → at2 d i j ≠ -1 ∧ at2 d i j ≤ at2 d i k + at2 d k j
theorem at2_eq {d : Dist} {i j : Nat} {r : List Int} {x : Int} (hr : d[i]? = some r) (hx : r[j]? = some x) : at2 d i j = x := by
 unfold at2
 simp [List.getD_eq_getElem?_getD, hr, hx]
theorem wfd_of {d : Dist} (h1 : d.length ≤ 12) (h2 : ∀ (i : Nat) (r : List Int), d[i]? = some r → RowOK d i r) (h3 : ∀ i k j, i < d.length → k < d.length → j < d.length → Tri d i k j) : WfD d := by
 refine ⟨h1, fun i r hr => (h2 i r hr).len, fun i hi => ?_, fun i j hi hj => ?_, h3⟩
 ·have hr : d[i]? = some d[i] := List.getElem?_eq_getElem hi
  exact at2_eq hr (h2 i _ hr).diag
 ·have hr : d[i]? = some d[i] := List.getElem?_eq_getElem hi
  have hl := (h2 i _ hr).len
  have hx : d[i][j]? = some (d[i][j]'(by omega)) := List.getElem?_eq_getElem (by omega)
  rw [at2_eq hr hx]
  exact (h2 i _ hr).rng j _ hx
theorem WfD.rowOK {d : Dist} (h : WfD d) {i : Nat} {r : List Int} (hr : d[i]? = some r) : RowOK d i r := by
 have hi := (List.getElem?_eq_some_iff.1 hr).1
 have hl := h.row i r hr
 refine ⟨hl, ?_, fun j x hx => ?_⟩
 ·have hx : r[i]? = some (r[i]'(by omega)) := List.getElem?_eq_getElem (by omega)
  have := h.diag i hi
  rw [at2_eq hr hx] at this
  rw [hx, this]
 ·have hj := (List.getElem?_eq_some_iff.1 hx).1
  have := h.rng i j hi (by omega)
  rw [at2_eq hr hx] at this
  exact this
end Go.Ord
namespace Go.PF
open Go.RowKit
class One (P : Program) (t : TypeId) : Prop where
 q : one P t = true
class Und (P : Program) (t : TypeId) (u : outParam TypeDesc) : Prop where
 q : P.underlying t = some u
class Sz (P : Program) (t : TypeId) (n : outParam Nat) : Prop where
 q : (P.info? t).map (·.size) = some n
class FO (P : Program) (t i : Nat) (n : outParam Nat) : Prop where
 q : fieldOff P t i = some n
section
variable {P : Program} {r : Option Nat} {Q : Exit → Act → World → Prop} {N : Nat} {ds : List Deferred} {ops rest : List Oper} {E : Env} {D : DE} {w : World} {G : Option Bool} {Fin : DE → Prop} {md : Mode}
variable {d : Option Tmp} {ty : TypeId} {pos : String} {af : Array Edge} {gu : Option (Nat × Bool)}
variable {x y z : Operand} {cx cy cz : Option Bool} {ρ : Operand → Value}
theorem rnT {p q : Prop} (next : q) (imp : q → p := by
  intro hq
  repeat (first
   | (apply TW.move; exact rfl; exact rfl; exact rfl; (first | exact ct | exact id | exact candL | (clear hq; simp_all [Cnd]; done)))
   | (apply TW.assign; exact rfl; exact rfl; exact rfl; (first | exact ct | exact id | exact candL | (clear hq; simp_all [Cnd]; done)))
   | (apply TW.lss; exact rfl; exact rfl; exact rfl; (first | exact ct | exact id | exact candL | (clear hq; simp_all [Cnd]; done)); exact rfl; (first | exact ct | exact id | exact candL | (clear hq; simp_all [Cnd]; done)))
   | (apply TW.leq; exact rfl; exact rfl; exact rfl; (first | exact ct | exact id | exact candL | (clear hq; simp_all [Cnd]; done)); exact rfl; (first | exact ct | exact id | exact candL | (clear hq; simp_all [Cnd]; done)))
   | (apply TW.gtr; exact rfl; exact rfl; exact rfl; (first | exact ct | exact id | exact candL | (clear hq; simp_all [Cnd]; done)); exact rfl; (first | exact ct | exact id | exact candL | (clear hq; simp_all [Cnd]; done)))
   | (apply TW.geq; exact rfl; exact rfl; exact rfl; (first | exact ct | exact id | exact candL | (clear hq; simp_all [Cnd]; done)); exact rfl; (first | exact ct | exact id | exact candL | (clear hq; simp_all [Cnd]; done)))
   | (apply TW.eql; exact rfl; exact rfl; exact rfl; (first | exact ct | exact id | exact candL | (clear hq; simp_all [Cnd]; done)); exact rfl; (first | exact ct | exact id | exact candL | (clear hq; simp_all [Cnd]; done)))
   | (apply TW.neq; exact rfl; exact rfl; exact rfl; (first | exact ct | exact id | exact candL | (clear hq; simp_all [Cnd]; done)); exact rfl; (first | exact ct | exact id | exact candL | (clear hq; simp_all [Cnd]; done)))
   | (apply TW.eqlS; exact rfl; exact rfl; exact rfl; (first | exact ct | exact id | exact candL | (clear hq; simp_all [Cnd]; done)); exact rfl; (first | exact ct | exact id | exact candL | (clear hq; simp_all [Cnd]; done)))
   | (apply TW.neqS; exact rfl; exact rfl; exact rfl; (first | exact ct | exact id | exact candL | (clear hq; simp_all [Cnd]; done)); exact rfl; (first | exact ct | exact id | exact candL | (clear hq; simp_all [Cnd]; done)))
   | (apply TW.add; exact rfl; exact rfl; exact rfl; (first | exact ct | exact id | exact candL | (clear hq; simp_all [Cnd]; done)); exact rfl; (first | exact ct | exact id | exact candL | (clear hq; simp_all [Cnd]; done)); (clear hq; intro h; (try dsimp only); first | omega | (simp [Cnd] at h; omega)))
   | (apply TW.sub; exact rfl; exact rfl; exact rfl; (first | exact ct | exact id | exact candL | (clear hq; simp_all [Cnd]; done)); exact rfl; (first | exact ct | exact id | exact candL | (clear hq; simp_all [Cnd]; done)); (clear hq; intro h; (try dsimp only); first | omega | (simp [Cnd] at h; omega)))
   | (apply TW.mul; exact rfl; exact rfl; exact rfl; (first | exact ct | exact id | exact candL | (clear hq; simp_all [Cnd]; done)); exact rfl; (first | exact ct | exact id | exact candL | (clear hq; simp_all [Cnd]; done)); (clear hq; intro h; (try dsimp only); first | omega | (simp [Cnd] at h; omega)))
   | (apply TW.not; exact rfl; exact rfl; exact rfl; (first | exact ct | exact id | exact candL | (clear hq; simp_all [Cnd]; done)))
   | (apply TW.pickOr; exact rfl; exact rfl; exact rfl; (first | exact ct | exact id | exact candL | (clear hq; simp_all [Cnd]; done)); exact rfl; (first | exact pT | exact pOr0 | exact pOr1 | exact pAnd0 | exact pAnd1))
   | (apply TW.pickAnd; exact rfl; exact rfl; exact rfl; (first | exact ct | exact id | exact candL | (clear hq; simp_all [Cnd]; done)); exact rfl; (first | exact pT | exact pOr0 | exact pOr1 | exact pAnd0 | exact pAnd1))
   | (apply TW.lenSlice; exact rfl; exact rfl; exact Und.q; exact rfl; (first | exact ct | exact id | exact candL | (clear hq; simp_all [Cnd]; done)))
   | (apply TW.lenString; exact rfl; exact rfl; exact Und.q; exact rfl; (first | exact ct | exact id | exact candL | (clear hq; simp_all [Cnd]; done)))
   | (apply TW.fieldAddr; exact rfl; exact rfl; exact FO.q; exact rfl; (first | exact ct | exact id | exact candL | (clear hq; simp_all [Cnd]; done)))
   | (apply TW.indexAddr; exact rfl; exact rfl; exact Und.q; exact Sz.q; exact rfl; (first | exact ct | exact id | exact candL | (clear hq; simp_all [Cnd]; done)); exact rfl; (first | exact ct | exact id | exact candL | (clear hq; simp_all [Cnd]; done)); (clear hq; intro h; (try dsimp only); first | omega | (simp [Cnd] at h; omega)))
   | (apply TW.extract; exact rfl; exact rfl; (case hx => exact rfl); exact rfl; (first | exact ct | exact id | exact candL | (clear hq; simp_all [Cnd]; done)))
   | (apply TW.conv; exact rfl; exact rfl; exact rfl; exact Und.q; exact rfl; (first | exact ct | exact id | exact candL | (clear hq; simp_all [Cnd]; done)))
   | (apply TW.quo; exact rfl; exact rfl; exact rfl; (first | exact ct | exact id | exact candL | (clear hq; simp_all [Cnd]; done)); exact rfl; (first | exact ct | exact id | exact candL | (clear hq; simp_all [Cnd]; done)); (clear hq; intro h; (try dsimp only); first | omega | (simp [Cnd] at h; omega)))
   | (apply TW.rem; exact rfl; exact rfl; exact rfl; (first | exact ct | exact id | exact candL | (clear hq; simp_all [Cnd]; done)); exact rfl; (first | exact ct | exact id | exact candL | (clear hq; simp_all [Cnd]; done)); (clear hq; intro h; (try dsimp only); first | omega | (simp [Cnd] at h; omega)))
   | (apply TW.eqlB; exact rfl; exact rfl; exact Und.q; exact rfl; (first | exact ct | exact id | exact candL | (clear hq; simp_all [Cnd]; done)); exact rfl; (first | exact ct | exact id | exact candL | (clear hq; simp_all [Cnd]; done)))
   | (apply TW.neqB; exact rfl; exact rfl; exact Und.q; exact rfl; (first | exact ct | exact id | exact candL | (clear hq; simp_all [Cnd]; done)); exact rfl; (first | exact ct | exact id | exact candL | (clear hq; simp_all [Cnd]; done)))
   | (apply TW.eqlNil; exact rfl; exact rfl; exact Und.q; exact rfl; (first | exact ct | exact id | exact candL | (clear hq; simp_all [Cnd]; done)))
   | (apply TW.index; exact rfl; exact rfl; exact Und.q; exact rfl; (first | exact ct | exact id | exact candL | (clear hq; simp_all [Cnd]; done)); exact rfl; (first | exact ct | exact id | exact candL | (clear hq; simp_all [Cnd]; done)); (clear hq; intro h; (try dsimp only); first | omega | (simp [Cnd] at h; omega)))
   | refine TW.nil ?_
   | refine CW.seq ?_
   | refine CW.region ?_
   | refine KW.then_ ?_
   | refine CW.skip ?_
   | refine CW.block ?_
   | refine CW.ret ?_
   | refine KW.thenR ?_
   | refine KW.blockN ?_
   | refine CW.exit ?_
   | refine KW.blockX ?_
   | refine KW.thenX ?_
   | (refine KW.blockY ?_ ?_; exact rfl)
   | refine KW.blockR ?_
   | refine CW.scope ?_
   | refine KW.scopeN ?_
   | refine KW.scopeX ?_
   | refine KW.scopeR ?_
   | refine CW.label ?_
   )
  exact hq) : p := imp next
theorem rnD {p q : Prop} (next : q) (imp : q → p := by
  intro hq
  repeat (first
   | (apply DW.move; exact rfl; exact rfl; exact rfl; (first | exact ct | exact id | exact candL | (clear hq; simp_all [Cnd]; done)))
   | (apply DW.assign; exact rfl; exact rfl; exact rfl; (first | exact ct | exact id | exact candL | (clear hq; simp_all [Cnd]; done)))
   | (apply DW.lss; exact rfl; exact rfl; exact rfl; (first | exact ct | exact id | exact candL | (clear hq; simp_all [Cnd]; done)); exact rfl; (first | exact ct | exact id | exact candL | (clear hq; simp_all [Cnd]; done)))
   | (apply DW.leq; exact rfl; exact rfl; exact rfl; (first | exact ct | exact id | exact candL | (clear hq; simp_all [Cnd]; done)); exact rfl; (first | exact ct | exact id | exact candL | (clear hq; simp_all [Cnd]; done)))
   | (apply DW.gtr; exact rfl; exact rfl; exact rfl; (first | exact ct | exact id | exact candL | (clear hq; simp_all [Cnd]; done)); exact rfl; (first | exact ct | exact id | exact candL | (clear hq; simp_all [Cnd]; done)))
   | (apply DW.geq; exact rfl; exact rfl; exact rfl; (first | exact ct | exact id | exact candL | (clear hq; simp_all [Cnd]; done)); exact rfl; (first | exact ct | exact id | exact candL | (clear hq; simp_all [Cnd]; done)))
   | (apply DW.eql; exact rfl; exact rfl; exact rfl; (first | exact ct | exact id | exact candL | (clear hq; simp_all [Cnd]; done)); exact rfl; (first | exact ct | exact id | exact candL | (clear hq; simp_all [Cnd]; done)))
   | (apply DW.neq; exact rfl; exact rfl; exact rfl; (first | exact ct | exact id | exact candL | (clear hq; simp_all [Cnd]; done)); exact rfl; (first | exact ct | exact id | exact candL | (clear hq; simp_all [Cnd]; done)))
   | (apply DW.eqlS; exact rfl; exact rfl; exact rfl; (first | exact ct | exact id | exact candL | (clear hq; simp_all [Cnd]; done)); exact rfl; (first | exact ct | exact id | exact candL | (clear hq; simp_all [Cnd]; done)))
   | (apply DW.neqS; exact rfl; exact rfl; exact rfl; (first | exact ct | exact id | exact candL | (clear hq; simp_all [Cnd]; done)); exact rfl; (first | exact ct | exact id | exact candL | (clear hq; simp_all [Cnd]; done)))
   | (apply DW.add; exact rfl; exact rfl; exact rfl; (first | exact ct | exact id | exact candL | (clear hq; simp_all [Cnd]; done)); exact rfl; (first | exact ct | exact id | exact candL | (clear hq; simp_all [Cnd]; done)); (clear hq; intro h; (try dsimp only); first | omega | (simp [Cnd] at h; omega)))
   | (apply DW.sub; exact rfl; exact rfl; exact rfl; (first | exact ct | exact id | exact candL | (clear hq; simp_all [Cnd]; done)); exact rfl; (first | exact ct | exact id | exact candL | (clear hq; simp_all [Cnd]; done)); (clear hq; intro h; (try dsimp only); first | omega | (simp [Cnd] at h; omega)))
   | (apply DW.mul; exact rfl; exact rfl; exact rfl; (first | exact ct | exact id | exact candL | (clear hq; simp_all [Cnd]; done)); exact rfl; (first | exact ct | exact id | exact candL | (clear hq; simp_all [Cnd]; done)); (clear hq; intro h; (try dsimp only); first | omega | (simp [Cnd] at h; omega)))
   | (apply DW.not; exact rfl; exact rfl; exact rfl; (first | exact ct | exact id | exact candL | (clear hq; simp_all [Cnd]; done)))
   | (apply DW.pickOr; exact rfl; exact rfl; exact rfl; (first | exact ct | exact id | exact candL | (clear hq; simp_all [Cnd]; done)); exact rfl; (first | exact pT | exact pOr0 | exact pOr1 | exact pAnd0 | exact pAnd1))
   | (apply DW.pickAnd; exact rfl; exact rfl; exact rfl; (first | exact ct | exact id | exact candL | (clear hq; simp_all [Cnd]; done)); exact rfl; (first | exact pT | exact pOr0 | exact pOr1 | exact pAnd0 | exact pAnd1))
   | (apply DW.lenSlice; exact rfl; exact rfl; exact Und.q; exact rfl; (first | exact ct | exact id | exact candL | (clear hq; simp_all [Cnd]; done)))
   | (apply DW.lenString; exact rfl; exact rfl; exact Und.q; exact rfl; (first | exact ct | exact id | exact candL | (clear hq; simp_all [Cnd]; done)))
   | (apply DW.fieldAddr; exact rfl; exact rfl; exact FO.q; exact rfl; (first | exact ct | exact id | exact candL | (clear hq; simp_all [Cnd]; done)))
   | (apply DW.indexAddr; exact rfl; exact rfl; exact Und.q; exact Sz.q; exact rfl; (first | exact ct | exact id | exact candL | (clear hq; simp_all [Cnd]; done)); exact rfl; (first | exact ct | exact id | exact candL | (clear hq; simp_all [Cnd]; done)); (clear hq; intro h; (try dsimp only); first | omega | (simp [Cnd] at h; omega)))
   | (apply DW.extract; exact rfl; exact rfl; (case hx => exact rfl); exact rfl; (first | exact ct | exact id | exact candL | (clear hq; simp_all [Cnd]; done)))
   | (apply DW.conv; exact rfl; exact rfl; exact rfl; exact Und.q; exact rfl; (first | exact ct | exact id | exact candL | (clear hq; simp_all [Cnd]; done)))
   | (apply DW.quo; exact rfl; exact rfl; exact rfl; (first | exact ct | exact id | exact candL | (clear hq; simp_all [Cnd]; done)); exact rfl; (first | exact ct | exact id | exact candL | (clear hq; simp_all [Cnd]; done)); (clear hq; intro h; (try dsimp only); first | omega | (simp [Cnd] at h; omega)))
   | (apply DW.rem; exact rfl; exact rfl; exact rfl; (first | exact ct | exact id | exact candL | (clear hq; simp_all [Cnd]; done)); exact rfl; (first | exact ct | exact id | exact candL | (clear hq; simp_all [Cnd]; done)); (clear hq; intro h; (try dsimp only); first | omega | (simp [Cnd] at h; omega)))
   | (apply DW.eqlB; exact rfl; exact rfl; exact Und.q; exact rfl; (first | exact ct | exact id | exact candL | (clear hq; simp_all [Cnd]; done)); exact rfl; (first | exact ct | exact id | exact candL | (clear hq; simp_all [Cnd]; done)))
   | (apply DW.neqB; exact rfl; exact rfl; exact Und.q; exact rfl; (first | exact ct | exact id | exact candL | (clear hq; simp_all [Cnd]; done)); exact rfl; (first | exact ct | exact id | exact candL | (clear hq; simp_all [Cnd]; done)))
   | (apply DW.index; exact rfl; exact rfl; exact Und.q; exact rfl; (first | exact ct | exact id | exact candL | (clear hq; simp_all [Cnd]; done)); exact rfl; (first | exact ct | exact id | exact candL | (clear hq; simp_all [Cnd]; done)); (clear hq; intro h; (try dsimp only); first | omega | (simp [Cnd] at h; omega)))
   )
  exact hq) : p := imp next
theorem TW.pk (is : List Nat) {E' : Env} (hp : PF.pick E is = some E') (h : TW P r Q N ds ops rest E' w) : TW P r Q N ds ops rest E w := fun a ha => h a (ha.pick hp)
theorem CW.pk {c : Code} (is : List Nat) {E' : Env} (hp : PF.pick E is = some E') (h : CW P r Q N ds c E' w) : CW P r Q N ds c E w := CW.pick is E' hp h
theorem TW.ld {t : TypeId} {ad : Addr} {v : Value} [One P t] (h : (gd ops E gu, okDst N d, ev E x) = (some G, true, some (cx, .pointer (some ad)))) (hc : w.cell? ad = some v)
  (next : TW P r Q N ds ops rest (ins E d G v) w) (ix : Cnd G → Cnd cx := by first | exact ct | exact id | exact candL | (simp_all [Cnd]; done)) : TW P r Q N ds ops (⟨d, .load t x, ty, pos, af, gu⟩ :: rest) E w := by
 simp only [Prod.mk.injEq] at h
 exact TW.load h.1 h.2.1 One.q h.2.2 ix (fun _ => hc) next
theorem DW.ld {t : TypeId} {ad : Addr} {v : Value} [One P t] (h : (dgd ops D gu, okDst N d, dev D x) = (some G, true, some (cx, .ex (.pointer (some ad))))) (hc : w.cell? ad = some v)
  (next : DW P N ds md ops w Fin rest (dins D d G (.ex v))) (ix : Cnd G → Cnd cx := by first | exact ct | exact id | exact candL | (simp_all [Cnd]; done)) : DW P N ds md ops w Fin (⟨d, .load t x, ty, pos, af, gu⟩ :: rest) D := by
 simp only [Prod.mk.injEq] at h
 exact DW.load h.1 h.2.1 One.q h.2.2 ix (fun _ => hc) next
def evs (E : Env) : List Operand → Option (List Value)
 | [] => some []
 | x :: xs => match ev E x with
  | some (none, v) => match evs E xs with
   | some vs => some (v :: vs)
   | none => none
  | _ => none
theorem evs_args : ∀ {xs : List Operand} {vs : List Value}, evs E xs = some vs → Args N ds E G xs vs
 | [], vs, h => by simp [evs] at h; subst h; exact Args.nil
 | x :: xs, vs, h => by
  simp only [evs] at h
  split at h
  ·rename_i v hv
   split at h
   ·rename_i us hu
    simp only [Option.some.injEq] at h
    subst h
    exact Args.cons hv ct (evs_args hu)
   ·cases h
  ·cases h
theorem TW.cl {k : FuncId} {xs : List Operand} {vs : List Value} {ts : Array TypeId} {R : Value → World → Prop} (he : enters P k = true) (h : (okDst N d, evs E xs) = (true, some vs)) (hc : Gives P k vs.toArray w R)
  (next : ∀ v w', R v w' → TW P r Q N ds ops rest (ins E d none v) w') : TW P r Q N ds ops (⟨d, .call ⟨.value (.func k), xs.toArray, ts⟩, ty, pos, af, none⟩ :: rest) E w := by
 simp only [Prod.mk.injEq] at h
 exact TW.call0 (cap := []) rfl h.1 he rfl (evs_args h.2) (by simpa using hc) next
theorem DW.fi {K : Act → World → Prop} (is : List Nat) {E' : Env} (hp : dpick D is = some E') (h : ∀ w', Below w.heap.size w w' → KW N ds K E' w') : DW P N ds md ops w (fun D => ∀ a w', Below w.heap.size w w' → FitD N ds D a w' → K a w') [] D := DW.nil (DW.fin is E' hp h)
theorem gv {f : FuncId} {fn : Func} {c : Code} {vs : List Value} {R : Value → World → Prop} (hf : P.funcs[f]? = some fn) (hn : fn.ntmps = N)
  (h : CW P none (bodyPost P fn fun e w' => ∃ v, e = .returned v ∧ R v w') N [] c (argEnv vs 0) w) (hb : fn.body = some c := by rfl) (hle : Nat.ble vs.length N = true := by rfl) : Gives P f vs.toArray w R := gives_of _ hf hb hn hle rfl h
theorem gvM {f : FuncId} {fn : Func} {c : Code} {vs : List Value} {R : Value → World → Prop} (hf : P.funcs[f]? = some fn) (hn : fn.ntmps = N)
  (h : CW P none (bodyPostM (FR none) 0 P fn fun e w' => ∃ v, e = .returned v ∧ R v w') N [] c (argEnv vs 0) w) (hb : fn.body = some c := by rfl) (hle : Nat.ble vs.length N = true := by rfl) : Gives P f vs.toArray w R := gives_ofM _ hf hb hn hle rfl h
end
end Go.PF
namespace Go.Proofs.YtnjknkgomhmlfaaGreatDoor
open Go.PF
theorem mixed : Tryz.prog.follows .mixedOrders = true := by kernel_rfl
theorem one3 : one Tryz.prog 3 = true := by kernel_rfl
instance io3 : One Tryz.prog 3 := ⟨one3⟩
theorem sz3 : (Tryz.prog.info? 3).map (·.size) = some 1 := by kernel_rfl
instance is3 : Sz Tryz.prog 3 1 := ⟨sz3⟩
instance iu3 : Und Tryz.prog 3 (.int .i64) := ⟨Tryz.underlying3⟩
theorem zc3 : zeroCells Tryz.prog 3 = some [.int .i64 0] := by kernel_rfl
theorem ze3 : (Tryz.prog.info? 3).bind (·.zero) = some (.int .i64 0) := by kernel_rfl
theorem one4 : one Tryz.prog 4 = true := by kernel_rfl
instance io4 : One Tryz.prog 4 := ⟨one4⟩
theorem sz4 : (Tryz.prog.info? 4).map (·.size) = some 1 := by kernel_rfl
instance is4 : Sz Tryz.prog 4 1 := ⟨sz4⟩
theorem ze4 : (Tryz.prog.info? 4).bind (·.zero) = some (.bool false) := by kernel_rfl
theorem one5 : one Tryz.prog 5 = true := by kernel_rfl
instance io5 : One Tryz.prog 5 := ⟨one5⟩
theorem sz5 : (Tryz.prog.info? 5).map (·.size) = some 1 := by kernel_rfl
instance is5 : Sz Tryz.prog 5 1 := ⟨sz5⟩
instance iu5 : Und Tryz.prog 5 (.int .u8) := ⟨Tryz.underlying5⟩
theorem one9 : one Tryz.prog 9 = true := by kernel_rfl
instance io9 : One Tryz.prog 9 := ⟨one9⟩
theorem sz9 : (Tryz.prog.info? 9).map (·.size) = some 1 := by kernel_rfl
instance is9 : Sz Tryz.prog 9 1 := ⟨sz9⟩
instance iu9 : Und Tryz.prog 9 (.string) := ⟨Tryz.underlying9⟩
theorem one22 : one Tryz.prog 22 = true := by kernel_rfl
instance io22 : One Tryz.prog 22 := ⟨one22⟩
instance iu22 : Und Tryz.prog 22 (.slice 118) := ⟨Tryz.underlying22⟩
theorem eo22 : elemOK Tryz.prog 22 118 3 = true := by kernel_rfl
theorem one23 : one Tryz.prog 23 = true := by kernel_rfl
instance io23 : One Tryz.prog 23 := ⟨one23⟩
instance iu23 : Und Tryz.prog 23 (.slice 9) := ⟨Tryz.underlying23⟩
theorem eo23 : elemOK Tryz.prog 23 9 1 = true := by kernel_rfl
theorem go23 : growOK Tryz.prog 23 9 1 16 = true := by kernel_rfl
theorem one24 : one Tryz.prog 24 = true := by kernel_rfl
instance io24 : One Tryz.prog 24 := ⟨one24⟩
instance iu24 : Und Tryz.prog 24 (.slice 122) := ⟨Tryz.underlying24⟩
theorem eo24 : elemOK Tryz.prog 24 122 1 = true := by kernel_rfl
theorem one25 : one Tryz.prog 25 = true := by kernel_rfl
instance io25 : One Tryz.prog 25 := ⟨one25⟩
instance iu25 : Und Tryz.prog 25 (.slice 120) := ⟨Tryz.underlying25⟩
theorem eo25 : elemOK Tryz.prog 25 120 7 = true := by kernel_rfl
theorem one26 : one Tryz.prog 26 = true := by kernel_rfl
instance io26 : One Tryz.prog 26 := ⟨one26⟩
instance iu26 : Und Tryz.prog 26 (.slice 53) := ⟨Tryz.underlying26⟩
theorem eo26 : elemOK Tryz.prog 26 53 6 = true := by kernel_rfl
theorem one27 : one Tryz.prog 27 = true := by kernel_rfl
instance io27 : One Tryz.prog 27 := ⟨one27⟩
instance iu27 : Und Tryz.prog 27 (.slice 172) := ⟨Tryz.underlying27⟩
theorem sz29 : (Tryz.prog.info? 29).map (·.size) = some 6 := by kernel_rfl
theorem zc29 : zeroCells Tryz.prog 29 = some [.slice none 0 0, .slice none 0 0, .slice none 0 0, .slice none 0 0, .slice none 0 0, .slice none 0 0] := by kernel_rfl
theorem fo29_0 : fieldOff Tryz.prog 29 0 = some 0 := by kernel_rfl
instance if29_0 : FO Tryz.prog 29 0 0 := ⟨fo29_0⟩
theorem fo29_1 : fieldOff Tryz.prog 29 1 = some 1 := by kernel_rfl
instance if29_1 : FO Tryz.prog 29 1 1 := ⟨fo29_1⟩
theorem fo29_2 : fieldOff Tryz.prog 29 2 = some 2 := by kernel_rfl
instance if29_2 : FO Tryz.prog 29 2 2 := ⟨fo29_2⟩
theorem fo29_3 : fieldOff Tryz.prog 29 3 = some 3 := by kernel_rfl
instance if29_3 : FO Tryz.prog 29 3 3 := ⟨fo29_3⟩
theorem fo29_4 : fieldOff Tryz.prog 29 4 = some 4 := by kernel_rfl
instance if29_4 : FO Tryz.prog 29 4 4 := ⟨fo29_4⟩
theorem fo29_5 : fieldOff Tryz.prog 29 5 = some 5 := by kernel_rfl
instance if29_5 : FO Tryz.prog 29 5 5 := ⟨fo29_5⟩
theorem one30 : one Tryz.prog 30 = true := by kernel_rfl
instance io30 : One Tryz.prog 30 := ⟨one30⟩
theorem sz30 : (Tryz.prog.info? 30).map (·.size) = some 1 := by kernel_rfl
instance iu30 : Und Tryz.prog 30 (.slice 48) := ⟨Tryz.underlying30⟩
theorem zc30 : zeroCells Tryz.prog 30 = some [.slice none 0 0] := by kernel_rfl
theorem eo30 : elemOK Tryz.prog 30 48 1 = true := by kernel_rfl
theorem go30 : growOK Tryz.prog 30 48 1 24 = true := by kernel_rfl
theorem one31 : one Tryz.prog 31 = true := by kernel_rfl
instance io31 : One Tryz.prog 31 := ⟨one31⟩
theorem sz31 : (Tryz.prog.info? 31).map (·.size) = some 1 := by kernel_rfl
instance is31 : Sz Tryz.prog 31 1 := ⟨sz31⟩
instance iu31 : Und Tryz.prog 31 (.slice 50) := ⟨Tryz.underlying31⟩
theorem zc31 : zeroCells Tryz.prog 31 = some [.slice none 0 0] := by kernel_rfl
theorem eo31 : elemOK Tryz.prog 31 50 4 = true := by kernel_rfl
theorem go31 : growOK Tryz.prog 31 50 4 48 = true := by kernel_rfl
theorem sz35 : (Tryz.prog.info? 35).map (·.size) = some 2 := by kernel_rfl
instance is35 : Sz Tryz.prog 35 2 := ⟨sz35⟩
theorem zc35 : zeroCells Tryz.prog 35 = some [.int .i64 0, .int .i64 0] := by kernel_rfl
theorem one39 : one Tryz.prog 39 = true := by kernel_rfl
instance io39 : One Tryz.prog 39 := ⟨one39⟩
theorem sz39 : (Tryz.prog.info? 39).map (·.size) = some 1 := by kernel_rfl
instance iu39 : Und Tryz.prog 39 (.slice 35) := ⟨Tryz.underlying39⟩
theorem zc39 : zeroCells Tryz.prog 39 = some [.slice none 0 0] := by kernel_rfl
theorem eo39 : elemOK Tryz.prog 39 35 2 = true := by kernel_rfl
theorem go39 : growOK Tryz.prog 39 35 2 16 = true := by kernel_rfl
instance iu45 : Und Tryz.prog 45 (.int .u16) := ⟨Tryz.underlying45⟩
theorem one48 : one Tryz.prog 48 = true := by kernel_rfl
instance io48 : One Tryz.prog 48 := ⟨one48⟩
theorem sz48 : (Tryz.prog.info? 48).map (·.size) = some 1 := by kernel_rfl
instance is48 : Sz Tryz.prog 48 1 := ⟨sz48⟩
instance iu48 : Und Tryz.prog 48 (.slice 3) := ⟨Tryz.underlying48⟩
theorem eo48 : elemOK Tryz.prog 48 3 1 = true := by kernel_rfl
theorem go48 : growOK Tryz.prog 48 3 1 8 = true := by kernel_rfl
theorem ze48 : (Tryz.prog.info? 48).bind (·.zero) = some (.slice none 0 0) := by kernel_rfl
theorem sz50 : (Tryz.prog.info? 50).map (·.size) = some 4 := by kernel_rfl
instance is50 : Sz Tryz.prog 50 4 := ⟨sz50⟩
theorem zc50 : zeroCells Tryz.prog 50 = some [.int .i64 0, .int .i64 0, .int .i64 0, .slice none 0 0] := by kernel_rfl
theorem fo50_0 : fieldOff Tryz.prog 50 0 = some 0 := by kernel_rfl
instance if50_0 : FO Tryz.prog 50 0 0 := ⟨fo50_0⟩
theorem fo50_1 : fieldOff Tryz.prog 50 1 = some 1 := by kernel_rfl
instance if50_1 : FO Tryz.prog 50 1 1 := ⟨fo50_1⟩
theorem fo50_2 : fieldOff Tryz.prog 50 2 = some 2 := by kernel_rfl
instance if50_2 : FO Tryz.prog 50 2 2 := ⟨fo50_2⟩
theorem fo50_3 : fieldOff Tryz.prog 50 3 = some 3 := by kernel_rfl
instance if50_3 : FO Tryz.prog 50 3 3 := ⟨fo50_3⟩
theorem sz53 : (Tryz.prog.info? 53).map (·.size) = some 6 := by kernel_rfl
instance is53 : Sz Tryz.prog 53 6 := ⟨sz53⟩
theorem zc53 : zeroCells Tryz.prog 53 = some [.string ByteArray.empty, .int .i64 0, .int .i64 0, .int .i64 0, .int .i64 0, .int .i64 0] := by kernel_rfl
theorem fo53_0 : fieldOff Tryz.prog 53 0 = some 0 := by kernel_rfl
instance if53_0 : FO Tryz.prog 53 0 0 := ⟨fo53_0⟩
theorem fo53_1 : fieldOff Tryz.prog 53 1 = some 1 := by kernel_rfl
instance if53_1 : FO Tryz.prog 53 1 1 := ⟨fo53_1⟩
theorem fo53_2 : fieldOff Tryz.prog 53 2 = some 2 := by kernel_rfl
instance if53_2 : FO Tryz.prog 53 2 2 := ⟨fo53_2⟩
theorem fo53_3 : fieldOff Tryz.prog 53 3 = some 3 := by kernel_rfl
instance if53_3 : FO Tryz.prog 53 3 3 := ⟨fo53_3⟩
theorem fo53_4 : fieldOff Tryz.prog 53 4 = some 4 := by kernel_rfl
instance if53_4 : FO Tryz.prog 53 4 4 := ⟨fo53_4⟩
theorem fo53_5 : fieldOff Tryz.prog 53 5 = some 5 := by kernel_rfl
instance if53_5 : FO Tryz.prog 53 5 5 := ⟨fo53_5⟩
theorem sz57 : (Tryz.prog.info? 57).map (·.size) = some 3 := by kernel_rfl
instance is57 : Sz Tryz.prog 57 3 := ⟨sz57⟩
theorem zc57 : zeroCells Tryz.prog 57 = some [.int .i64 0, .int .i64 0, .int .i64 0] := by kernel_rfl
theorem fo57_0 : fieldOff Tryz.prog 57 0 = some 0 := by kernel_rfl
instance if57_0 : FO Tryz.prog 57 0 0 := ⟨fo57_0⟩
theorem fo57_1 : fieldOff Tryz.prog 57 1 = some 1 := by kernel_rfl
instance if57_1 : FO Tryz.prog 57 1 1 := ⟨fo57_1⟩
theorem fo57_2 : fieldOff Tryz.prog 57 2 = some 2 := by kernel_rfl
instance if57_2 : FO Tryz.prog 57 2 2 := ⟨fo57_2⟩
instance iu58 : Und Tryz.prog 58 (.slice 57) := ⟨Tryz.underlying58⟩
theorem eo58 : elemOK Tryz.prog 58 57 3 = true := by kernel_rfl
instance iu60 : Und Tryz.prog 60 (.int .i64) := ⟨Tryz.underlying60⟩
instance iu72 : Und Tryz.prog 72 (.slice 129) := ⟨Tryz.underlying72⟩
theorem eo72 : elemOK Tryz.prog 72 129 3 = true := by kernel_rfl
theorem go72 : growOK Tryz.prog 72 129 3 24 = true := by kernel_rfl
theorem one75 : one Tryz.prog 75 = true := by kernel_rfl
instance io75 : One Tryz.prog 75 := ⟨one75⟩
theorem sz75 : (Tryz.prog.info? 75).map (·.size) = some 1 := by kernel_rfl
instance iu75 : Und Tryz.prog 75 (.slice 31) := ⟨Tryz.underlying75⟩
theorem zc75 : zeroCells Tryz.prog 75 = some [.slice none 0 0] := by kernel_rfl
theorem eo75 : elemOK Tryz.prog 75 31 1 = true := by kernel_rfl
theorem go75 : growOK Tryz.prog 75 31 1 24 = true := by kernel_rfl
theorem one81 : one Tryz.prog 81 = true := by kernel_rfl
instance io81 : One Tryz.prog 81 := ⟨one81⟩
theorem one85 : one Tryz.prog 85 = true := by kernel_rfl
instance io85 : One Tryz.prog 85 := ⟨one85⟩
theorem one88 : one Tryz.prog 88 = true := by kernel_rfl
instance io88 : One Tryz.prog 88 := ⟨one88⟩
instance iu88 : Und Tryz.prog 88 (.slice 101) := ⟨Tryz.underlying88⟩
theorem eo88 : elemOK Tryz.prog 88 101 1 = true := by kernel_rfl
theorem go88 : growOK Tryz.prog 88 101 1 16 = true := by kernel_rfl
theorem one92 : one Tryz.prog 92 = true := by kernel_rfl
instance io92 : One Tryz.prog 92 := ⟨one92⟩
theorem sz92 : (Tryz.prog.info? 92).map (·.size) = some 1 := by kernel_rfl
instance iu92 : Und Tryz.prog 92 (.slice 96) := ⟨Tryz.underlying92⟩
theorem go92 : growOK Tryz.prog 92 96 1 4 = true := by kernel_rfl
theorem fo94_0 : fieldOff Tryz.prog 94 0 = some 0 := by kernel_rfl
instance if94_0 : FO Tryz.prog 94 0 0 := ⟨fo94_0⟩
theorem fo94_1 : fieldOff Tryz.prog 94 1 = some 1 := by kernel_rfl
instance if94_1 : FO Tryz.prog 94 1 1 := ⟨fo94_1⟩
theorem fo94_2 : fieldOff Tryz.prog 94 2 = some 2 := by kernel_rfl
instance if94_2 : FO Tryz.prog 94 2 2 := ⟨fo94_2⟩
theorem one96 : one Tryz.prog 96 = true := by kernel_rfl
instance io96 : One Tryz.prog 96 := ⟨one96⟩
theorem sz96 : (Tryz.prog.info? 96).map (·.size) = some 1 := by kernel_rfl
instance is96 : Sz Tryz.prog 96 1 := ⟨sz96⟩
instance iu96 : Und Tryz.prog 96 (.int .u32) := ⟨Tryz.underlying96⟩
theorem ze96 : (Tryz.prog.info? 96).bind (·.zero) = some (.int .u32 0) := by kernel_rfl
theorem sz98 : (Tryz.prog.info? 98).map (·.size) = some 2 := by kernel_rfl
instance is98 : Sz Tryz.prog 98 2 := ⟨sz98⟩
theorem zc98 : zeroCells Tryz.prog 98 = some [.int .u32 0, .int .i64 0] := by kernel_rfl
theorem fo98_0 : fieldOff Tryz.prog 98 0 = some 0 := by kernel_rfl
instance if98_0 : FO Tryz.prog 98 0 0 := ⟨fo98_0⟩
theorem fo98_1 : fieldOff Tryz.prog 98 1 = some 1 := by kernel_rfl
instance if98_1 : FO Tryz.prog 98 1 1 := ⟨fo98_1⟩
theorem one101 : one Tryz.prog 101 = true := by kernel_rfl
instance io101 : One Tryz.prog 101 := ⟨one101⟩
theorem sz101 : (Tryz.prog.info? 101).map (·.size) = some 1 := by kernel_rfl
instance is101 : Sz Tryz.prog 101 1 := ⟨sz101⟩
theorem one110 : one Tryz.prog 110 = true := by kernel_rfl
instance io110 : One Tryz.prog 110 := ⟨one110⟩
theorem sz110 : (Tryz.prog.info? 110).map (·.size) = some 1 := by kernel_rfl
theorem zc110 : zeroCells Tryz.prog 110 = some [.map none] := by kernel_rfl
theorem one116 : one Tryz.prog 116 = true := by kernel_rfl
instance io116 : One Tryz.prog 116 := ⟨one116⟩
theorem sz116 : (Tryz.prog.info? 116).map (·.size) = some 1 := by kernel_rfl
instance iu116 : Und Tryz.prog 116 (.slice 4) := ⟨Tryz.underlying116⟩
theorem zc116 : zeroCells Tryz.prog 116 = some [.slice none 0 0] := by kernel_rfl
theorem eo116 : elemOK Tryz.prog 116 4 1 = true := by kernel_rfl
theorem go116 : growOK Tryz.prog 116 4 1 1 = true := by kernel_rfl
theorem sz118 : (Tryz.prog.info? 118).map (·.size) = some 3 := by kernel_rfl
instance is118 : Sz Tryz.prog 118 3 := ⟨sz118⟩
theorem zc118 : zeroCells Tryz.prog 118 = some [.int .i64 0, .slice none 0 0, .slice none 0 0] := by kernel_rfl
theorem fo118_0 : fieldOff Tryz.prog 118 0 = some 0 := by kernel_rfl
instance if118_0 : FO Tryz.prog 118 0 0 := ⟨fo118_0⟩
theorem fo118_1 : fieldOff Tryz.prog 118 1 = some 1 := by kernel_rfl
instance if118_1 : FO Tryz.prog 118 1 1 := ⟨fo118_1⟩
theorem fo118_2 : fieldOff Tryz.prog 118 2 = some 2 := by kernel_rfl
instance if118_2 : FO Tryz.prog 118 2 2 := ⟨fo118_2⟩
theorem sz120 : (Tryz.prog.info? 120).map (·.size) = some 7 := by kernel_rfl
instance is120 : Sz Tryz.prog 120 7 := ⟨sz120⟩
theorem zc120 : zeroCells Tryz.prog 120 = some [.string ByteArray.empty, .int .i64 0, .int .i64 0, .int .i64 0, .int .i64 0, .int .i64 0, .slice none 0 0] := by kernel_rfl
theorem fo120_0 : fieldOff Tryz.prog 120 0 = some 0 := by kernel_rfl
instance if120_0 : FO Tryz.prog 120 0 0 := ⟨fo120_0⟩
theorem fo120_1 : fieldOff Tryz.prog 120 1 = some 1 := by kernel_rfl
instance if120_1 : FO Tryz.prog 120 1 1 := ⟨fo120_1⟩
theorem fo120_2 : fieldOff Tryz.prog 120 2 = some 2 := by kernel_rfl
instance if120_2 : FO Tryz.prog 120 2 2 := ⟨fo120_2⟩
theorem fo120_3 : fieldOff Tryz.prog 120 3 = some 3 := by kernel_rfl
instance if120_3 : FO Tryz.prog 120 3 3 := ⟨fo120_3⟩
theorem fo120_4 : fieldOff Tryz.prog 120 4 = some 4 := by kernel_rfl
instance if120_4 : FO Tryz.prog 120 4 4 := ⟨fo120_4⟩
theorem fo120_5 : fieldOff Tryz.prog 120 5 = some 5 := by kernel_rfl
instance if120_5 : FO Tryz.prog 120 5 5 := ⟨fo120_5⟩
theorem fo120_6 : fieldOff Tryz.prog 120 6 = some 6 := by kernel_rfl
instance if120_6 : FO Tryz.prog 120 6 6 := ⟨fo120_6⟩
theorem sz122 : (Tryz.prog.info? 122).map (·.size) = some 1 := by kernel_rfl
instance is122 : Sz Tryz.prog 122 1 := ⟨sz122⟩
theorem fo122_0 : fieldOff Tryz.prog 122 0 = some 0 := by kernel_rfl
instance if122_0 : FO Tryz.prog 122 0 0 := ⟨fo122_0⟩
theorem sz123 : (Tryz.prog.info? 123).map (·.size) = some 12 := by kernel_rfl
instance is123 : Sz Tryz.prog 123 12 := ⟨sz123⟩
instance iu123 : Und Tryz.prog 123 (.array 12 3) := ⟨Tryz.underlying123⟩
theorem sz124 : (Tryz.prog.info? 124).map (·.size) = some 144 := by kernel_rfl
instance iu124 : Und Tryz.prog 124 (.array 12 123) := ⟨Tryz.underlying124⟩
theorem zc124 : zeroCells Tryz.prog 124 = some [.int .i64 0, .int .i64 0, .int .i64 0, .int .i64 0, .int .i64 0, .int .i64 0, .int .i64 0, .int .i64 0, .int .i64 0, .int .i64 0, .int .i64 0, .int .i64 0, .int .i64 0, .int .i64 0, .int .i64 0, .int .i64 0, .int .i64 0, .int .i64 0, .int .i64 0, .int .i64 0, .int .i64 0, .int .i64 0, .int .i64 0, .int .i64 0, .int .i64 0, .int .i64 0, .int .i64 0, .int .i64 0, .int .i64 0, .int .i64 0, .int .i64 0, .int .i64 0, .int .i64 0, .int .i64 0, .int .i64 0, .int .i64 0, .int .i64 0, .int .i64 0, .int .i64 0, .int .i64 0, .int .i64 0, .int .i64 0, .int .i64 0, .int .i64 0, .int .i64 0, .int .i64 0, .int .i64 0, .int .i64 0, .int .i64 0, .int .i64 0, .int .i64 0, .int .i64 0, .int .i64 0, .int .i64 0, .int .i64 0, .int .i64 0, .int .i64 0, .int .i64 0, .int .i64 0, .int .i64 0, .int .i64 0, .int .i64 0, .int .i64 0, .int .i64 0, .int .i64 0, .int .i64 0, .int .i64 0, .int .i64 0, .int .i64 0, .int .i64 0, .int .i64 0, .int .i64 0, .int .i64 0, .int .i64 0, .int .i64 0, .int .i64 0, .int .i64 0, .int .i64 0, .int .i64 0, .int .i64 0, .int .i64 0, .int .i64 0, .int .i64 0, .int .i64 0, .int .i64 0, .int .i64 0, .int .i64 0, .int .i64 0, .int .i64 0, .int .i64 0, .int .i64 0, .int .i64 0, .int .i64 0, .int .i64 0, .int .i64 0, .int .i64 0, .int .i64 0, .int .i64 0, .int .i64 0, .int .i64 0, .int .i64 0, .int .i64 0, .int .i64 0, .int .i64 0, .int .i64 0, .int .i64 0, .int .i64 0, .int .i64 0, .int .i64 0, .int .i64 0, .int .i64 0, .int .i64 0, .int .i64 0, .int .i64 0, .int .i64 0, .int .i64 0, .int .i64 0, .int .i64 0, .int .i64 0, .int .i64 0, .int .i64 0, .int .i64 0, .int .i64 0, .int .i64 0, .int .i64 0, .int .i64 0, .int .i64 0, .int .i64 0, .int .i64 0, .int .i64 0, .int .i64 0, .int .i64 0, .int .i64 0, .int .i64 0, .int .i64 0, .int .i64 0, .int .i64 0, .int .i64 0, .int .i64 0, .int .i64 0, .int .i64 0, .int .i64 0, .int .i64 0, .int .i64 0] := by kernel_rfl
theorem one126 : one Tryz.prog 126 = true := by kernel_rfl
instance io126 : One Tryz.prog 126 := ⟨one126⟩
theorem fo141_0 : fieldOff Tryz.prog 141 0 = some 0 := by kernel_rfl
instance if141_0 : FO Tryz.prog 141 0 0 := ⟨fo141_0⟩
theorem fo141_1 : fieldOff Tryz.prog 141 1 = some 3 := by kernel_rfl
instance if141_1 : FO Tryz.prog 141 1 3 := ⟨fo141_1⟩
theorem fo141_2 : fieldOff Tryz.prog 141 2 = some 7 := by kernel_rfl
instance if141_2 : FO Tryz.prog 141 2 7 := ⟨fo141_2⟩
theorem fo143_0 : fieldOff Tryz.prog 143 0 = some 0 := by kernel_rfl
instance if143_0 : FO Tryz.prog 143 0 0 := ⟨fo143_0⟩
theorem fo143_1 : fieldOff Tryz.prog 143 1 = some 1 := by kernel_rfl
instance if143_1 : FO Tryz.prog 143 1 1 := ⟨fo143_1⟩
theorem sz151 : (Tryz.prog.info? 151).map (·.size) = some 3 := by kernel_rfl
theorem zc151 : zeroCells Tryz.prog 151 = some [.int .i64 0, .int .i64 0, .int .i64 0] := by kernel_rfl
theorem fo151_0 : fieldOff Tryz.prog 151 0 = some 0 := by kernel_rfl
instance if151_0 : FO Tryz.prog 151 0 0 := ⟨fo151_0⟩
theorem fo151_1 : fieldOff Tryz.prog 151 1 = some 1 := by kernel_rfl
instance if151_1 : FO Tryz.prog 151 1 1 := ⟨fo151_1⟩
theorem fo151_2 : fieldOff Tryz.prog 151 2 = some 2 := by kernel_rfl
instance if151_2 : FO Tryz.prog 151 2 2 := ⟨fo151_2⟩
instance iu153 : Und Tryz.prog 153 (.slice 98) := ⟨Tryz.underlying153⟩
theorem eo153 : elemOK Tryz.prog 153 98 2 = true := by kernel_rfl
theorem go153 : growOK Tryz.prog 153 98 2 16 = true := by kernel_rfl
theorem one155 : one Tryz.prog 155 = true := by kernel_rfl
instance io155 : One Tryz.prog 155 := ⟨one155⟩
theorem one161 : one Tryz.prog 161 = true := by kernel_rfl
instance io161 : One Tryz.prog 161 := ⟨one161⟩
theorem one164 : one Tryz.prog 164 = true := by kernel_rfl
instance io164 : One Tryz.prog 164 := ⟨one164⟩
theorem one167 : one Tryz.prog 167 = true := by kernel_rfl
instance io167 : One Tryz.prog 167 := ⟨one167⟩
theorem one170 : one Tryz.prog 170 = true := by kernel_rfl
instance io170 : One Tryz.prog 170 := ⟨one170⟩
theorem sz172 : (Tryz.prog.info? 172).map (·.size) = some 3 := by kernel_rfl
instance is172 : Sz Tryz.prog 172 3 := ⟨sz172⟩
theorem fo172_0 : fieldOff Tryz.prog 172 0 = some 0 := by kernel_rfl
instance if172_0 : FO Tryz.prog 172 0 0 := ⟨fo172_0⟩
theorem fo172_1 : fieldOff Tryz.prog 172 1 = some 1 := by kernel_rfl
instance if172_1 : FO Tryz.prog 172 1 1 := ⟨fo172_1⟩
theorem fo172_2 : fieldOff Tryz.prog 172 2 = some 2 := by kernel_rfl
instance if172_2 : FO Tryz.prog 172 2 2 := ⟨fo172_2⟩
theorem one174 : one Tryz.prog 174 = true := by kernel_rfl
instance io174 : One Tryz.prog 174 := ⟨one174⟩
theorem one194 : one Tryz.prog 194 = true := by kernel_rfl
theorem sz194 : (Tryz.prog.info? 194).map (·.size) = some 1 := by kernel_rfl
instance is194 : Sz Tryz.prog 194 1 := ⟨sz194⟩
theorem sz195 : (Tryz.prog.info? 195).map (·.size) = some 3 := by kernel_rfl
instance iu195 : Und Tryz.prog 195 (.array 3 194) := ⟨Tryz.underlying195⟩
theorem zc195 : zeroCells Tryz.prog 195 = some [.nilFunc, .nilFunc, .nilFunc] := by kernel_rfl
instance iu202 : Und Tryz.prog 202 (.int .u64) := ⟨Tryz.underlying202⟩
instance iu210 : Und Tryz.prog 210 (.slice 5) := ⟨Tryz.underlying210⟩
theorem sz211 : (Tryz.prog.info? 211).map (·.size) = some 17 := by kernel_rfl
instance iu211 : Und Tryz.prog 211 (.array 17 9) := ⟨Tryz.underlying211⟩
instance iu214 : Und Tryz.prog 214 (.int .i64) := ⟨Tryz.underlying214⟩
instance iu223 : Und Tryz.prog 223 (.int .u64) := ⟨Tryz.underlying223⟩
theorem one224 : one Tryz.prog 224 = true := by kernel_rfl
instance io224 : One Tryz.prog 224 := ⟨one224⟩
instance iu224 : Und Tryz.prog 224 (.int .u64) := ⟨Tryz.underlying224⟩
theorem en11 : enters Tryz.prog 11 = true := by kernel_rfl
theorem en12 : enters Tryz.prog 12 = true := by kernel_rfl
theorem en13 : enters Tryz.prog 13 = true := by kernel_rfl
theorem en15 : enters Tryz.prog 15 = true := by kernel_rfl
theorem en16 : enters Tryz.prog 16 = true := by kernel_rfl
theorem en18 : enters Tryz.prog 18 = true := by kernel_rfl
theorem en20 : enters Tryz.prog 20 = true := by kernel_rfl
theorem en22 : enters Tryz.prog 22 = true := by kernel_rfl
theorem en23 : enters Tryz.prog 23 = true := by kernel_rfl
theorem en25 : enters Tryz.prog 25 = true := by kernel_rfl
theorem en26 : enters Tryz.prog 26 = true := by kernel_rfl
theorem en27 : enters Tryz.prog 27 = true := by kernel_rfl
theorem en28 : enters Tryz.prog 28 = true := by kernel_rfl
theorem en29 : enters Tryz.prog 29 = true := by kernel_rfl
theorem en30 : enters Tryz.prog 30 = true := by kernel_rfl
theorem en31 : enters Tryz.prog 31 = true := by kernel_rfl
theorem en32 : enters Tryz.prog 32 = true := by kernel_rfl
theorem en33 : enters Tryz.prog 33 = true := by kernel_rfl
theorem en34 : enters Tryz.prog 34 = true := by kernel_rfl
theorem en35 : enters Tryz.prog 35 = true := by kernel_rfl
theorem en36 : enters Tryz.prog 36 = true := by kernel_rfl
theorem en37 : enters Tryz.prog 37 = true := by kernel_rfl
theorem en38 : enters Tryz.prog 38 = true := by kernel_rfl
theorem en39 : enters Tryz.prog 39 = true := by kernel_rfl
theorem en40 : enters Tryz.prog 40 = true := by kernel_rfl
theorem en43 : enters Tryz.prog 43 = true := by kernel_rfl
theorem en44 : enters Tryz.prog 44 = true := by kernel_rfl
theorem en45 : enters Tryz.prog 45 = true := by kernel_rfl
theorem en47 : enters Tryz.prog 47 = true := by kernel_rfl
theorem en48 : enters Tryz.prog 48 = true := by kernel_rfl
theorem en49 : enters Tryz.prog 49 = true := by kernel_rfl
theorem en50 : enters Tryz.prog 50 = true := by kernel_rfl
theorem en51 : enters Tryz.prog 51 = true := by kernel_rfl
theorem en52 : enters Tryz.prog 52 = true := by kernel_rfl
theorem en53 : enters Tryz.prog 53 = true := by kernel_rfl
theorem en54 : enters Tryz.prog 54 = true := by kernel_rfl
theorem en55 : enters Tryz.prog 55 = true := by kernel_rfl
theorem en56 : enters Tryz.prog 56 = true := by kernel_rfl
theorem en57 : enters Tryz.prog 57 = true := by kernel_rfl
theorem en58 : enters Tryz.prog 58 = true := by kernel_rfl
theorem en59 : enters Tryz.prog 59 = true := by kernel_rfl
theorem en60 : enters Tryz.prog 60 = true := by kernel_rfl
theorem en61 : enters Tryz.prog 61 = true := by kernel_rfl
theorem en62 : enters Tryz.prog 62 = true := by kernel_rfl
theorem en63 : enters Tryz.prog 63 = true := by kernel_rfl
theorem en64 : enters Tryz.prog 64 = true := by kernel_rfl
theorem en65 : enters Tryz.prog 65 = true := by kernel_rfl
theorem en66 : enters Tryz.prog 66 = true := by kernel_rfl
theorem en67 : enters Tryz.prog 67 = true := by kernel_rfl
theorem en68 : enters Tryz.prog 68 = true := by kernel_rfl
theorem en69 : enters Tryz.prog 69 = true := by kernel_rfl
theorem en70 : enters Tryz.prog 70 = true := by kernel_rfl
theorem en71 : enters Tryz.prog 71 = true := by kernel_rfl
theorem en72 : enters Tryz.prog 72 = true := by kernel_rfl
theorem en73 : enters Tryz.prog 73 = true := by kernel_rfl
theorem en74 : enters Tryz.prog 74 = true := by kernel_rfl
theorem en76 : enters Tryz.prog 76 = true := by kernel_rfl
theorem en77 : enters Tryz.prog 77 = true := by kernel_rfl
theorem en78 : enters Tryz.prog 78 = true := by kernel_rfl
theorem en80 : enters Tryz.prog 80 = true := by kernel_rfl
theorem en81 : enters Tryz.prog 81 = true := by kernel_rfl
theorem en82 : enters Tryz.prog 82 = true := by kernel_rfl
theorem en83 : enters Tryz.prog 83 = true := by kernel_rfl
theorem en84 : enters Tryz.prog 84 = true := by kernel_rfl
theorem en85 : enters Tryz.prog 85 = true := by kernel_rfl
theorem en86 : enters Tryz.prog 86 = true := by kernel_rfl
theorem en87 : enters Tryz.prog 87 = true := by kernel_rfl
theorem en88 : enters Tryz.prog 88 = true := by kernel_rfl
theorem en89 : enters Tryz.prog 89 = true := by kernel_rfl
theorem en90 : enters Tryz.prog 90 = true := by kernel_rfl
theorem en91 : enters Tryz.prog 91 = true := by kernel_rfl
theorem en92 : enters Tryz.prog 92 = true := by kernel_rfl
theorem en93 : enters Tryz.prog 93 = true := by kernel_rfl
theorem en94 : enters Tryz.prog 94 = true := by kernel_rfl
theorem en95 : enters Tryz.prog 95 = true := by kernel_rfl
theorem en96 : enters Tryz.prog 96 = true := by kernel_rfl
theorem en97 : enters Tryz.prog 97 = true := by kernel_rfl
theorem en98 : enters Tryz.prog 98 = true := by kernel_rfl
theorem en99 : enters Tryz.prog 99 = true := by kernel_rfl
theorem en100 : enters Tryz.prog 100 = true := by kernel_rfl
theorem en101 : enters Tryz.prog 101 = true := by kernel_rfl
theorem en102 : enters Tryz.prog 102 = true := by kernel_rfl
theorem en103 : enters Tryz.prog 103 = true := by kernel_rfl
theorem en104 : enters Tryz.prog 104 = true := by kernel_rfl
theorem en105 : enters Tryz.prog 105 = true := by kernel_rfl
theorem en106 : enters Tryz.prog 106 = true := by kernel_rfl
theorem en107 : enters Tryz.prog 107 = true := by kernel_rfl
theorem en108 : enters Tryz.prog 108 = true := by kernel_rfl
theorem en109 : enters Tryz.prog 109 = true := by kernel_rfl
theorem en110 : enters Tryz.prog 110 = true := by kernel_rfl
theorem en111 : enters Tryz.prog 111 = true := by kernel_rfl
theorem en112 : enters Tryz.prog 112 = true := by kernel_rfl
theorem en113 : enters Tryz.prog 113 = true := by kernel_rfl
theorem en114 : enters Tryz.prog 114 = true := by kernel_rfl
theorem en115 : enters Tryz.prog 115 = true := by kernel_rfl
theorem en116 : enters Tryz.prog 116 = true := by kernel_rfl
theorem en117 : enters Tryz.prog 117 = true := by kernel_rfl
theorem en118 : enters Tryz.prog 118 = true := by kernel_rfl
theorem en123 : enters Tryz.prog 123 = true := by kernel_rfl
theorem en124 : enters Tryz.prog 124 = true := by kernel_rfl
theorem en125 : enters Tryz.prog 125 = true := by kernel_rfl
theorem en126 : enters Tryz.prog 126 = true := by kernel_rfl
theorem en127 : enters Tryz.prog 127 = true := by kernel_rfl
theorem en128 : enters Tryz.prog 128 = true := by kernel_rfl
theorem en129 : enters Tryz.prog 129 = true := by kernel_rfl
theorem en130 : enters Tryz.prog 130 = true := by kernel_rfl
theorem en131 : enters Tryz.prog 131 = true := by kernel_rfl
theorem en132 : enters Tryz.prog 132 = true := by kernel_rfl
theorem en133 : enters Tryz.prog 133 = true := by kernel_rfl
theorem en134 : enters Tryz.prog 134 = true := by kernel_rfl
theorem en135 : enters Tryz.prog 135 = true := by kernel_rfl
theorem en136 : enters Tryz.prog 136 = true := by kernel_rfl
theorem en137 : enters Tryz.prog 137 = true := by kernel_rfl
theorem en138 : enters Tryz.prog 138 = true := by kernel_rfl
theorem en139 : enters Tryz.prog 139 = true := by kernel_rfl
theorem en140 : enters Tryz.prog 140 = true := by kernel_rfl
theorem en141 : enters Tryz.prog 141 = true := by kernel_rfl
theorem en142 : enters Tryz.prog 142 = true := by kernel_rfl
theorem en143 : enters Tryz.prog 143 = true := by kernel_rfl
theorem en144 : enters Tryz.prog 144 = true := by kernel_rfl
theorem en145 : enters Tryz.prog 145 = true := by kernel_rfl
theorem en146 : enters Tryz.prog 146 = true := by kernel_rfl
theorem en147 : enters Tryz.prog 147 = true := by kernel_rfl
theorem en148 : enters Tryz.prog 148 = true := by kernel_rfl
theorem en149 : enters Tryz.prog 149 = true := by kernel_rfl
theorem en150 : enters Tryz.prog 150 = true := by kernel_rfl
theorem en151 : enters Tryz.prog 151 = true := by kernel_rfl
theorem en152 : enters Tryz.prog 152 = true := by kernel_rfl
theorem en153 : enters Tryz.prog 153 = true := by kernel_rfl
theorem en157 : enters Tryz.prog 157 = true := by kernel_rfl
theorem en159 : enters Tryz.prog 159 = true := by kernel_rfl
theorem en162 : enters Tryz.prog 162 = true := by kernel_rfl
theorem en163 : enters Tryz.prog 163 = true := by kernel_rfl
theorem en164 : enters Tryz.prog 164 = true := by kernel_rfl
theorem en165 : enters Tryz.prog 165 = true := by kernel_rfl
theorem en178 : enters Tryz.prog 178 = true := by kernel_rfl
theorem en179 : enters Tryz.prog 179 = true := by kernel_rfl
theorem en180 : enters Tryz.prog 180 = true := by kernel_rfl
theorem en181 : enters Tryz.prog 181 = true := by kernel_rfl
theorem en182 : enters Tryz.prog 182 = true := by kernel_rfl
theorem en183 : enters Tryz.prog 183 = true := by kernel_rfl
theorem en190 : enters Tryz.prog 190 = true := by kernel_rfl
theorem en191 : enters Tryz.prog 191 = true := by kernel_rfl
theorem en213 : enters Tryz.prog 213 = true := by kernel_rfl
end Go.Proofs.YtnjknkgomhmlfaaGreatDoor
namespace Go.Proofs.YtnjknkgomhmlfaaGreatDoor
open Go.PF Go.RowKit Go.Ord
attribute [local irreducible] TW CW KW DW
variable {w : World} {v : Value} {d : Dist}
abbrev SD (w : World) (v : Value) (d : Dist) : Prop := SL (sliceT intT) (fun k => k < w.heap.size) w v d
theorem sd_step {w' : World} (h : SD w v d) (hb : Below w.heap.size w w') : SD w' v d := h.step (sliceT_now intT_now) hb
theorem distances_c (hd : SD w v d) : Gives Tryz.prog 80 #[v] w fun u w' => Below w.heap.size w w' ∧ u = .bool (dec (WfD d)) := by
 obtain ⟨A, cap, rfl, hcap⟩ := hd.form
 have hmax : d.length ≤ 9223372036854775807 := hd.len.2.2
 refine gv Tryz.func80 Tryz.ntmps80 ?_
 refine rnT ?_
 refine CW.pk [0, 2, 15] rfl ?_
 refine CW.condP rfl (fun hbig => ?_) (fun hsmall => ?_)
 ·refine rnT ?_
  refine ret1 Tryz.results80 rfl (⟨Below.refl _ _, by rw [dec_neg (fun h => by have := h.few; omega)]⟩)
 have h12 : d.length ≤ 12 := by omega
 refine rnT ?_
 refine CW.pk [0, 2, 16, 17, 18] rfl ?_
 refine CW.loopS (fun k : Nat => [(0, none, .slice A d.length cap), (16, none, .slice A d.length cap), (17, none, .int .i64 (d.length : Int)), (18, none, .int .i64 (k : Int))])
  (fun k W => k ≤ d.length ∧ W = w ∧ ∀ (i : Nat) (r : List Int), i < k → d[i]? = some r → RowOK d i r) (fun k => d.length - k) 0 [0, 16, 17, 18] ⟨by omega, rfl, fun i r hi => by omega⟩ rfl ?_
 rintro k W ⟨hk, rfl, hrows⟩
 refine rnT ?_
 refine CW.pk [0, 16, 17, 18, 19] rfl ?_
 refine CW.condP rfl (fun hlt => ?_) (fun hge => ?_)
 ·have hkl : k < d.length := by omega
  obtain ⟨r, hr⟩ : ∃ r, d[k]? = some r := ⟨d[k], List.getElem?_eq_getElem hkl⟩
  obtain ⟨ad, rfl⟩ := hd.addr (by omega)
  obtain ⟨rv, hcell, hrow⟩ := hd.row hr
  obtain ⟨B, rcap, rfl, _⟩ := hrow.form
  by_cases hlen : r.length = d.length
  ·obtain ⟨bd, rfl⟩ := hrow.addr (by omega)
   obtain ⟨x, hx⟩ : ∃ x, r[k]? = some x := ⟨r[k]'(by omega), List.getElem?_eq_getElem (by omega)⟩
   refine rnT ?_
   refine TW.ld rfl (hcell) ?_
   refine rnT ?_
   refine TW.ld rfl (hrow.getI hx) ?_
   refine rnT ?_
   refine CW.pk [0, 3, 4, 16, 17, 18, 34] rfl ?_
   refine CW.cond rfl (fun hbad => ?_) (fun hgood => ?_)
   ·refine rnT ?_
    refine ret1 Tryz.results80 rfl (⟨Below.refl _ _, ?_⟩)
    rw [dec_neg]
    intro h
    have := (h.rowOK hr).diag
    rw [hx] at this
    simp [hlen] at hbad
    exact hbad (by simpa using this)
   have hx0 : x = 0 := by simpa [hlen] using hgood
   refine rnT ?_
   refine CW.pk [0, 3, 4, 16, 17, 18, 35, 36, 37] rfl ?_
   refine CW.loopS (fun j : Nat => [(0, none, .slice (some ad) d.length cap), (16, none, .slice (some ad) d.length cap), (17, none, .int .i64 (d.length : Int)), (18, none, .int .i64 (k : Int)), (35, none, .slice (some bd) r.length rcap), (36, none, .int .i64 (r.length : Int)), (37, none, .int .i64 (j : Int))])
    (fun j W' => j ≤ r.length ∧ W' = W ∧ ∀ (i : Nat) (y : Int), i < j → r[i]? = some y → -1 ≤ y ∧ y ≤ 1000000) (fun j => r.length - j) 0 [0, 16, 17, 18, 35, 36, 37] ⟨by omega, rfl, fun i y hi => by omega⟩ rfl ?_
   rintro j W' ⟨hj, rfl, hrng⟩
   refine rnT ?_
   refine CW.pk [0, 16, 17, 18, 35, 36, 37, 38] rfl ?_
   refine CW.condP rfl (fun hlt2 => ?_) (fun hge2 => ?_)
   ·have hjl : j < r.length := by omega
    obtain ⟨y, hy⟩ : ∃ y, r[j]? = some y := ⟨r[j], List.getElem?_eq_getElem hjl⟩
    refine rnT ?_
    refine TW.ld rfl (hrow.getI hy) ?_
    refine rnT ?_
    refine CW.pk [0, 6, 16, 17, 18, 35, 36, 37, 46] rfl ?_
    refine CW.cond rfl (fun hbad2 => ?_) (fun hgood2 => ?_)
    ·refine rnT ?_
     refine ret1 Tryz.results80 rfl (⟨Below.refl _ _, ?_⟩)
     rw [dec_neg]
     intro h
     have := (h.rowOK hr).rng j y hy
     simp at hbad2
     omega
    refine rnT ?_
    refine KW.round (j + 1) [0, 16, 17, 18, 35, 36, 37] rfl ⟨by omega, rfl, fun i z hi hz => ?_⟩ (by omega)
    rcases Nat.lt_or_ge i j with h | h
    ·exact hrng i z h hz
    ·obtain rfl : i = j := by omega
     rw [hy] at hz; cases hz
     simp at hgood2
     omega
   ·refine rnT ?_
    refine KW.round (k + 1) [0, 16, 17, 18] rfl ⟨by omega, rfl, fun i r' hi hr' => ?_⟩ (by omega)
    rcases Nat.lt_or_ge i k with h | h
    ·exact hrows i r' h hr'
    ·obtain rfl : i = k := by omega
     rw [hr] at hr'; cases hr'
     exact ⟨hlen, by rw [hx, hx0], fun j y hy => hrng j y (by have := (List.getElem?_eq_some_iff.1 hy).1; omega) hy⟩
  ·skip
   refine rnT ?_
   refine TW.ld rfl (hcell) ?_
   refine TW.assign rfl rfl rfl ct ?_
   refine TW.assign rfl rfl rfl ct ?_
   refine TW.nil (KW.pick [0, 3, 4, 16, 17, 18] [(0, _, _), (3, _, _), (4, _, _), (16, _, _), (17, _, _), (18, _, _)] rfl (KW.then_ ?_))
   refine CW.seq (CW.seq (CW.region ?_))
   refine TW.move rfl rfl rfl ct ?_
   refine TW.lenSlice rfl rfl Tryz.underlying48 rfl ct ?_
   refine TW.move rfl rfl rfl ct ?_
   refine TW.lenSlice rfl rfl Tryz.underlying30 rfl ct ?_
   refine TW.neq rfl rfl rfl ct rfl ct ?_
   refine TW.move rfl rfl rfl ct ?_
   refine TW.dead (.bool false) rfl (by simp [Cnd]; omega) rfl ?_
   refine TW.dead (.bool false) rfl (by simp [Cnd]; omega) rfl ?_
   refine TW.dead (.bool false) rfl (by simp [Cnd]; omega) rfl ?_
   refine TW.dead (.bool false) rfl (by simp [Cnd]; omega) rfl ?_
   refine TW.dead (.bool false) rfl (by simp [Cnd]; omega) rfl ?_
   refine rnT ?_
   refine CW.pk [0, 3, 4, 16, 17, 18, 34] rfl ?_
   refine CW.cond rfl (fun hbad => ?_) (fun hgood => ?_)
   ·refine rnT ?_
    refine ret1 Tryz.results80 rfl (⟨Below.refl _ _, by rw [dec_neg (fun h => hlen (h.rowOK hr).len)]⟩)
   exfalso
   simp at hgood
   omega
 ·have hrows' : ∀ (i : Nat) (r : List Int), d[i]? = some r → RowOK d i r := fun i r hr => hrows i r (by have := (List.getElem?_eq_some_iff.1 hr).1; omega) hr
  have hall : ∀ i, i < d.length → ∃ r, d[i]? = some r ∧ r.length = d.length := fun i hi => ⟨d[i], List.getElem?_eq_getElem hi, (hrows' i _ (List.getElem?_eq_getElem hi)).len⟩
  refine rnT ?_
  refine CW.pk [0, 16, 17, 18, 49, 50, 51] rfl ?_
  refine CW.loopS (fun i : Nat => [(0, none, .slice A d.length cap), (49, none, .slice A d.length cap), (50, none, .int .i64 (d.length : Int)), (51, none, .int .i64 (i : Int))])
   (fun i W' => i ≤ d.length ∧ W' = W ∧ ∀ a b c, a < i → b < d.length → c < d.length → Tri d a b c) (fun i => d.length - i) 0 [0, 49, 50, 51] ⟨by omega, rfl, fun a b c ha => by omega⟩ rfl ?_
  rintro i W' ⟨hi, rfl, htri⟩
  refine rnT ?_
  refine CW.pk [0, 49, 50, 51, 52] rfl ?_
  refine CW.condP rfl (fun hlt1 => ?_) (fun hge1 => ?_)
  ·have hil : i < d.length := by omega
   obtain ⟨r, hr, hrl⟩ := hall i hil
   obtain ⟨ad, rfl⟩ := hd.addr (by omega)
   obtain ⟨rv, hcell, hrow⟩ := hd.row hr
   obtain ⟨B, rcap, rfl, _⟩ := hrow.form
   obtain ⟨bd, rfl⟩ := hrow.addr (by omega)
   refine rnT ?_
   refine TW.ld rfl (hcell) ?_
   refine rnT ?_
   refine CW.pk [0, 7, 8, 49, 50, 51, 56, 57, 58] rfl ?_
   refine CW.loopS (fun k : Nat => [(0, none, .slice (some ad) d.length cap), (7, none, .int .i64 (i : Int)), (8, none, .slice (some bd) r.length rcap), (49, none, .slice (some ad) d.length cap), (50, none, .int .i64 (d.length : Int)), (51, none, .int .i64 (i : Int)), (56, none, .slice (some bd) r.length rcap), (57, none, .int .i64 (r.length : Int)), (58, none, .int .i64 (k : Int))])
    (fun k W2 => k ≤ d.length ∧ W2 = W' ∧ ∀ b c, b < k → c < d.length → Tri d i b c) (fun k => d.length - k) 0 [0, 7, 8, 49, 50, 51, 56, 57, 58] ⟨by omega, rfl, fun b c hb => by omega⟩ rfl ?_
   rintro k W2 ⟨hk2, rfl, htri2⟩
   refine rnT ?_
   refine CW.pk [0, 7, 8, 49, 50, 51, 56, 57, 58, 59] rfl ?_
   refine CW.condP rfl (fun hlt2 => ?_) (fun hge2 => ?_)
   ·have hkl : k < d.length := by omega
    obtain ⟨x, hx⟩ : ∃ x, r[k]? = some x := ⟨r[k]'(by omega), List.getElem?_eq_getElem (by omega)⟩
    have hxa := at2_eq hr hx
    obtain ⟨r2, hr2, hr2l⟩ := hall k hkl
    obtain ⟨rv2, hcell2, hrow2⟩ := hd.row hr2
    obtain ⟨B2, rcap2, rfl, _⟩ := hrow2.form
    obtain ⟨bd2, rfl⟩ := hrow2.addr (by omega)
    have hxr := (hrows' i r hr).rng k x hx
    refine rnT ?_
    refine TW.ld rfl (hrow.getI hx) ?_
    refine rnT ?_
    refine CW.pk [0, 7, 8, 9, 10, 49, 50, 51, 56, 57, 58, 69] rfl ?_
    refine CW.cond rfl (fun hskip => ?_) (fun hgo => ?_)
    ·refine rnT ?_
     refine KW.round (k + 1) [0, 7, 8, 49, 50, 51, 56, 57, 58] rfl ⟨by omega, rfl, fun b c hb hc => ?_⟩ (by omega)
     rcases Nat.lt_or_ge b k with h | h
     ·exact htri2 b c h hc
     ·obtain rfl : b = k := by omega
      intro q1 q2
      rw [hxa] at q1
      simp at hskip
      have hib : i = b := by omega
      subst hib
      have hx0 : x = 0 := by
       have := (hrows' i r hr).diag
       rw [hx] at this
       simpa using this
      rw [hxa, hx0]
      exact ⟨q2, by omega⟩
    have hx1 : x ≠ -1 := fun h => by simp [h] at hgo
    refine rnT ?_
    refine TW.ld rfl (hcell2) ?_
    refine rnT ?_
    refine CW.pk [0, 7, 8, 9, 10, 49, 50, 51, 56, 57, 58, 73, 74, 75] rfl ?_
    refine CW.loopS (fun j : Nat => [(0, none, .slice (some ad) d.length cap), (7, none, .int .i64 (i : Int)), (8, none, .slice (some bd) r.length rcap), (10, none, .int .i64 x), (49, none, .slice (some ad) d.length cap), (50, none, .int .i64 (d.length : Int)), (51, none, .int .i64 (i : Int)), (56, none, .slice (some bd) r.length rcap), (57, none, .int .i64 (r.length : Int)), (58, none, .int .i64 (k : Int)), (73, none, .slice (some bd2) r2.length rcap2), (74, none, .int .i64 (r2.length : Int)), (75, none, .int .i64 (j : Int))])
     (fun j W3 => j ≤ d.length ∧ W3 = W2 ∧ ∀ c, c < j → Tri d i k c) (fun j => d.length - j) 0 [0, 7, 8, 10, 49, 50, 51, 56, 57, 58, 73, 74, 75] ⟨by omega, rfl, fun c hc => by omega⟩ rfl ?_
    rintro j W3 ⟨hj3, rfl, htri3⟩
    refine rnT ?_
    refine CW.pk [0, 7, 8, 10, 49, 50, 51, 56, 57, 58, 73, 74, 75, 76] rfl ?_
    refine CW.condP rfl (fun hlt3 => ?_) (fun hge3 => ?_)
    ·have hjl : j < d.length := by omega
     obtain ⟨y, hy⟩ : ∃ y, r2[j]? = some y := ⟨r2[j]'(by omega), List.getElem?_eq_getElem (by omega)⟩
     obtain ⟨z, hz⟩ : ∃ z, r[j]? = some z := ⟨r[j]'(by omega), List.getElem?_eq_getElem (by omega)⟩
     have hya := at2_eq hr2 hy
     have hza := at2_eq hr hz
     have hyr := (hrows' k r2 hr2).rng j y hy
     refine rnT ?_
     refine TW.ld rfl (hrow2.getI hy) ?_
     refine rnT ?_
     refine TW.ld rfl (hrow.getI hz) ?_
     refine rnT ?_
     refine TW.ld rfl (hrow.getI hz) ?_
     refine rnT ?_
     refine CW.pk [0, 7, 8, 10, 11, 12, 49, 50, 51, 56, 57, 58, 73, 74, 75, 98] rfl ?_
     refine CW.cond rfl (fun hbad => ?_) (fun hgood => ?_)
     ·refine rnT ?_
      refine ret1 Tryz.results80 rfl (⟨Below.refl _ _, ?_⟩)
      rw [dec_neg]
      intro h
      have ht := h.tri i k j hil hkl hjl (by rw [hxa]; exact hx1)
      rw [hxa, hya, hza] at ht
      simp at hbad
      have := ht hbad.1
      omega
     refine rnT ?_
     refine KW.round (j + 1) [0, 7, 8, 10, 49, 50, 51, 56, 57, 58, 73, 74, 75] rfl ⟨by omega, rfl, fun c hc => ?_⟩ (by omega)
     rcases Nat.lt_or_ge c j with h | h
     ·exact htri3 c h
     ·obtain rfl : c = j := by omega
      intro _ q2
      rw [hya] at q2
      rw [hxa, hya, hza]
      simp [q2] at hgood
      omega
    ·refine rnT ?_
     refine KW.round (k + 1) [0, 7, 8, 49, 50, 51, 56, 57, 58] rfl ⟨by omega, rfl, fun b c hb hc => ?_⟩ (by omega)
     rcases Nat.lt_or_ge b k with h | h
     ·exact htri2 b c h hc
     ·obtain rfl : b = k := by omega
      exact htri3 c (by omega)
   ·refine rnT ?_
    refine KW.round (i + 1) [0, 49, 50, 51] rfl ⟨by omega, rfl, fun a b c ha hb hc => ?_⟩ (by omega)
    rcases Nat.lt_or_ge a i with h | h
    ·exact htri a b c h hb hc
    ·obtain rfl : a = i := by omega
     exact htri2 b c (by omega) hc
  ·refine rnT ?_
   refine ret1 Tryz.results80 rfl (⟨Below.refl _ _, by rw [dec_pos (wfd_of h12 hrows' (fun a b c ha hb hc => htri a b c (by omega) hb hc))]⟩)
theorem rdistances_c (hd : SD w v d) : Gives Tryz.prog 118 #[v] w fun u w' => Below w.heap.size w w' ∧ u = .bool (dec (WfD d)) := by
 obtain ⟨A, cap, rfl, hcap⟩ := hd.form
 have hmax : d.length ≤ 9223372036854775807 := hd.len.2.2
 refine gv Tryz.func118 Tryz.ntmps118 ?_
 refine rnT ?_
 refine CW.pk [0, 2, 3, 12] rfl ?_
 refine CW.condP rfl (fun hbig => ?_) (fun hsmall => ?_)
 ·refine rnT ?_
  refine ret1 Tryz.results118 rfl (⟨Below.refl _ _, by rw [dec_neg (fun h => by have := h.few; omega)]⟩)
 have h12 : d.length ≤ 12 := by omega
 refine rnT ?_
 refine CW.pk [0, 2, 3, 4] rfl ?_
 refine CW.loopS (fun k : Nat => [(0, none, .slice A d.length cap), (3, none, .int .i64 (d.length : Int)), (4, none, .int .i64 (k : Int))])
  (fun k W => k ≤ d.length ∧ W = w ∧ ∀ (i : Nat) (r : List Int), i < k → d[i]? = some r → RowOK d i r) (fun k => d.length - k) 0 [0, 3, 4] ⟨by omega, rfl, fun i r hi => by omega⟩ rfl ?_
 rintro k W ⟨hk, rfl, hrows⟩
 refine rnT ?_
 refine CW.pk [0, 3, 4, 15] rfl ?_
 refine CW.condP rfl (fun hlt => ?_) (fun hge => ?_)
 ·have hkl : k < d.length := by omega
  obtain ⟨r, hr⟩ : ∃ r, d[k]? = some r := ⟨d[k], List.getElem?_eq_getElem hkl⟩
  obtain ⟨ad, rfl⟩ := hd.addr (by omega)
  obtain ⟨rv, hcell, hrow⟩ := hd.row hr
  obtain ⟨B, rcap, rfl, _⟩ := hrow.form
  by_cases hlen : r.length = d.length
  ·obtain ⟨bd, rfl⟩ := hrow.addr (by omega)
   obtain ⟨x, hx⟩ : ∃ x, r[k]? = some x := ⟨r[k]'(by omega), List.getElem?_eq_getElem (by omega)⟩
   refine rnT ?_
   refine TW.ld rfl (hcell) ?_
   refine rnT ?_
   refine TW.ld rfl (hcell) ?_
   refine rnT ?_
   refine TW.ld rfl (hrow.getI hx) ?_
   refine rnT ?_
   refine CW.pk [0, 3, 4, 34] rfl ?_
   refine CW.cond rfl (fun hbad => ?_) (fun hgood => ?_)
   ·refine rnT ?_
    refine ret1 Tryz.results118 rfl (⟨Below.refl _ _, ?_⟩)
    rw [dec_neg]
    intro h
    have := (h.rowOK hr).diag
    rw [hx] at this
    simp [hlen] at hbad
    exact hbad (by simpa using this)
   have hx0 : x = 0 := by simpa [hlen] using hgood
   refine rnT ?_
   refine CW.pk [0, 3, 4, 5] rfl ?_
   refine CW.loopS (fun j : Nat => [(0, none, .slice (some ad) d.length cap), (3, none, .int .i64 (d.length : Int)), (4, none, .int .i64 (k : Int)), (5, none, .int .i64 (j : Int))])
    (fun j W' => j ≤ r.length ∧ W' = W ∧ ∀ (i : Nat) (y : Int), i < j → r[i]? = some y → -1 ≤ y ∧ y ≤ 1000000) (fun j => r.length - j) 0 [0, 3, 4, 5] ⟨by omega, rfl, fun i y hi => by omega⟩ rfl ?_
   rintro j W' ⟨hj, rfl, hrng⟩
   refine rnT ?_
   refine CW.pk [0, 3, 4, 5, 37] rfl ?_
   refine CW.condP rfl (fun hlt2 => ?_) (fun hge2 => ?_)
   ·have hjl : j < r.length := by omega
    obtain ⟨y, hy⟩ : ∃ y, r[j]? = some y := ⟨r[j], List.getElem?_eq_getElem hjl⟩
    refine rnT ?_
    refine TW.ld rfl (hcell) ?_
    refine rnT ?_
    refine TW.ld rfl (hrow.getI hy) ?_
    refine rnT ?_
    refine TW.ld rfl (hcell) ?_
    refine rnT ?_
    refine TW.ld rfl (hrow.getI hy) ?_
    refine rnT ?_
    refine CW.pk [0, 3, 4, 5, 57] rfl ?_
    refine CW.cond rfl (fun hbad2 => ?_) (fun hgood2 => ?_)
    ·refine rnT ?_
     refine ret1 Tryz.results118 rfl (⟨Below.refl _ _, ?_⟩)
     rw [dec_neg]
     intro h
     have := (h.rowOK hr).rng j y hy
     simp at hbad2
     omega
    refine rnT ?_
    refine KW.round (j + 1) [0, 3, 4, 5] rfl ⟨by omega, rfl, fun i z hi hz => ?_⟩ (by omega)
    rcases Nat.lt_or_ge i j with h | h
    ·exact hrng i z h hz
    ·obtain rfl : i = j := by omega
     rw [hy] at hz; cases hz
     simp at hgood2
     omega
   ·refine rnT ?_
    refine KW.round (k + 1) [0, 3, 4] rfl ⟨by omega, rfl, fun i r' hi hr' => ?_⟩ (by omega)
    rcases Nat.lt_or_ge i k with h | h
    ·exact hrows i r' h hr'
    ·obtain rfl : i = k := by omega
     rw [hr] at hr'; cases hr'
     exact ⟨hlen, by rw [hx, hx0], fun j y hy => hrng j y (by have := (List.getElem?_eq_some_iff.1 hy).1; omega) hy⟩
  ·skip
   refine rnT ?_
   refine TW.ld rfl (hcell) ?_
   refine TW.lenSlice rfl rfl Tryz.underlying48 rfl ct ?_
   refine TW.move rfl rfl rfl ct ?_
   refine TW.neq rfl rfl rfl ct rfl ct ?_
   refine TW.move rfl rfl rfl ct ?_
   refine TW.dead (.bool false) rfl (by simp [Cnd]; omega) rfl ?_
   refine TW.dead (.bool false) rfl (by simp [Cnd]; omega) rfl ?_
   refine TW.dead (.bool false) rfl (by simp [Cnd]; omega) rfl ?_
   refine TW.dead (.bool false) rfl (by simp [Cnd]; omega) rfl ?_
   refine TW.dead (.bool false) rfl (by simp [Cnd]; omega) rfl ?_
   refine TW.dead (.bool false) rfl (by simp [Cnd]; omega) rfl ?_
   refine TW.dead (.bool false) rfl (by simp [Cnd]; omega) rfl ?_
   refine TW.dead (.bool false) rfl (by simp [Cnd]; omega) rfl ?_
   refine rnT ?_
   refine CW.pk [0, 3, 4, 34] rfl ?_
   refine CW.cond rfl (fun hbad => ?_) (fun hgood => ?_)
   ·refine rnT ?_
    refine ret1 Tryz.results118 rfl (⟨Below.refl _ _, by rw [dec_neg (fun h => hlen (h.rowOK hr).len)]⟩)
   exfalso
   simp at hgood
   omega
 ·have hrows' : ∀ (i : Nat) (r : List Int), d[i]? = some r → RowOK d i r := fun i r hr => hrows i r (by have := (List.getElem?_eq_some_iff.1 hr).1; omega) hr
  have hall : ∀ i, i < d.length → ∃ r, d[i]? = some r ∧ r.length = d.length := fun i hi => ⟨d[i], List.getElem?_eq_getElem hi, (hrows' i _ (List.getElem?_eq_getElem hi)).len⟩
  refine rnT ?_
  refine CW.pk [0, 3, 4, 6] rfl ?_
  refine CW.loopS (fun i : Nat => [(0, none, .slice A d.length cap), (3, none, .int .i64 (d.length : Int)), (6, none, .int .i64 (i : Int))])
   (fun i W' => i ≤ d.length ∧ Below W.heap.size W W' ∧ ∀ a b c, a < i → b < d.length → c < d.length → Tri d a b c) (fun i => d.length - i) 0 [0, 3, 6] ⟨by omega, Below.refl _ _, fun a b c ha => by omega⟩ rfl ?_
  rintro i W' ⟨hi, hB1, htri⟩
  refine rnT ?_
  refine CW.pk [0, 3, 6, 60] rfl ?_
  refine CW.condP rfl (fun hlt1 => ?_) (fun hge1 => ?_)
  ·have hil : i < d.length := by omega
   obtain ⟨r, hr, hrl⟩ := hall i hil
   obtain ⟨ad, rfl⟩ := hd.addr (by omega)
   refine rnT ?_
   refine CW.pk [0, 3, 6, 7] rfl ?_
   refine CW.loopS (fun j : Nat => [(0, none, .slice (some ad) d.length cap), (3, none, .int .i64 (d.length : Int)), (6, none, .int .i64 (i : Int)), (7, none, .int .i64 (j : Int))])
    (fun j W2 => j ≤ d.length ∧ Below W.heap.size W W2 ∧ ∀ b c, b < d.length → c < j → Tri d i b c) (fun j => d.length - j) 0 [0, 3, 6, 7] ⟨by omega, hB1, fun b c _ hb => by omega⟩ rfl ?_
   rintro j W2 ⟨hj2, hB2, htri2⟩
   refine rnT ?_
   refine CW.pk [0, 3, 6, 7, 65] rfl ?_
   refine CW.condP rfl (fun hlt2 => ?_) (fun hge2 => ?_)
   ·have hjl : j < d.length := by omega
    obtain ⟨z, hz⟩ : ∃ z, r[j]? = some z := ⟨r[j]'(by omega), List.getElem?_eq_getElem (by omega)⟩
    have hza := at2_eq hr hz
    refine rnT ?_
    refine CW.pk [0, 3, 6, 7, 8] rfl ?_
    refine CW.loopS (fun k : Nat => [(0, none, .slice (some ad) d.length cap), (3, none, .int .i64 (d.length : Int)), (6, none, .int .i64 (i : Int)), (7, none, .int .i64 (j : Int)), (8, none, .int .i64 (k : Int))])
     (fun k W3 => k ≤ d.length ∧ Below W.heap.size W W3 ∧ ∀ b, b < k → Tri d i b j) (fun k => d.length - k) 0 [0, 3, 6, 7, 8] ⟨by omega, hB2, fun c hc => by omega⟩ rfl ?_
    rintro k W3 ⟨hk3, hB3, htri3⟩
    refine rnT ?_
    refine CW.pk [0, 3, 6, 7, 8, 70] rfl ?_
    refine CW.condP rfl (fun hlt3 => ?_) (fun hge3 => ?_)
    ·have hkl : k < d.length := by omega
     obtain ⟨x, hx⟩ : ∃ x, r[k]? = some x := ⟨r[k]'(by omega), List.getElem?_eq_getElem (by omega)⟩
     have hxa := at2_eq hr hx
     obtain ⟨r2, hr2, hr2l⟩ := hall k hkl
     have hd3 := sd_step hd hB3
     obtain ⟨rv, hcell, hrow⟩ := hd3.row hr
     obtain ⟨B, rcap, rfl, _⟩ := hrow.form
     obtain ⟨bd, rfl⟩ := hrow.addr (by omega)
     obtain ⟨rv2, hcell2, hrow2⟩ := hd3.row hr2
     obtain ⟨B2, rcap2, rfl, _⟩ := hrow2.form
     obtain ⟨bd2, rfl⟩ := hrow2.addr (by omega)
     have hxr := (hrows' i r hr).rng k x hx
     obtain ⟨y, hy⟩ : ∃ y, r2[j]? = some y := ⟨r2[j]'(by omega), List.getElem?_eq_getElem (by omega)⟩
     have hya := at2_eq hr2 hy
     have hyr := (hrows' k r2 hr2).rng j y hy
     have hzr := (hrows' i r hr).rng j z hz
     refine rnT ?_
     refine CW.draw mixed (by kernel_rfl) ?_
     refine rnD ?_
     refine DW.ld rfl (hcell) ?_
     refine rnD ?_
     refine DW.ld rfl (hrow.getI hx) ?_
     refine rnD ?_
     refine DW.ld rfl (hcell2) ?_
     refine rnD ?_
     refine DW.ld rfl (hrow2.getI hy) ?_
     refine rnD ?_
     refine DW.ld rfl (hcell) ?_
     refine rnD ?_
     refine DW.ld rfl (hrow.getI hz) ?_
     refine rnD ?_
     refine DW.ld rfl (hcell) ?_
     refine rnD ?_
     refine DW.ld rfl (hrow.getI hz) ?_
     refine rnD ?_
     refine DW.ld rfl (hcell) ?_
     refine rnD ?_
     refine DW.ld rfl (hrow.getI hx) ?_
     refine rnD ?_
     refine DW.ld rfl (hcell2) ?_
     refine rnD ?_
     refine DW.ld rfl (hrow2.getI hy) ?_
     refine rnD ?_
     refine DW.fi [0, 3, 6, 7, 8, 125] rfl fun W4 hb4 => ?_
     refine KW.then_ ?_
     have hB4 := hB3.trans (hb4.mono hB3.size)
     refine CW.cond rfl (fun hbad => ?_) (fun hgood => ?_)
     ·refine rnT ?_
      refine ret1 Tryz.results118 rfl (⟨hB4, ?_⟩)
      rw [dec_neg]
      intro h
      have ht := h.tri i k j hil hkl hjl
      rw [hxa, hya, hza] at ht
      simp at hbad
      have := ht (by omega) (by omega)
      omega
     refine rnT ?_
     refine KW.round (k + 1) [0, 3, 6, 7, 8] rfl ⟨by omega, hB4, fun b hb => ?_⟩ (by omega)
     rcases Nat.lt_or_ge b k with h | h
     ·exact htri3 b h
     ·obtain rfl : b = k := by omega
      intro q1 q2
      rw [hxa] at q1
      rw [hya] at q2
      rw [hxa, hya, hza]
      have e1 : 0 ≤ x := by omega
      have e2 : 0 ≤ y := by omega
      simp [e1, e2] at hgood
      omega
    ·refine rnT ?_
     refine KW.round (j + 1) [0, 3, 6, 7] rfl ⟨by omega, hB3, fun b c hb hc => ?_⟩ (by omega)
     rcases Nat.lt_or_ge c j with h | h
     ·exact htri2 b c hb h
     ·obtain rfl : c = j := by omega
      exact htri3 b (by omega)
   ·refine rnT ?_
    refine KW.round (i + 1) [0, 3, 6] rfl ⟨by omega, hB2, fun a b c ha hb hc => ?_⟩ (by omega)
    rcases Nat.lt_or_ge a i with h | h
    ·exact htri a b c h hb hc
    ·obtain rfl : a = i := by omega
     exact htri2 b c hb (by omega)
  ·refine rnT ?_
   refine ret1 Tryz.results118 rfl (⟨hB1, by rw [dec_pos (wfd_of h12 hrows' (fun a b c ha hb hc => htri a b c (by omega) hb hc))]⟩)
end Go.Proofs.YtnjknkgomhmlfaaGreatDoor
namespace Go.PF
open Go.RowKit Go.Ord
def evT : Ty Ev where
 n := 4
 rep := fun F w cs e => ∃ v, cs = [.int .i64 e.office, .int .i64 e.low, .int .i64 e.high, v] ∧ I64 e.office ∧ I64 e.low ∧ I64 e.high ∧ SL intT F w v e.needs
 len := fun _ _ _ _ h => by obtain ⟨v, h, _⟩ := h; rw [h]; rfl
 mono := fun _ _ _ _ _ hk h => by obtain ⟨v, h, h1, h2, h3, hs⟩ := h; exact ⟨v, h, h1, h2, h3, hs.mono hk⟩
 wider := fun _ _ _ _ _ hF h => by obtain ⟨v, h, h1, h2, h3, hs⟩ := h; exact ⟨v, h, h1, h2, h3, hs.wider hF⟩
theorem evT_now : Ty.Now evT := ⟨by decide, fun F w cs e ⟨v, h, h1, h2, h3, hs⟩ => ⟨v, h, h1, h2, h3, hs.now intT_now⟩⟩
abbrev SE (w : World) (v : Value) (l : List Ev) : Prop := SL evT (fun k => k < w.heap.size) w v l
theorem se_step {w w' : World} {v : Value} {l : List Ev} (h : SE w v l) (hb : Below w.heap.size w w') : SE w' v l := h.step evT_now hb
theorem SE.get {F : Nat → Prop} {w : World} {ad : Addr} {n cap : Nat} {l : List Ev} (h : SL evT F w (.slice (some ad) n cap) l) {i : Nat} {e : Ev} (hx : l[i]? = some e) :
  ∃ v, (∀ j u, [Value.int .i64 e.office, .int .i64 e.low, .int .i64 e.high, v][j]? = some u → w.cell? ((ad.add ((i : Int).toNat * 4)).add j) = some u) ∧ I64 e.office ∧ I64 e.low ∧ I64 e.high ∧ SL intT F w v e.needs := by
 obtain ⟨ad', cs, h1, _, ⟨v, rfl, g1, g2, g3, hs⟩, hc⟩ := h.at hx
 cases h1
 exact ⟨v, hc, g1, g2, g3, hs⟩
theorem Blk.sub {w : World} {g : Nat} {t : TypeId} {cs : List Value} (h : Blk w g t cs) (k : Nat) (ds : List Value) (hk : cs.drop k = ds) : ∀ j v, ds[j]? = some v → w.cell? ((Addr.add ⟨g, 0, none⟩ k).add j) = some v := fun j v hj => by
 rw [Addr.add_add]
 refine h.fld ?_
 rw [← hk, List.getElem?_drop] at hj
 exact hj
def EvV (F : Nat → Prop) (w : World) (cs : List Value) (e : Ev) : Prop := evT.rep F w cs e
end Go.PF
