/- Texts of this claim, joined. -/
import Derived.Test.YtnjknkgomhmlfaaGreatDoorQM
set_option linter.unusedSimpArgs false
set_option linter.unusedVariables false
set_option maxRecDepth 100000
set_option maxHeartbeats 4000000
namespace Go.Ord
variable {d : Dist}
def pc : Nat → Nat
 | 0 => 0
 | n + 1 => (n + 1) % 2 + pc ((n + 1) / 2)
decreasing_by omega
theorem pc_eq (n : Nat) : pc n = n % 2 + pc (n / 2) := by
 cases n with
 | zero => simp [pc]
 | succ n => rw [pc]
theorem left_consU (u : U) (us : List U) (m : Nat) : left (u :: us) m = (if m.testBit 0 then [] else [u]) ++ left us (m / 2) := by
 unfold left
 rw [List.length_cons, List.range_succ_eq_map, List.filterMap_cons, List.filterMap_map]
 have e : ((fun i => if m.testBit i = true then none else (u :: us)[i]?) ∘ Nat.succ) = fun i => if (m / 2).testBit i = true then none else us[i]? := by
  funext i
  simp [Function.comp, Nat.testBit_succ]
 rw [e]
 by_cases h : m.testBit 0 = true
 ·simp [h]
 ·simp [h]
theorem pc_left : ∀ (us : List U) (m : Nat), m < 2 ^ us.length → pc m + (left us m).length = us.length
 | [], m, h => by
  simp at h
  subst h
  simp [pc, left]
 | u :: us, m, h => by
  have h2 : m / 2 < 2 ^ us.length := by
   rw [List.length_cons, Nat.pow_succ] at h
   omega
  have ih := pc_left us (m / 2) h2
  rw [left_consU, pc_eq, List.length_append, List.length_cons]
  by_cases hb : m.testBit 0 = true
  ·have : m % 2 = 1 := by rw [Nat.testBit_zero] at hb; simpa using hb
   simp [hb]
   omega
  ·have : m % 2 = 0 := by
    rw [Nat.testBit_zero] at hb
    have := Nat.mod_two_eq_zero_or_one m
    simp at hb
    omega
   simp [hb]
   omega
theorem bit_test (m i : Nat) : m.testBit i = decide (m / 2 ^ i % 2 = 1) := Nat.testBit_eq_decide_div_mod_eq
theorem half_ext {a b : Nat} (h1 : a / 2 = b / 2) (h2 : a % 2 = b % 2) : a = b := by omega
theorem add_pow : ∀ (i m : Nat), m.testBit i = false → m + 2 ^ i = m ||| 2 ^ i
 | 0, m, h => by
  have hm : m % 2 = 0 := by
   rw [Nat.testBit_zero] at h
   have := Nat.mod_two_eq_zero_or_one m
   simp at h
   omega
  refine half_ext ?_ ?_
  ·rw [Nat.or_div_two]
   simp
   omega
  ·have : (m ||| 2 ^ 0) % 2 = 1 := by rw [Nat.or_mod_two_eq_one]; right; rfl
   rw [this]
   simp
   omega
 | i + 1, m, h => by
  rw [Nat.testBit_succ] at h
  have ih := add_pow i (m / 2) h
  have e : 2 ^ (i + 1) / 2 = 2 ^ i := by rw [Nat.pow_succ]; omega
  refine half_ext ?_ ?_
  ·rw [Nat.or_div_two, e, ← ih, Nat.pow_succ]
   omega
  ·have e2 : 2 ^ (i + 1) % 2 = 0 := by rw [Nat.pow_succ]; omega
   have : (m ||| 2 ^ (i + 1)) % 2 = m % 2 := by
    have hb : (m ||| 2 ^ (i + 1)).testBit 0 = m.testBit 0 := by rw [Nat.testBit_or, Nat.testBit_two_pow]; simp
    rw [Nat.testBit_zero, Nat.testBit_zero] at hb
    have h1 := Nat.mod_two_eq_zero_or_one m
    have h2 := Nat.mod_two_eq_zero_or_one (m ||| 2 ^ (i + 1))
    rcases h1 with h1 | h1 <;> rcases h2 with h2 | h2 <;> simp [h1, h2] at hb ⊢
   rw [this]
   omega
theorem add_bit {m i : Nat} (h : m.testBit i = false) : m + 2 ^ i = m ||| 1 <<< i := by
 rw [Nat.one_shiftLeft]
 exact add_pow i m h
structure RS where
 time : Int
 last : Nat
 set : Nat
 frm : Int
def stOf (us : List U) (s : RS) : St := match us[s.last]? with
 | some u => (some u.exit, s.time + u.span)
 | none => (none, 0)
structure RSOK (d : Dist) (us : List U) (s : RS) : Prop where
 last : s.last < us.length
 bits : s.set < 2 ^ us.length
 way : Way d us s.set (stOf us s) (pc s.set)
 t0 : 0 ≤ s.time
 t1 : s.time ≤ 1000000
 f1 : -1 ≤ s.frm
structure DP (d : Dist) (us : List U) (r b : Nat) (L : List RS) : Prop where
 each : ∀ s ∈ L, RSOK d us s
 key : L.Pairwise fun a c => ¬ (a.set = c.set ∧ a.last = c.last)
 lo : ∀ (i : Nat) s, L[i]? = some s → i < b → pc s.set ≤ r
 hi : ∀ (i : Nat) s, L[i]? = some s → b ≤ i → pc s.set = r + 1
 back : ∀ (i : Nat) s, L[i]? = some s → s.frm < i
def Lat (b : Nat) (L L' : List RS) : Prop := b ≤ L.length ∧ L'.take b = L.take b ∧ ∀ s ∈ L, ∃ s' ∈ L', s'.set = s.set ∧ s'.last = s.last ∧ s'.time ≤ s.time
theorem Lat.refl {b : Nat} {L : List RS} (h : b ≤ L.length) : Lat b L L := ⟨h, rfl, fun s hs => ⟨s, hs, rfl, rfl, Int.le_refl _⟩⟩
theorem Lat.trans {b : Nat} {L L' L'' : List RS} (h : Lat b L L') (h' : Lat b L' L'') : Lat b L L'' := by
 refine ⟨h.1, h'.2.1.trans h.2.1, fun s hs => ?_⟩
 obtain ⟨s', h1, h2, h3, h4⟩ := h.2.2 s hs
 obtain ⟨s'', k1, k2, k3, k4⟩ := h'.2.2 s' h1
 exact ⟨s'', k1, k2.trans h2, k3.trans h3, Int.le_trans k4 h4⟩
def Has (L : List RS) (set last : Nat) (t : Int) : Prop := ∃ s ∈ L, s.set = set ∧ s.last = last ∧ s.time ≤ t
theorem Has.lat {b : Nat} {L L' : List RS} {set last : Nat} {t : Int} (h : Has L set last t) (hl : Lat b L L') : Has L' set last t := by
 obtain ⟨s, h1, h2, h3, h4⟩ := h
 obtain ⟨s', k1, k2, k3, k4⟩ := hl.2.2 s h1
 exact ⟨s', k1, k2.trans h2, k3.trans h3, Int.le_trans k4 h4⟩
theorem DP.app {us : List U} {r b : Nat} {L : List RS} (h : DP d us r b L) {n : RS} (hn : RSOK d us n) (hr : pc n.set = r + 1) (hf : n.frm < b) (hb : b ≤ L.length) (hno : ∀ (i : Nat) s, L[i]? = some s → b ≤ i → ¬ (s.set = n.set ∧ s.last = n.last)) : DP d us r b (L ++ [n]) ∧ Lat b L (L ++ [n]) := by
 have hat : ∀ (i : Nat) s, (L ++ [n])[i]? = some s → L[i]? = some s ∨ (i = L.length ∧ s = n) := fun i s hs => by
  rcases Nat.lt_trichotomy i L.length with hi | hi | hi
  ·rw [List.getElem?_append_left hi] at hs; exact .inl hs
  ·subst hi; simp at hs; exact .inr ⟨rfl, hs.symm⟩
  ·rw [List.getElem?_eq_none (by simp; omega)] at hs; cases hs
 refine ⟨⟨fun s hs => ?_, ?_, fun i s hs hi => ?_, fun i s hs hi => ?_, fun i s hs => ?_⟩, hb, by rw [List.take_append_of_le_length hb], fun s hs => ⟨s, List.mem_append_left _ hs, rfl, rfl, Int.le_refl _⟩⟩
 ·rcases List.mem_append.1 hs with hs | hs
  ·exact h.each s hs
  ·rw [List.mem_singleton] at hs; subst hs; exact hn
 ·refine List.pairwise_append.2 ⟨h.key, List.pairwise_singleton _ _, fun a ha c hc => ?_⟩
  rw [List.mem_singleton] at hc
  subst hc
  obtain ⟨i, hi⟩ := List.mem_iff_getElem?.1 ha
  by_cases hib : i < b
  ·rintro ⟨e, _⟩
   have := h.lo i a hi hib
   rw [e] at this
   omega
  ·exact hno i a hi (by omega)
 ·rcases hat i s hs with hs | ⟨rfl, rfl⟩
  ·exact h.lo i s hs hi
  ·omega
 ·rcases hat i s hs with hs | ⟨rfl, rfl⟩
  ·exact h.hi i s hs hi
  ·exact hr
 ·rcases hat i s hs with hs | ⟨rfl, rfl⟩
  ·exact h.back i s hs
  ·omega
theorem DP.set {us : List U} {r b : Nat} {L : List RS} (h : DP d us r b L) {n o : RS} {k : Nat} (hk : L[k]? = some o) (hkb : b ≤ k) (hn : RSOK d us n) (hf : n.frm < b) (hb : b ≤ L.length) (h1 : o.set = n.set) (h2 : o.last = n.last) (ht : n.time ≤ o.time) : DP d us r b (L.set k n) ∧ Lat b L (L.set k n) := by
 have hkl := (List.getElem?_eq_some_iff.1 hk).1
 have hke := (List.getElem?_eq_some_iff.1 hk).2
 have hat : ∀ (i : Nat) s, (L.set k n)[i]? = some s → (i ≠ k ∧ L[i]? = some s) ∨ (i = k ∧ s = n) := fun i s hs => by
  by_cases hik : k = i
  ·subst hik
   rw [List.getElem?_set_self hkl] at hs
   exact .inr ⟨rfl, by cases hs; rfl⟩
  ·rw [List.getElem?_set_ne hik] at hs
   exact .inl ⟨fun e => hik e.symm, hs⟩
 have hpc := h.hi k o hk hkb
 refine ⟨⟨fun s hs => ?_, ?_, fun i s hs hi => ?_, fun i s hs hi => ?_, fun i s hs => ?_⟩, hb, ?_, fun s hs => ?_⟩
 ·rcases List.mem_or_eq_of_mem_set hs with hs | hs
  ·exact h.each s hs
  ·subst hs; exact hn
 ·rw [List.pairwise_iff_getElem]
  intro i j hi hj hij
  have hi' := List.getElem?_eq_getElem hi
  have hj' := List.getElem?_eq_getElem hj
  have key : ∀ x y, L[i]? = some x → L[j]? = some y → ¬ (x.set = y.set ∧ x.last = y.last) := fun x y hx hy => by
   obtain ⟨hx1, hx2⟩ := List.getElem?_eq_some_iff.1 hx
   obtain ⟨hy1, hy2⟩ := List.getElem?_eq_some_iff.1 hy
   have := List.pairwise_iff_getElem.1 h.key i j hx1 hy1 hij
   rw [hx2, hy2] at this
   exact this
  rcases hat i _ hi' with ⟨_, hx⟩ | ⟨rfl, hx⟩ <;> rcases hat j _ hj' with ⟨_, hy⟩ | ⟨rfl, hy⟩
  ·exact key _ _ hx hy
  ·rw [hy, ← h1, ← h2]; exact key _ _ hx hk
  ·rw [hx, ← h1, ← h2]; exact key _ _ hk hy
  ·omega
 ·rcases hat i s hs with ⟨_, hs⟩ | ⟨rfl, rfl⟩
  ·exact h.lo i s hs hi
  ·omega
 ·rcases hat i s hs with ⟨_, hs⟩ | ⟨rfl, rfl⟩
  ·exact h.hi i s hs hi
  ·rw [← h1]; exact hpc
 ·rcases hat i s hs with ⟨_, hs⟩ | ⟨rfl, rfl⟩
  ·exact h.back i s hs
  ·omega
 ·exact List.take_set_of_le hkb
 ·obtain ⟨i, hi⟩ := List.mem_iff_getElem?.1 hs
  by_cases hik : k = i
  ·subst hik
   rw [hk] at hi
   cases hi
   exact ⟨n, List.mem_iff_getElem?.2 ⟨k, List.getElem?_set_self hkl⟩, h1.symm, h2.symm, ht⟩
  ·exact ⟨s, List.mem_iff_getElem?.2 ⟨i, by rw [List.getElem?_set_ne hik]; exact hi⟩, rfl, rfl, Int.le_refl _⟩
theorem stOf_eq {us : List U} {s : RS} {u : U} (h : us[s.last]? = some u) : stOf us s = (some u.exit, s.time + u.span) := by
 unfold stOf
 rw [h]
theorem pc_or {us : List U} {m i : Nat} (hi : i < us.length) (hm : m < 2 ^ us.length) (h : m.testBit i = false) : pc (m ||| 1 <<< i) = pc m + 1 ∧ m ||| 1 <<< i < 2 ^ us.length := by
 have h1 := pc_left us m hm
 have hlt : m ||| 1 <<< i < 2 ^ us.length := Nat.or_lt_two_pow hm (by rw [Nat.one_shiftLeft]; exact Nat.pow_lt_pow_right (by decide) hi)
 have h2 := pc_left us _ hlt
 have h3 := (left_cons (m := m) h (List.getElem?_eq_getElem hi)).length_eq
 rw [List.length_cons] at h3
 exact ⟨by omega, hlt⟩
theorem RSOK.next {us : List U} (hw : ∀ u ∈ us, 0 ≤ u.low ∧ u.low ≤ u.high ∧ u.high ≤ 1000000) {s : RS} (h : RSOK d us s) {i : Nat} {u : U} (hu : us[i]? = some u) (hb : s.set.testBit i = false) (hc : CanB d (stOf us s) u) {k : Int} (hk : -1 ≤ k) :
  RSOK d us ⟨beg d (stOf us s) u, i, s.set ||| 1 <<< i, k⟩ ∧ pc (s.set ||| 1 <<< i) = pc s.set + 1 ∧ stOf us ⟨beg d (stOf us s) u, i, s.set ||| 1 <<< i, k⟩ = nxt d (stOf us s) u := by
 have hi := (List.getElem?_eq_some_iff.1 hu).1
 obtain ⟨q1, q2⟩ := pc_or hi h.bits hb
 have e : stOf us ⟨beg d (stOf us s) u, i, s.set ||| 1 <<< i, k⟩ = nxt d (stOf us s) u := stOf_eq hu
 obtain ⟨w1, w2, w3⟩ := hw u (List.mem_of_getElem? hu)
 have hb1 : beg d (stOf us s) u ≤ u.high := by unfold beg; have := hc.2; omega
 have hb0 : u.low ≤ beg d (stOf us s) u := by unfold beg; omega
 refine ⟨⟨hi, q2, ?_, by show 0 ≤ beg d (stOf us s) u; omega, by show beg d (stOf us s) u ≤ 1000000; omega, hk⟩, q1, e⟩
 rw [e]
 show Way d us (s.set ||| 1 <<< i) (nxt d (stOf us s) u) (pc (s.set ||| 1 <<< i))
 rw [q1]
 exact h.way.step hu hb hc
def OpenP (d : Dist) (us : List U) (set : Nat) (s : St) : Prop := ∀ (j : Nat) v, us[j]? = some v → set.testBit j = false → CanB d s v
def GoodR (d : Dist) (us : List U) (r : Nat) (L : List RS) : Prop := ∃ s ∈ L, pc s.set = r ∧ Feas d (stOf us s) (left us s.set)
theorem has_good {us : List U} (hu : ∀ u ∈ us, UOK d u) {L : List RS} {set i : Nat} {u : U} {t : Int} (hui : us[i]? = some u) (h : Has L set i t) (hf : Feas d (some u.exit, t + u.span) (left us set)) : GoodR d us (pc set) L := by
 obtain ⟨s, h1, h2, h3, h4⟩ := h
 refine ⟨s, h1, by rw [h2], ?_⟩
 rw [h2, stOf_eq (by rw [h3]; exact hui)]
 exact hf.better (better_time (by omega)) (fun x hx => by obtain ⟨j, _, hj⟩ := mem_left.1 hx; exact hu x (List.mem_of_getElem? hj))
theorem feas_next (hd : WfD d) {us : List U} (hu : ∀ u ∈ us, UOK d u) {s : St} (hs : SOK d s) {m : Nat} (h : Feas d s (left us m)) (hne : left us m ≠ []) :
  ∃ (i : Nat) (u : U), us[i]? = some u ∧ m.testBit i = false ∧ CanB d s u ∧ OpenP d us (m ||| 1 <<< i) (nxt d s u) ∧ Feas d (nxt d s u) (left us (m ||| 1 <<< i)) := by
 obtain ⟨l, hp, hr⟩ := h
 cases l with
 | nil => exact absurd hp.symm.eq_nil hne
 | cons u l =>
  obtain ⟨i, hm, hi⟩ := mem_left.1 (hp.mem_iff.1 (List.mem_cons_self ..))
  have hpl : l.Perm (left us (m ||| 1 <<< i)) := List.Perm.cons_inv (hp.trans (left_cons hm hi))
  have hF : Feas d (nxt d s u) (left us (m ||| 1 <<< i)) := ⟨l, hpl, hr.2⟩
  exact ⟨i, u, hi, hm, hr.1, fun j v hv hb => feas_all hd hu (sok_nxt (hu u (List.mem_of_getElem? hi))) hF hb hv, hF⟩
theorem full_iff {us : List U} {m : Nat} (hm : m < 2 ^ us.length) : left us m = [] ↔ m = 2 ^ us.length - 1 := by
 constructor
 ·intro h
  apply Nat.eq_of_testBit_eq
  intro i
  rw [Nat.testBit_two_pow_sub_one]
  by_cases hi : i < us.length
  ·simp only [hi, decide_true]
   cases hb : m.testBit i with
   | true => rfl
   | false =>
    have : us[i] ∈ left us m := mem_left.2 ⟨i, hb, List.getElem?_eq_getElem hi⟩
    rw [h] at this
    cases this
  ·simp only [hi, decide_false]
   exact Nat.testBit_lt_two_pow (Nat.lt_of_lt_of_le hm (Nat.pow_le_pow_right (by decide) (by omega)))
 ·intro h
  apply List.eq_nil_iff_forall_not_mem.2
  intro u hu
  obtain ⟨i, hb, hi⟩ := mem_left.1 hu
  rw [h, Nat.testBit_two_pow_sub_one] at hb
  have := (List.getElem?_eq_some_iff.1 hi).1
  simp at hb
  omega
theorem full_feas {us : List U} {L : List RS} (hL : ∀ s ∈ L, RSOK d us s) : (∃ s ∈ L, s.set = 2 ^ us.length - 1) → Feas d (none, 0) us := by
 rintro ⟨s, hs, he⟩
 have h := hL s hs
 have h0 := (full_iff h.bits).2 he
 have h1 := pc_left us s.set h.bits
 rw [h0] at h1
 have hw := h.way
 have : pc s.set = us.length := by simpa using h1
 rw [this] at hw
 exact hw.feas
theorem good_full {us : List U} {L : List RS} (hL : ∀ s ∈ L, RSOK d us s) (h : GoodR d us us.length L) : ∃ s ∈ L, s.set = 2 ^ us.length - 1 := by
 obtain ⟨s, hs, hp, _⟩ := h
 have h1 := pc_left us s.set (hL s hs).bits
 refine ⟨s, hs, (full_iff (hL s hs).bits).1 (List.eq_nil_of_length_eq_zero (by omega))⟩
theorem DP.few {us : List U} {r b : Nat} {L : List RS} (h : DP d us r b L) (hu : us.length ≤ 16) : L.length ≤ 1048576 := by
 have h1 : (L.map fun s => s.set * 16 + s.last).Nodup := by
  rw [List.nodup_iff_pairwise_ne, List.pairwise_map]
  refine List.Pairwise.imp_of_mem ?_ h.key
  intro a c ha hc hk e
  have h1 := (h.each a ha).last
  have h2 := (h.each c hc).last
  apply hk
  omega
 have h2 := few_of_lt 1048576 _ h1 (fun x hx => by
  obtain ⟨s, hs, rfl⟩ := List.mem_map.1 hx
  have h1 := (h.each s hs).last
  have h2 := (h.each s hs).bits
  have h3 : 2 ^ us.length ≤ 2 ^ 16 := Nat.pow_le_pow_right (by decide) hu
  have h4 : (2 : Nat) ^ 16 = 65536 := by decide
  omega)
 simpa using h2
theorem DP.round {us : List U} {r b : Nat} {L : List RS} (h : DP d us r b L) : DP d us (r + 1) L.length L := by
 refine ⟨h.each, h.key, fun i s hs hi => ?_, fun i s hs hi => ?_, h.back⟩
 ·by_cases hb : i < b
  ·have := h.lo i s hs hb; omega
  ·exact Nat.le_of_eq (h.hi i s hs (by omega))
 ·have := (List.getElem?_eq_some_iff.1 hs).1
  omega
def start1 (us : List U) (i : Nat) : RS := ⟨((us[i]?).map (·.low)).getD 0, i, 1 <<< i, -1⟩
def startL (us : List U) (k : Nat) : List RS := (List.range k).map (start1 us)
theorem startL_succ (us : List U) (k : Nat) : startL us (k + 1) = startL us k ++ [start1 us k] := by simp [startL, List.range_succ]
theorem startL_len (us : List U) (k : Nat) : (startL us k).length = k := by simp [startL]
theorem start_can {u : U} (h0 : 0 ≤ u.low) (h1 : u.low ≤ u.high) : CanB d (none, 0) u ∧ beg d (none, 0) u = u.low := by
 refine ⟨⟨by show (0 : Int) ≠ -1; decide, by show (0 : Int) + 0 ≤ u.high; omega⟩, ?_⟩
 show max u.low (0 + 0) = u.low
 omega
theorem start_ok {us : List U} (hw : ∀ u ∈ us, 0 ≤ u.low ∧ u.low ≤ u.high ∧ u.high ≤ 1000000) {i : Nat} {u : U} (hu : us[i]? = some u) : RSOK d us (start1 us i) ∧ pc (start1 us i).set = 1 ∧ stOf us (start1 us i) = nxt d (none, 0) u := by
 obtain ⟨w1, w2, w3⟩ := hw u (List.mem_of_getElem? hu)
 obtain ⟨c1, c2⟩ := start_can (d := d) w1 w2
 have hi := (List.getElem?_eq_some_iff.1 hu).1
 have hz : (0 : Nat) < 2 ^ us.length := Nat.two_pow_pos _
 obtain ⟨q1, q2⟩ := pc_or hi hz (m := 0) (by simp)
 have e0 : (0 : Nat) ||| 1 <<< i = 1 <<< i := by simp
 rw [e0] at q1 q2
 have hlow : (start1 us i).time = u.low := by simp [start1, hu]
 have e : stOf us (start1 us i) = nxt d (none, 0) u := by
  rw [stOf_eq (u := u) (by exact hu), hlow]
  unfold nxt
  rw [c2]
 have q1' : pc (1 <<< i) = 1 := by rw [q1]; simp [pc]
 refine ⟨⟨hi, q2, ?_, by rw [hlow]; exact w1, by rw [hlow]; omega, by show (-1 : Int) ≤ -1; decide⟩, q1', e⟩
 rw [e]
 have := (Way.zero (d := d) us).step hu (by simp) c1
 rw [e0] at this
 show Way d us (1 <<< i) (nxt d (none, 0) u) (pc (1 <<< i))
 rw [q1']
 exact this
theorem start_get {us : List U} {k i : Nat} {s : RS} (h : (startL us k)[i]? = some s) : i < k ∧ s = start1 us i := by
 unfold startL at h
 rw [List.getElem?_map] at h
 obtain ⟨j, hj, rfl⟩ := Option.map_eq_some_iff.1 h
 rw [List.getElem?_eq_some_iff] at hj
 obtain ⟨h1, h2⟩ := hj
 simp at h1 h2
 subst h2
 exact ⟨h1, rfl⟩
theorem start_dp {us : List U} (hw : ∀ u ∈ us, 0 ≤ u.low ∧ u.low ≤ u.high ∧ u.high ≤ 1000000) : DP d us 0 0 (startL us us.length) := by
 have hat : ∀ (i : Nat) s, (startL us us.length)[i]? = some s → RSOK d us s ∧ pc s.set = 1 ∧ s.frm = -1 ∧ s.last = i := fun i s hs => by
  obtain ⟨h1, rfl⟩ := start_get hs
  obtain ⟨q1, q2, _⟩ := start_ok (d := d) hw (List.getElem?_eq_getElem h1)
  exact ⟨q1, q2, rfl, rfl⟩
 refine ⟨fun s hs => ?_, ?_, fun i s hs hi => by omega, fun i s hs _ => (hat i s hs).2.1, fun i s hs => ?_⟩
 ·obtain ⟨i, hi⟩ := List.mem_iff_getElem?.1 hs
  exact (hat i s hi).1
 ·rw [List.pairwise_iff_getElem]
  intro i j hi hj hij e
  have h1 := (hat i _ (List.getElem?_eq_getElem hi)).2.2.2
  have h2 := (hat j _ (List.getElem?_eq_getElem hj)).2.2.2
  omega
 ·rw [(hat i s hs).2.2.1]
  omega
theorem start_good (hd : WfD d) {us : List U} (hu : ∀ u ∈ us, UOK d u) (hw : ∀ u ∈ us, 0 ≤ u.low ∧ u.low ≤ u.high ∧ u.high ≤ 1000000) (hne : us ≠ []) (h : Feas d (none, 0) us) : GoodR d us 1 (startL us us.length) := by
 rw [← left_zero us] at h
 obtain ⟨i, u, h1, h2, h3, h4, h5⟩ := feas_next hd hu (s := (none, 0)) (fun x hx => by cases hx) (m := 0) h (by rw [left_zero]; exact hne)
 obtain ⟨q1, q2, q3⟩ := start_ok (d := d) hw h1
 have e0 : (0 : Nat) ||| 1 <<< i = 1 <<< i := by simp
 rw [e0] at h5
 exact ⟨start1 us i, List.mem_map.2 ⟨i, List.mem_range.2 (List.getElem?_eq_some_iff.1 h1).1, rfl⟩, q2, by rw [q3]; exact h5⟩
end Go.Ord
namespace Go.Proofs.YtnjknkgomhmlfaaGreatDoor
open Go.PF Go.RowKit Go.Ord
def Win (e : Ev) (t : Int) : Prop := 0 ≤ t ∧ t ≤ 1000000 ∧ e.low ≤ t ∧ t ≤ e.high
def Two (d : Dist) (l : List Ev) (ts : List Int) (j i : Nat) : Prop := ∀ a s b t, l[j]? = some a → ts[j]? = some s → l[i]? = some b → ts[i]? = some t → Aft d (a, s) (b, t) ∨ Aft d (b, t) (a, s)
structure HoldsI (d : Dist) (l : List Ev) (ts : List Int) : Prop where
 wf : WfE d l
 len : ts.length = l.length
 win : ∀ (i : Nat) e t, l[i]? = some e → ts[i]? = some t → Win e t
 two : ∀ j i, j < i → Two d l ts j i
theorem HoldsI.n {d : Dist} {l : List Ev} {ts : List Int} (h : HoldsI d l ts) : HoldsN d (l.zip ts) := by
 refine ⟨fun x hx => ?_, List.pairwise_iff_getElem.2 fun i j hi hj hij => ?_⟩
 ·obtain ⟨i, hi⟩ := List.mem_iff_getElem?.1 hx
  rw [List.getElem?_zip_eq_some] at hi
  exact h.win i _ _ hi.1 hi.2
 ·have hi' := List.getElem?_eq_getElem hi
  have hj' := List.getElem?_eq_getElem hj
  rw [List.getElem?_zip_eq_some] at hi' hj'
  exact h.two i j hij _ _ _ _ hi'.1 hi'.2 hj'.1 hj'.2
theorem Two.symm {d : Dist} {l : List Ev} {ts : List Int} {j i : Nat} (h : Two d l ts j i) : Two d l ts i j := fun a s b t h1 h2 h3 h4 => (h b t a s h3 h4 h1 h2).symm
def AftO (d : Dist) (a : Nat) (x : Int) (b : Nat) (y : Int) : Prop := at2 d a b ≠ -1 ∧ at2 d a b ≤ y - x
end Go.Proofs.YtnjknkgomhmlfaaGreatDoor
namespace Go.Proofs.YtnjknkgomhmlfaaGreatDoor
open Go.PF Go.RowKit Go.Ord
attribute [local irreducible] TW CW KW DW
variable {w : World} {d : Dist} {i n m cap k : Nat} {l : List Ev} {F : Nat → Prop} {ad : Addr} {L : List RS} {e : Ev} {dv : Value} {v : Option Nat}
structure Nd where
 first : Int
 second : Int
 office : Int
 low : Int
 high : Int
 gap : Int
 endo : Int
def Nd.cells (x : Nd) : List Value := [.int .i64 x.first, .int .i64 x.second, .int .i64 x.office, .int .i64 x.low, .int .i64 x.high, .int .i64 x.gap, .int .i64 x.endo]
def Nd.u (x : Nd) : U := ⟨x.low, x.high, x.gap, x.office.toNat, x.endo.toNat⟩
def ndT : Ty Nd where
 n := 7
 rep := fun _ _ cs x => cs = x.cells
 len := fun _ _ _ _ h => by rw [h]; rfl
 mono := fun _ _ _ _ _ _ h => h
 wider := fun _ _ _ _ _ _ h => h
def rsCells (s : RS) : List Value := [.int .i64 s.time, .int .i64 (s.last : Int), .int .i64 (s.set : Int), .int .i64 s.frm]
def rsT : Ty RS where
 n := 4
 rep := fun _ _ cs x => cs = rsCells x
 len := fun _ _ _ _ h => by rw [h]; rfl
 mono := fun _ _ _ _ _ _ h => h
 wider := fun _ _ _ _ _ _ h => h
structure NdOK (d : Dist) (m : Nat) (x : Nd) : Prop where
 o0 : 0 ≤ x.office
 e0 : 0 ≤ x.endo
 g0 : 0 ≤ x.gap
 g1 : x.gap ≤ 1000000
 w0 : 0 ≤ x.low
 w1 : x.low ≤ x.high
 w2 : x.high ≤ 1000000
 uok : UOK d x.u
 f0 : 0 ≤ x.first
 f1 : x.first < m
 s1 : x.second < m
theorem NdOK.o1 {x : Nd} (h : NdOK d m x) : x.office.toNat < d.length := h.uok.e1
theorem NdOK.e1 {x : Nd} (h : NdOK d m x) : x.endo.toNat < d.length := h.uok.e2
abbrev usOf (ns : List Nd) : List U := ns.map Nd.u
theorem us_get {ns : List Nd} {x : Nd} (h : ns[i]? = some x) : (usOf ns)[i]? = some x.u := by simp [usOf, h]
theorem us_ok {ns : List Nd} (h : ∀ x ∈ ns, NdOK d m x) : ∀ u ∈ usOf ns, UOK d u := fun u hu => by
 obtain ⟨x, hx, rfl⟩ := List.mem_map.1 hu
 exact (h x hx).uok
theorem us_win {ns : List Nd} (h : ∀ x ∈ ns, NdOK d m x) : ∀ u ∈ usOf ns, 0 ≤ u.low ∧ u.low ≤ u.high ∧ u.high ≤ 1000000 := fun u hu => by
 obtain ⟨x, hx, rfl⟩ := List.mem_map.1 hu
 exact ⟨(h x hx).w0, (h x hx).w1, (h x hx).w2⟩
theorem SL.getC {α : Type} {T : Ty α} (f : α → List Value) (hf : ∀ F w cs x, T.rep F w cs x → cs = f x) {l : List α} (h : SL T F w (.slice (some ad) n cap) l) {x : α} (hx : l[i]? = some x) :
  ∀ (j : Nat) v, (f x)[j]? = some v → w.cell? ((ad.add ((i : Int).toNat * T.n)).add j) = some v := fun j v hj => by
 obtain ⟨ad', cs, h1, _, hr, hc⟩ := h.at hx
 cases h1
 rw [hf _ _ _ _ hr] at hc
 rw [show (i : Int).toNat = i by omega]
 exact hc j v hj
theorem nd_get {l : List Nd} (h : SL ndT F w (.slice (some ad) n cap) l) {x : Nd} (hx : l[i]? = some x) :
  ∀ (j : Nat) v, x.cells[j]? = some v → w.cell? ((ad.add ((i : Int).toNat * 7)).add j) = some v := SL.getC Nd.cells (fun _ _ _ _ h => h) h hx
theorem dist_get (h : SL (sliceT intT) F w (.slice (some ad) n cap) d) (hw : WfD d) {a b : Nat} (ha : a < d.length) (hb : b < d.length) :
  ∃ rd rc, w.cell? (ad.add ((a : Int).toNat * 1)) = some (.slice (some rd) d.length rc) ∧ w.cell? (rd.add ((b : Int).toNat * 1)) = some (.int .i64 (at2 d a b)) := by
 obtain ⟨r, hr⟩ : ∃ r, d[a]? = some r := ⟨d[a], List.getElem?_eq_getElem ha⟩
 have hrl := hw.row _ _ hr
 obtain ⟨z, hz⟩ : ∃ z, r[b]? = some z := ⟨r[b]'(by omega), List.getElem?_eq_getElem (by omega)⟩
 obtain ⟨rv, hcell, hrow⟩ := h.row hr
 obtain ⟨R, rcap, rfl, _⟩ := hrow.form
 obtain ⟨rd, rfl⟩ := hrow.addr (by omega)
 exact ⟨rd, rcap, by rw [← hrl]; exact hcell, by rw [at2_eq hr hz]; exact hrow.getI hz⟩
theorem natdiv (s p : Nat) : (s : Int) / (p : Int) % 2 = ((s / p % 2 : Nat) : Int) := by norm_cast
theorem pow_le16 (h : i ≤ 16) : (2 : Nat) ^ i ≤ 65536 := Nat.pow_le_pow_right (by decide) h
theorem rbit_c (hi : i ≤ 16) : Gives Tryz.prog 120 #[.int .i64 (i : Int)] w fun u w' => Below w.heap.size w w' ∧ u = .int .i64 ((2 ^ i : Nat) : Int) := by
 have e : i % ((2 : Int) ^ IntKind.u64.bits).natAbs = i := Nat.mod_eq_of_lt (Nat.lt_of_le_of_lt hi (by decide))
 refine gv (f := 120) ?_
 refine CW.seq (CW.region ?_)
 refine TW.v V.assign rfl ⟨ct, trivial⟩ (fun _ => trivial) ?_
 refine TW.nil (KW.pick [0, 2] [(0, _, _), (2, _, _)] rfl (KW.then_ ?_))
 refine CW.seq (CW.region ?_)
 refine TW.v V.move rfl ⟨ct, trivial⟩ (fun _ => trivial) ?_
 refine TW.v (V.conv rfl) rfl ⟨ct, trivial⟩ (fun _ => trivial) ?_
 refine TW.v V.shl64 rfl ⟨ct, ct, trivial⟩ (fun _ => by rw [e]; omega) ?_
 refine rnT ?_
 refine rt1 rfl ⟨Below.refl _ _, by rw [e]⟩
theorem pc_le : ∀ (n : Nat), pc n ≤ n := by
 intro n
 induction n using Nat.strongRecOn with
 | _ n ih =>
  rw [pc_eq]
  by_cases h : n = 0
  ·subst h; simp [pc]
  ·have := ih (n / 2) (by omega)
   omega
theorem rcount_c {s : Nat} (hs : s ≤ 1000000000) : Gives Tryz.prog 155 #[.int .i64 (s : Int)] w fun u w' => Below w.heap.size w w' ∧ u = .int .i64 (pc s : Int) := by
 have hps := pc_le s
 refine gv (f := 155) ?_
 refine rnT ?_
 refine CW.lp [] (fun x : Nat × Nat => [(0, none, .int .i64 (x.1 : Int)), (3, none, .int .i64 (x.2 : Int))])
  (fun x W => x.1 ≤ s ∧ x.2 + pc x.1 = pc s ∧ Below w.heap.size w W) (fun x => x.1) (s, 0) ⟨Nat.le_refl _, by simp, Below.refl _ _⟩ ?_
 rintro ⟨c, a⟩ W ⟨hc, hp, hB⟩
 dsimp only at hc hp
 have hpe := pc_eq c
 refine rnT ?_
 refine CW.condP rfl (fun hlt => ?_) (fun hge => ?_)
 ·refine CW.skip (KW.then_ (CW.block (CW.seq (CW.region ?_))))
  refine TW.v V.move rfl ⟨ct, trivial⟩ (fun _ => trivial) ?_
  refine TW.v V.move rfl ⟨ct, trivial⟩ (fun _ => trivial) ?_
  refine TW.v V.rem rfl ⟨ct, ct, trivial⟩ (fun _ => by omega) ?_
  refine TW.v V.add rfl ⟨ct, ct, trivial⟩ (fun _ => by omega) ?_
  refine TW.v V.assign rfl ⟨ct, trivial⟩ (fun _ => trivial) ?_
  refine TW.nil (KW.pick [0, 3] [(0, _, _), (3, _, _)] rfl (KW.then_ ?_))
  refine CW.region ?_
  refine TW.v V.move rfl ⟨ct, trivial⟩ (fun _ => trivial) ?_
  refine TW.v V.quo rfl ⟨ct, ct, trivial⟩ (fun _ => by omega) ?_
  refine rnT ?_
  refine KW.rd (c / 2, a + c % 2) ⟨by show c / 2 ≤ s; omega, by show a + c % 2 + pc (c / 2) = pc s; omega, hB⟩ (hp := ?_)
  have e1 : ((c / 2 : Nat) : Int) = (c : Int) / 2 := by omega
  have e2 : ((a + c % 2 : Nat) : Int) = (a : Int) + (c : Int) % 2 := by omega
  rw [e1, e2]
  rfl
 ·have : c = 0 := by omega
  subst this
  refine rnT ?_
  refine rt1 rfl ⟨hB, ?_⟩
  have : a = pc s := by simpa [pc] using hp
  rw [this]
theorem ropen_c {nv : Value} {ns : List Nd} {G : Nat → Prop} {set : Nat} {t : Int} {x : Nd} (hd : SL (sliceT intT) F w dv d) (hw : WfD d) (hn : SL ndT G w nv ns) (hok : ∀ x ∈ ns, NdOK d m x) (h16 : ns.length ≤ 16) (hi : ns[i]? = some x) (hs : set ≤ 1000000000) (ht : 0 ≤ t ∧ t ≤ 1000000) :
  Gives Tryz.prog 156 #[dv, nv, .int .i64 (set : Int), .int .i64 (i : Int), .int .i64 t] w fun u w' => Below w.heap.size w w' ∧ u = .bool (dec (OpenP d (usOf ns) set (some x.endo.toNat, t + x.gap))) := by
 obtain ⟨A, cap, rfl, _⟩ := hd.form
 obtain ⟨B, bcap, rfl, _⟩ := hn.form
 have hil := (List.getElem?_eq_some_iff.1 hi).1
 have hx := hok x (List.mem_of_getElem? hi)
 obtain ⟨nd, rfl⟩ := hn.addr (by omega)
 obtain ⟨ad, rfl⟩ := hd.addr (by have := hx.o1; omega)
 obtain ⟨xo, hxo⟩ : ∃ o : Nat, x.endo = o := ⟨x.endo.toNat, by have := hx.e0; omega⟩
 have hxo' : x.endo.toNat = xo := by omega
 have hxl : xo < d.length := by have := hx.e1; omega
 have hg0 := hx.g0
 have hg1 := hx.g1
 refine gv (f := 156) ?_
 refine rnT ?_
 refine CW.lp [0, 1, 2, 3, 4] (fun j : Nat => [(11, none, .int .i64 (j : Int))])
  (fun j W => j ≤ ns.length ∧ Below w.heap.size w W ∧ ∀ (k : Nat) v, k < j → (usOf ns)[k]? = some v → set.testBit k = false → CanB d (some x.endo.toNat, t + x.gap) v) (fun j => ns.length - j) 0 ⟨Nat.zero_le _, Below.refl _ _, fun k v hk => by omega⟩ ?_
 rintro j W ⟨hj, hB, hall⟩
 have hdW := hd.below hB
 have hnW := hn.below hB
 refine rnT ?_
 refine CW.condP rfl (fun hlt => ?_) (fun hge => ?_)
 ·obtain ⟨y, hy, hym⟩ := getx (l := ns) (k := j) (by omega)
  have hyo := hok y hym
  obtain ⟨yo, hyo1⟩ : ∃ o : Nat, y.office = o := ⟨y.office.toNat, by have := hyo.o0; omega⟩
  have hyl : yo < d.length := by have := hyo.o1; omega
  obtain ⟨rd, rc, hr1, hr2⟩ := dist_get hdW hw hxl hyl
  have hrng := hw.rng xo yo hxl hyl
  have hxc := nd_get hnW hi
  have hyc := nd_get hnW hy
  have h6 : W.cell? ((nd.add ((i : Int).toNat * 7)).add 6) = some (.int .i64 (xo : Int)) := by rw [← hxo]; exact hxc 6 _ rfl
  have h2 : W.cell? ((nd.add ((j : Int).toNat * 7)).add 2) = some (.int .i64 (yo : Int)) := by rw [← hyo1]; exact hyc 2 _ rfl
  have hp := Nat.two_pow_pos j
  have hw2 := hyo.w2
  refine rnT ?_
  refine CW.draw mixed (by kernel_rfl) ?_
  refine rnD ?_
  refine DW.ld rfl h6 ?_
  refine rnD ?_
  refine DW.ld rfl hr1 ?_
  refine rnD ?_
  refine DW.ld rfl h2 ?_
  refine rnD ?_
  refine DW.ld rfl hr2 ?_
  refine rnD ?_
  refine DW.fi [0, 1, 2, 3, 4, 11, 12] rfl fun w1 b1 => ?_
  refine rnT ?_
  refine CW.draw mixed (by kernel_rfl) ?_
  refine rnD ?_
  have hnW1 := hnW.below b1
  have hxc1 := nd_get hnW1 hi
  have hyc1 := nd_get hnW1 hy
  refine DW.cl (.ex (.int .i64 ((2 ^ j : Nat) : Int))) trivial rfl (fun _ w' hb' => (rbit_c (i := j) (by omega)).mono fun u w'' ⟨h1, h2⟩ => ⟨h1, h2⟩) ?_
  refine DW.v V.quo rfl ⟨ct, ct, trivial⟩ (fun _ => by omega) ?_
  refine DW.v V.rem rfl ⟨ct, ct, trivial⟩ (fun _ => ⟨Int.ediv_nonneg (by omega) (by omega), by omega, by omega⟩) ?_
  refine rnD ?_
  refine DW.ld rfl (hxc1 5 _ rfl) ?_
  refine DW.v V.add rfl ⟨id, id, trivial⟩ (fun _ => by omega) ?_
  refine DW.v V.move rfl ⟨ct, trivial⟩ (fun _ => trivial) ?_
  refine DW.v V.add rfl ⟨id, id, trivial⟩ (fun _ => by omega) ?_
  refine rnD ?_
  refine DW.ld rfl (hyc1 4 _ rfl) ?_
  refine rnD ?_
  refine DW.fi [0, 1, 2, 3, 4, 11, 12, 60] rfl fun w2 b2 => ?_
  refine KW.then_ ?_
  have hB2 := hB.step (b1.step b2)
  rw [natdiv]
  have hbt := bit_test set j
  have hcan : CanB d (some x.endo.toNat, t + x.gap) y.u ↔ at2 d xo yo ≠ -1 ∧ t + x.gap + at2 d xo yo ≤ y.high := by
   unfold CanB
   show at2 d x.endo.toNat y.office.toNat ≠ -1 ∧ t + x.gap + at2 d x.endo.toNat y.office.toNat ≤ y.high ↔ _
   rw [hxo', show y.office.toNat = yo by omega]
  refine CW.cond rfl (fun hbad => ?_) (fun hgood => ?_)
  ·refine rnT ?_
   refine rt1 rfl ⟨hB2, ?_⟩
   rw [dec_neg]
   intro h
   by_cases hb : set.testBit j = true
   ·rw [hb] at hbt
    have : set / 2 ^ j % 2 = 1 := by simpa using hbt.symm
    rw [this] at hbad
    simp at hbad
   ·have hb' : set.testBit j = false := by simpa using hb
    have := hcan.1 (h j y.u (us_get hy) hb')
    simp at hbad
    omega
  ·refine rnT ?_
   refine KW.rd (j + 1) ⟨by omega, hB2, fun k v hk hv hb => ?_⟩
   by_cases hkj : k < j
   ·exact hall k v hkj hv hb
   ·have : k = j := by omega
    subst this
    rw [us_get hy] at hv
    cases hv
    rw [hb] at hbt
    have h0 : set / 2 ^ k % 2 = 0 := by
     have h1 : ¬ set / 2 ^ k % 2 = 1 := by simpa using hbt.symm
     have := Nat.mod_two_eq_zero_or_one (set / 2 ^ k)
     omega
    rw [h0] at hgood
    rw [hcan]
    simp at hgood
    omega
 ·refine rnT ?_
  refine rt1 rfl ⟨hB, ?_⟩
  rw [dec_pos]
  intro k v hv hb
  exact hall k v (by have := (List.getElem?_eq_some_iff.1 hv).1; simp [usOf] at this; omega) hv hb
abbrev RL (w : World) (v : Value) (L : List RS) : Prop := OwnS w 186 4 v L.length (L.flatMap rsCells)
theorem rs_len (L : List RS) : ∀ x ∈ L, (rsCells x).length = 4 := fun _ _ => rfl
theorem RL.sl {v : Value} (h : RL w v L) (hL : L.length ≤ 9223372036854775807) : SL rsT (fun _ => True) w v L := OwnS.toSL (T := rsT) rsCells (fun _ _ => rfl) h (fun _ _ => trivial) hL
theorem rs_get (h : RL w (.slice (some ad) n cap) L) (hL : L.length ≤ 9223372036854775807) {s : RS} (hs : L[i]? = some s) :
  ∀ (j : Nat) v, (rsCells s)[j]? = some v → w.cell? ((ad.add ((i : Int).toNat * 4)).add j) = some v := SL.getC rsCells (fun _ _ _ _ h => h) (RL.sl h hL) hs
theorem rl_addr {A : Option Addr} (h : RL w (.slice A n cap) L) (hL : 0 < L.length) : ∃ g, A = some ⟨g, 0, none⟩ := by
 obtain ⟨A', cap', hv, _, _, hc⟩ := h.form
 have : 0 < (L.flatMap rsCells).length := by rw [len_flat rsCells 4 L (rs_len L)]; omega
 obtain ⟨g', hA, _⟩ := hc 0 _ (List.getElem?_eq_getElem this)
 simp only [Value.slice.injEq] at hv
 rw [hv.1, hA]
 exact ⟨g', rfl⟩
theorem grown_kept {w' : World} (h : w.grownBy w' v) (hF : ∀ k, F k → v ≠ some k) : Kept F w w' := Kept.of_blocks fun k hk hlt => h.block k hlt (fun e => hF k hk e.symm)
theorem grown_step {w1 w2 : World} (h : w.grownBy w1 v) (hb : Below w1.heap.size w1 w2) : w.grownBy w2 v :=
 ⟨hb.os.trans h.os, hb.tape.trans h.tape, hb.output.trans h.output, Nat.le_trans h.size hb.size, fun k hk hne => (hb.block k (Nat.lt_of_lt_of_le hk h.size)).trans (h.block k hk hne)⟩
theorem grown_more {w1 w2 : World} {u : Option Nat} (h : w.grownBy w1 v) (hb : w1.grownBy w2 u) (hu : ∀ g, u = some g → v = some g ∨ w.heap.size ≤ g) : w.grownBy w2 v :=
 ⟨hb.os.trans h.os, hb.tape.trans h.tape, hb.output.trans h.output, Nat.le_trans h.size hb.size, fun k hk hne => (hb.block k (Nat.lt_of_lt_of_le hk h.size) (fun e => by
  rcases hu k e.symm with h1 | h1
  ·exact hne h1.symm
  ·omega)).trans (h.block k hk hne)⟩
def Done (d : Dist) (us : List U) (s : RS) (L : List RS) (i : Nat) : Prop := ∀ (j : Nat) v, j < i → us[j]? = some v → s.set.testBit j = false → CanB d (stOf us s) v → OpenP d us (s.set ||| 1 <<< j) (nxt d (stOf us s) v) → Has L (s.set ||| 1 <<< j) j (beg d (stOf us s) v)
theorem Done.lat {d : Dist} {us : List U} {s : RS} {L L' : List RS} {i b : Nat} (h : Done d us s L i) (hl : Lat b L L') : Done d us s L' i := fun j v hj hv hb hc ho => (h j v hj hv hb hc ho).lat hl
theorem rext_c {nv lv : Value} {ns : List Nd} {G : Nat → Prop} {r b : Nat} {s : RS} (hd : SL (sliceT intT) F w dv d) (hw : WfD d) (hn : SL ndT G w nv ns) (hok : ∀ x ∈ ns, NdOK d m x) (h16 : ns.length ≤ 16) (hL : RL w lv L) (hF : ∀ q, F q → lv.ownBlock ≠ some q) (hG : ∀ q, G q → lv.ownBlock ≠ some q)
 (hdp : DP d (usOf ns) r b L) (hb : b ≤ L.length) (hk : L[k]? = some s) (hkb : k < b) :
  Gives Tryz.prog 121 #[dv, nv, lv, .int .i64 (k : Int), .int .i64 (r : Int), .int .i64 (b : Int)] w fun u w' => w.grownBy w' lv.ownBlock ∧ (∀ g, u.ownBlock = some g → lv.ownBlock = some g ∨ w.heap.size ≤ g) ∧ ∃ L', RL w' u L' ∧ DP d (usOf ns) r b L' ∧ Lat b L L' ∧ (pc s.set = r → Done d (usOf ns) s L' ns.length) := by
 obtain ⟨A, cap, rfl, _⟩ := hd.form
 obtain ⟨B, bcap, rfl, _⟩ := hn.form
 obtain ⟨C, ccap, rfl, _⟩ := hL.form
 have husl : (usOf ns).length = ns.length := by simp [usOf]
 have hfew := hdp.few (by omega)
 have hkl := (List.getElem?_eq_some_iff.1 hk).1
 have hs := hdp.each s (List.mem_of_getElem? hk)
 obtain ⟨cg, rfl⟩ := rl_addr hL (by omega)
 have hslast : s.last < ns.length := by have := hs.last; omega
 obtain ⟨x, hx, hxm⟩ := getx (l := ns) (k := s.last) hslast
 have hxo := hok x hxm
 have hst : stOf (usOf ns) s = (some x.endo.toNat, s.time + x.gap) := stOf_eq (us_get hx)
 have hset : s.set < 65536 := by have h1 := hs.bits; have h2 := pow_le16 (i := (usOf ns).length) (by omega); omega
 obtain ⟨nd, rfl⟩ := hn.addr (by omega)
 obtain ⟨ad, rfl⟩ := hd.addr (by have := hxo.o1; omega)
 obtain ⟨xo, hxe⟩ : ∃ o : Nat, x.endo = o := ⟨x.endo.toNat, by have := hxo.e0; omega⟩
 have hxe' : x.endo.toNat = xo := by omega
 have hxl : xo < d.length := by have := hxo.e1; omega
 have hg0 := hxo.g0
 have hg1 := hxo.g1
 have ht0 := hs.t0
 have ht1 := hs.t1
 have hwin := us_win hok
 refine gv (f := 121) ?_
 refine rnT ?_
 refine TW.ldS rfl (rs_get hL (by omega) hk) ?_
 refine TW.newVar rfl zc186 rfl sz186 rfl rfl ?_
 rintro g1 w1 f1
 refine rnT ?_
 have hg1a := f1.at_
 have hg1s := f1.size
 have hcg : cg < w.heap.size := hL.lt rfl
 refine TW.ld rfl (f1.blk.fld rfl) ?_
 refine TW.cl rfl (rcount_c (s := s.set) (by omega)) ?_
 rintro y w2 ⟨c2, rfl⟩
 have hgr2 : w.grownBy w2 (some cg) := grown_step (grown_step ⟨rfl, rfl, rfl, Nat.le_refl _, fun _ _ _ => rfl⟩ f1.below) c2
 have hL2 : RL w2 (.slice (some ⟨cg, 0, none⟩) L.length ccap) L := (hL.below f1.below).below c2
 have hB2 : Blk w2 g1 186 (rsCells s) := f1.blk.next c2
 refine rnT ?_
 refine CW.condP rfl (fun hne => ?_) (fun heq => ?_)
 ·refine rnT ?_
  refine rt1 rfl ⟨hgr2, fun g hg => .inl hg, L, hL2, hdp, Lat.refl hb, fun e => by rw [e] at hne; exact absurd rfl hne⟩
 have hpr : pc s.set = r := by omega
 refine rnT ?_
 refine CW.lp [0, 1, 3, 5, 13] (fun x : Nat × Value × List RS => [(2, none, x.2.1), (14, none, .int .i64 (x.1 : Int))])
  (fun x W => x.1 ≤ ns.length ∧ w.grownBy W (some cg) ∧ RL W x.2.1 x.2.2 ∧ (∀ g, x.2.1.ownBlock = some g → g = cg ∨ w.heap.size ≤ g ∧ g ≠ g1) ∧ Blk W g1 186 (rsCells s) ∧ DP d (usOf ns) r b x.2.2 ∧ Lat b L x.2.2 ∧ Done d (usOf ns) s x.2.2 x.1) (fun x => ns.length - x.1) (0, .slice (some ⟨cg, 0, none⟩) L.length ccap, L) ⟨Nat.zero_le _, hgr2, hL2, fun g hg => by simp [Value.ownBlock] at hg; exact .inl hg.symm, hB2, hdp, Lat.refl hb, fun j v hj => by omega⟩ ?_
 rintro ⟨i, cv, M⟩ W ⟨hi, hgW, hM, hcv, hBW, hdpM, hlat, hdone⟩
 dsimp only at hi hgW hM hcv hBW hdpM hlat hdone
 have hfewM := hdpM.few (by omega)
 have hbM : b ≤ M.length := by
  have h1 := congrArg List.length hlat.2.1
  simp only [List.length_take] at h1
  omega
 have hkM : M[k]? = some s := by
  have h1 : (M.take b)[k]? = (L.take b)[k]? := by rw [hlat.2.1]
  rw [List.getElem?_take_of_lt hkb, List.getElem?_take_of_lt hkb, hk] at h1
  exact h1
 have hdW : SL (sliceT intT) F W (.slice (some ad) d.length cap) d := hd.mono (grown_kept hgW hF)
 have hnW : SL ndT G W (.slice (some nd) ns.length bcap) ns := hn.mono (grown_kept hgW hG)
 have hcvne : ∀ g, cv.ownBlock = some g → g ≠ g1 := fun g hg => by
  rcases hcv g hg with h | h
  ·omega
  ·exact h.2
 obtain ⟨CM, cmcap, rfl, _⟩ := hM.form
 obtain ⟨mg, rfl⟩ := rl_addr hM (by have := (List.getElem?_eq_some_iff.1 hkM).1; omega)
 refine rnT ?_
 refine CW.condP rfl (fun hlt => ?_) (fun hge => ?_)
 ·obtain ⟨y, hy, hym⟩ := getx (l := ns) (k := i) (by omega)
  have hyo := hok y hym
  obtain ⟨yo, hye⟩ : ∃ o : Nat, y.office = o := ⟨y.office.toNat, by have := hyo.o0; omega⟩
  have hyl : yo < d.length := by have := hyo.o1; omega
  obtain ⟨rd, rc, hr1, hr2⟩ := dist_get hdW hw hxl hyl
  have hrng := hw.rng xo yo hxl hyl
  have hxc := nd_get hnW hx
  have hyc := nd_get hnW hy
  have h6 : W.cell? ((nd.add ((s.last : Int).toNat * 7)).add 6) = some (.int .i64 (xo : Int)) := by rw [← hxe]; exact hxc 6 _ rfl
  have h2 : W.cell? ((nd.add ((i : Int).toNat * 7)).add 2) = some (.int .i64 (yo : Int)) := by rw [← hye]; exact hyc 2 _ rfl
  have hp := Nat.two_pow_pos i
  have hp16 := pow_le16 (i := i) (by omega)
  have hw0 := hyo.w0
  have hw1 := hyo.w1
  have hw2 := hyo.w2
  have hbt := bit_test s.set i
  have hfar : far d (stOf (usOf ns) s).1 y.u = at2 d xo yo := by
   rw [hst]
   show at2 d x.endo.toNat y.office.toNat = _
   rw [hxe', show y.office.toNat = yo by omega]
  have hcan : CanB d (stOf (usOf ns) s) y.u ↔ at2 d xo yo ≠ -1 ∧ s.time + x.gap + at2 d xo yo ≤ y.high := by
   unfold CanB
   rw [hfar, hst]
   exact Iff.rfl
  have hbeg : beg d (stOf (usOf ns) s) y.u = max y.low (s.time + x.gap + at2 d xo yo) := by
   unfold beg
   rw [hfar, hst]
   rfl
  have skip : ∀ W', (¬ (s.set.testBit i = false ∧ CanB d (stOf (usOf ns) s) y.u ∧ OpenP d (usOf ns) (s.set ||| 1 <<< i) (nxt d (stOf (usOf ns) s) y.u))) → Below W.heap.size W W' → i + 1 ≤ ns.length ∧ w.grownBy W' (some cg) ∧ RL W' (.slice (some ⟨mg, 0, none⟩) M.length cmcap) M ∧ (∀ g, (Value.slice (some ⟨mg, 0, none⟩) M.length cmcap).ownBlock = some g → g = cg ∨ w.heap.size ≤ g ∧ g ≠ g1) ∧ Blk W' g1 186 (rsCells s) ∧ DP d (usOf ns) r b M ∧ Lat b L M ∧ Done d (usOf ns) s M (i + 1) := by
   intro W' hno hb'
   refine ⟨by omega, grown_step hgW hb', hM.below hb', hcv, hBW.next hb', hdpM, hlat, fun j v hj hv h1 h2 h3 => ?_⟩
   by_cases hji : j < i
   ·exact hdone j v hji hv h1 h2 h3
   ·have : j = i := by omega
    subst this
    rw [us_get hy] at hv
    cases hv
    exact absurd ⟨h1, h2, h3⟩ hno
  refine rnT ?_
  refine CW.draw mixed (by kernel_rfl) ?_
  refine rnD ?_
  refine DW.ld rfl (hBW.fld rfl) ?_
  refine rnD ?_
  refine DW.ld rfl h6 ?_
  refine rnD ?_
  refine DW.ld rfl hr1 ?_
  refine rnD ?_
  refine DW.ld rfl h2 ?_
  refine rnD ?_
  refine DW.ld rfl hr2 ?_
  refine rnD ?_
  refine DW.fi [0, 1, 2, 3, 5, 13, 14, 15] rfl fun w3 b3 => ?_
  refine rnT ?_
  refine CW.draw mixed (by kernel_rfl) ?_
  refine rnD ?_
  have hB3 := hBW.next b3
  refine DW.ld rfl (hB3.fld rfl) ?_
  refine rnD ?_
  refine DW.cl (.ex (.int .i64 ((2 ^ i : Nat) : Int))) trivial rfl (fun _ w' hb' => (rbit_c (i := i) (by omega)).mono fun u w'' ⟨h1, h2⟩ => ⟨h1, h2⟩) ?_
  refine DW.v V.quo rfl ⟨ct, ct, trivial⟩ (fun _ => by omega) ?_
  refine DW.v V.rem rfl ⟨ct, ct, trivial⟩ (fun _ => ⟨Int.ediv_nonneg (by omega) (by omega), by omega, by omega⟩) ?_
  refine rnD ?_
  refine DW.fi [0, 1, 2, 3, 5, 13, 14, 15, 61] rfl fun w4 b4 => ?_
  refine KW.then_ ?_
  have b34 := b3.step b4
  rw [natdiv]
  obtain ⟨bq, hbq⟩ : ∃ bq, bq = s.set / 2 ^ i % 2 := ⟨_, rfl⟩
  rw [← hbq] at hbt
  rw [← hbq]
  refine CW.cond rfl (fun hskip => ?_) (fun hgo => ?_)
  ·refine rnT ?_
   refine KW.rd (i + 1, .slice (some ⟨mg, 0, none⟩) M.length cmcap, M) (skip w4 ?_ b34)
   rintro ⟨h1, h2, _⟩
   rw [h1] at hbt
   have h3 : ¬ bq = 1 := by simpa using hbt.symm
   have h4 := (hcan.1 h2).1
   simp at hskip
   omega
  have hbit : s.set.testBit i = false := by
   rw [hbt]
   simp at hgo
   simp
   omega
  have hway : at2 d xo yo ≠ -1 := by
   simp at hgo
   omega
  have hB4 := hB3.next b4
  have hnW4 := hnW.below b34
  have hxc4 := nd_get hnW4 hx
  have hyc4 := nd_get hnW4 hy
  refine rnT ?_
  refine CW.draw mixed (by kernel_rfl) ?_
  refine rnD ?_
  refine DW.ld rfl (hB4.fld rfl) ?_
  refine rnD ?_
  refine DW.ld rfl (hB4.fld rfl) ?_
  refine rnD ?_
  refine DW.ld rfl (hxc4 5 _ rfl) ?_
  refine DW.v V.add rfl ⟨ct, ct, trivial⟩ (fun _ => by omega) ?_
  refine DW.v V.move rfl ⟨ct, trivial⟩ (fun _ => trivial) ?_
  refine DW.v V.add rfl ⟨ct, ct, trivial⟩ (fun _ => by omega) ?_
  refine rnD ?_
  refine DW.ld rfl (hyc4 3 _ rfl) ?_
  refine DW.v V.maxI rfl ⟨ct, ct, trivial⟩ (fun _ => trivial) ?_
  refine rnD ?_
  refine DW.fi [0, 1, 2, 3, 5, 13, 14, 15, 16] rfl fun w5 b5 => ?_
  refine rnT ?_
  refine CW.draw mixed (by kernel_rfl) ?_
  refine rnD ?_
  have b35 := b34.step b5
  have hB5 := hB4.next b5
  have hnW5 := hnW4.below b5
  have hyc5 := nd_get hnW5 hy
  have hdW5 := hdW.below b35
  rw [show max (s.time + x.gap + at2 d xo yo) y.low = beg d (stOf (usOf ns) s) y.u by rw [hbeg]; omega]
  obtain ⟨t, htt⟩ : ∃ t, t = beg d (stOf (usOf ns) s) y.u := ⟨_, rfl⟩
  have htl : 0 ≤ t ∧ t ≤ 4000000 := by rw [htt, hbeg]; omega
  have hnxt : nxt d (stOf (usOf ns) s) y.u = (some y.endo.toNat, t + y.gap) := by rw [htt]; rfl
  rw [← htt]
  have hsum : ((s.set : Int) + ((2 ^ i : Nat) : Int)) = ((s.set ||| 1 <<< i : Nat) : Int) := by rw [← add_bit hbit]; simp
  have hor : s.set ||| 1 <<< i ≤ 1000000000 := by rw [← add_bit hbit]; omega
  have hopen : t ≤ y.high → ∀ w', Below w5.heap.size w5 w' → Gives Tryz.prog 156 #[.slice (some ad) d.length cap, .slice (some nd) ns.length bcap, .int .i64 ((s.set : Int) + ((2 ^ i : Nat) : Int)), .int .i64 (i : Int), .int .i64 t] w' fun u w'' => Below w'.heap.size w' w'' ∧ u = .bool (dec (OpenP d (usOf ns) (s.set ||| 1 <<< i) (nxt d (stOf (usOf ns) s) y.u))) := fun hth w' hb' => by
   rw [hsum, hnxt]
   exact ropen_c (hdW5.below hb') hw (hnW5.below hb') hok h16 hy hor ⟨htl.1, by omega⟩
  refine DW.ld rfl (hyc5 4 _ rfl) ?_
  refine rnD ?_
  refine DW.ld rfl (hB5.fld rfl) ?_
  refine rnD ?_
  refine DW.call (.ex (.int .i64 ((2 ^ i : Nat) : Int))) trivial rfl rfl en120 rfl ct (DArgs.cons rfl id DArgs.nil) (fun _ w' hb' => (rbit_c (i := i) (by omega)).mono fun u w'' ⟨h1, h2⟩ => ⟨h1, h2⟩) ?_
  refine DW.v V.add rfl ⟨id, id, trivial⟩ (fun _ => by omega) ?_
  refine rnD ?_
  refine DW.call (.ex (.bool (dec (OpenP d (usOf ns) (s.set ||| 1 <<< i) (nxt d (stOf (usOf ns) s) y.u))))) trivial rfl rfl en156 rfl ct (DArgs.cons rfl id (DArgs.cons rfl id (DArgs.cons rfl id (DArgs.cons rfl id (DArgs.cons rfl id DArgs.nil))))) (fun hG w' hb' => (hopen (by simp [Cnd] at hG; omega) w' hb').mono fun u w'' ⟨h1, h2⟩ => ⟨h1, h2⟩) ?_
  refine rnD ?_
  refine DW.fi [0, 1, 2, 3, 5, 13, 14, 15, 16, 98] rfl fun w6 b6 => ?_
  refine KW.then_ ?_
  have b36 := b35.step b6
  refine CW.cond rfl (fun hskip2 => ?_) (fun hgo2 => ?_)
  ·refine rnT ?_
   refine KW.rd (i + 1, .slice (some ⟨mg, 0, none⟩) M.length cmcap, M) (skip w6 ?_ b36)
   rintro ⟨_, h2, h3⟩
   have h4 := (hcan.1 h2).2
   rw [dec_pos h3] at hskip2
   simp at hskip2
   rw [htt, hbeg] at hskip2
   omega
  have hth : t ≤ y.high := by
   cases hq : dec (OpenP d (usOf ns) (s.set ||| 1 <<< i) (nxt d (stOf (usOf ns) s) y.u)) <;> simp [hq] at hgo2
   omega
  have hop : OpenP d (usOf ns) (s.set ||| 1 <<< i) (nxt d (stOf (usOf ns) s) y.u) := by
   cases hq : dec (OpenP d (usOf ns) (s.set ||| 1 <<< i) (nxt d (stOf (usOf ns) s) y.u)) with
   | true => exact dec_iff.1 hq
   | false => simp [hq] at hgo2
  have hcb : CanB d (stOf (usOf ns) s) y.u := hcan.2 ⟨hway, by rw [htt, hbeg] at hth; omega⟩
  obtain ⟨hnok, hpcn, _⟩ := hs.next hwin (us_get hy) hbit hcb (k := (k : Int)) (by omega)
  rw [← htt] at hnok
  have hB6 := hB5.next b6
  have hM6 := hM.below b36
  refine rnT ?_
  refine CW.drawR mixed fun W7 hb7 => ?_
  refine RW.draw .weak 10 (by kernel_rfl) (by kernel_rfl) rfl rfl hb7 ?_
  refine rnD ?_
  refine DW.ld rfl (hB6.fld rfl) ?_
  refine rnD ?_
  refine DW.cl (.ex (.int .i64 ((2 ^ i : Nat) : Int))) trivial rfl (fun _ w' hb' => (rbit_c (i := i) (by omega)).mono fun u w'' ⟨h1, h2⟩ => ⟨h1, h2⟩) ?_
  refine DW.v V.add rfl ⟨ct, ct, trivial⟩ (fun _ => by omega) ?_
  refine rnD ?_
  refine DW.build [0, 1, 2, 3] [.tmp 99, .tmp 100, .tmp 105, .tmp 106] [.int .i64 t, .int .i64 (i : Int), .int .i64 ((s.set : Int) + ((2 ^ i : Nat) : Int)), .int .i64 (k : Int)] rfl rfl rfl rfl (DArgs.cons rfl ct (DArgs.cons rfl ct (DArgs.cons rfl ct (DArgs.cons rfl ct DArgs.nil)))) (by kernel_rfl) ?_
  refine DW.allocP rfl zc186 ?_
  refine DW.nil (DW.finX [0, 1, 2, 3, 5, 13, 14, 15, 16, 107] [(0, _, _), (1, _, _), (2, _, _), (3, _, _), (5, _, _), (13, _, _), (14, _, _), (15, _, _), (16, _, _), (107, _, _)] rfl [17] rfl fun vs w7 b7 hs7 => KW.rk' ?_)
  obtain ⟨v17, rfl, h17⟩ := Sats.one hs7
  obtain ⟨g7, rfl, hg7, hB7⟩ := h17
  refine RW.one (by kernel_rfl) (by kernel_rfl) rfl ?_
  refine TW.storeBlkF rfl rfl rfl hB7 sz186 rfl rfl rfl ?_
  rintro w8 hB8 hbut8 hsz8
  rw [hsum] at hB8
  refine TW.nil (KW.pick [0, 1, 2, 3, 5, 13, 14, 15, 16, 17] [(0, _, _), (1, _, _), (2, _, _), (3, _, _), (5, _, _), (13, _, _), (14, _, _), (15, _, _), (16, _, _), (17, _, _)] rfl (KW.rk ?_))
  refine RW.end rfl (KW.pick [0, 1, 2, 3, 5, 13, 14, 15, 16, 17] [(0, _, _), (1, _, _), (2, _, _), (3, _, _), (5, _, _), (13, _, _), (14, _, _), (15, _, _), (16, _, _), (17, _, _)] rfl (KW.then_ ?_))
  refine rnT ?_
  have hB8' : Blk w8 g7 186 (rsCells ⟨t, i, s.set ||| 1 <<< i, (k : Int)⟩) := hB8
  have b37 := b36.step b7
  have hs36 := b36.size
  have hs37 := b37.size
  have hsW := hgW.size
  have b38 : Below W.heap.size W w8 := b37.grown hbut8 b37.size (fun q hq => by cases hq; omega)
  have hM8 := hM.below b38
  have hBW8 := hBW.next b38
  have hgW8 := grown_step hgW b38
  have hget8 := fun (j : Nat) (s' : RS) (hs' : M[j]? = some s') => rs_get hM8 (by omega) hs'
  refine CW.lp [0, 1, 2, 3, 5, 13, 14, 16, 17] (fun a : Nat => [(18, none, .int .i64 (a : Int))])
   (fun a W' => b ≤ a ∧ a ≤ M.length ∧ Below w8.heap.size w8 W' ∧ ∀ (j : Nat) s', b ≤ j → j < a → M[j]? = some s' → ¬ (s'.set = s.set ||| 1 <<< i ∧ s'.last = i)) (fun a => M.length - a) b ⟨Nat.le_refl _, hbM, Below.refl _ _, fun j s' h1 h2 => by omega⟩ ?_
  rintro a W9 ⟨ha1, ha2, hB9, hno9⟩
  have hM9 := hM8.below hB9
  have hB79 := hB8'.next hB9
  obtain ⟨sa, hsa⟩ : ∃ sa : RS, a < M.length → M[a]? = some sa := by
   by_cases h : a < M.length
   ·exact ⟨M[a], fun _ => List.getElem?_eq_getElem h⟩
   ·exact ⟨s, fun h' => absurd h' h⟩
  have hgeta : a < M.length → ∀ (j : Nat) v, (rsCells sa)[j]? = some v → W9.cell? ((Addr.add ⟨mg, 0, none⟩ ((a : Int).toNat * 4)).add j) = some v := fun h => rs_get hM9 (by omega) (hsa h)
  refine rnT ?_
  refine CW.draw mixed (by kernel_rfl) ?_
  refine rnD ?_
  refine DW.load rfl rfl one3 rfl id (fun h => hgeta (by simp [Cnd] at h; omega) 2 _ rfl) ?_
  refine rnD ?_
  refine DW.ld rfl (hB79.fld rfl) ?_
  refine rnD ?_
  refine DW.load rfl rfl one3 rfl id (fun h => hgeta (by simp [Cnd] at h; omega) 1 _ rfl) ?_
  refine rnD ?_
  refine DW.fi [0, 1, 2, 3, 5, 13, 14, 16, 17, 18, 131] rfl fun w10 b10 => ?_
  refine KW.then_ ?_
  have hB10 := hB9.step b10
  refine CW.cond rfl (fun hcont => ?_) (fun hstop => ?_)
  ·have hal : a < M.length := by
    simp at hcont
    omega
   refine rnT ?_
   refine KW.rd (a + 1) ⟨by omega, by omega, hB10, fun j s' h1 h2 h3 => ?_⟩
   by_cases hja : j < a
   ·exact hno9 j s' h1 hja h3
   ·have : j = a := by omega
    subst this
    rw [hsa hal] at h3
    cases h3
    rintro ⟨e1, e2⟩
    simp [e1, e2] at hcont
  have b310 := b38.step hB10
  have hM10 := hM.below b310
  have hB710 := hB8'.next hB10
  have hBW10 := hBW.next b310
  have hgW10 := grown_step hgW b310
  refine rnT ?_
  refine CW.condP rfl (fun hend => ?_) (fun hfound => ?_)
  ·have hae : a = M.length := by omega
   subst hae
   obtain ⟨hdp', hlat'⟩ := hdpM.app hnok (by rw [hpcn, hpr]) (by show (k : Int) < b; omega) hbM (fun j s' h1 h2 => hno9 j s' h2 (List.getElem?_eq_some_iff.1 h1).1 h1)
   refine rnT ?_
   refine TW.ldS rfl (fun _ _ h => hB710.fld h) ?_
   refine TW.buildSlice 186 _ rfl rfl rfl eo181 (Args.cons rfl ct Args.nil) rfl rfl rfl rfl rfl ?_
   rintro g11 w11 f11
   refine TW.append (rsCells ⟨t, i, s.set ||| 1 <<< i, (k : Int)⟩) rfl rfl go181 rfl (hM10.below f11.below) rfl rfl (fun j v hj => ⟨⟨g11, 0, none⟩, rfl, f11.blk.fld hj⟩) (fun v hv => by simp [rsCells] at hv; rcases hv with rfl | rfl | rfl | rfl <;> rfl) (by omega) (by omega) ?_
   rintro cv' w12 o12 hg12 hn12
   refine rnT ?_
   have b311 := b310.step f11.below
   have hs311 := b311.size
   have hcv' : ∀ g, cv'.ownBlock = some g → g = cg ∨ w.heap.size ≤ g ∧ g ≠ g1 := fun g hg => by
    rcases hn12 with h | h
    ·exact hcv g (by rw [← h]; exact hg)
    ·rw [h] at hg; cases hg
     have := hBW.lt
     exact .inr ⟨by omega, by omega⟩
   refine KW.rd (i + 1, cv', M ++ [⟨t, i, s.set ||| 1 <<< i, (k : Int)⟩]) ⟨by show i + 1 ≤ ns.length; omega, grown_more (grown_step hgW b311) hg12 (fun g hg => ?_), ?_, hcv', ?_, hdp', hlat.trans hlat', ?_⟩
   ·rcases hcv g hg with h | h
    ·exact .inl (by rw [h])
    ·exact .inr h.1
   ·show OwnS w12 _ 4 cv' (M ++ [_]).length ((M ++ [_]).flatMap rsCells)
    rw [List.flatMap_append]
    simpa using o12
   ·have hb11 := hBW10.next f11.below
    exact (hg12.block g1 hb11.lt (fun e => hcvne g1 e.symm rfl)).trans hb11
   ·intro j v hj hv h1 h2 h3
    by_cases hji : j < i
    ·exact (hdone j v hji hv h1 h2 h3).lat hlat'
    ·have : j = i := by omega
     subst this
     rw [us_get hy] at hv
     cases hv
     exact ⟨⟨t, j, s.set ||| 1 <<< j, (k : Int)⟩, List.mem_append_right _ (List.mem_singleton.2 rfl), rfl, rfl, by show t ≤ _; omega⟩
  have hal : a < M.length := by omega
  have hmatch : sa.set = s.set ||| 1 <<< i ∧ sa.last = i := by
   simp [hal] at hstop
   omega
  have hsaM := hsa hal
  have hga := rs_get hM10 (by omega) hsaM
  refine rnT ?_
  refine TW.ld rfl (hga 0 _ rfl) ?_
  refine rnT ?_
  refine CW.condP rfl (fun hlate => ?_) (fun hearly => ?_)
  ·obtain ⟨hdp', hlat'⟩ := hdpM.set hsaM ha1 hnok (by show (k : Int) < b; omega) hbM hmatch.1 hmatch.2 (by show t ≤ sa.time; omega)
   refine rnT ?_
   refine TW.ldS rfl (fun _ _ h => hB710.fld h) ?_
   refine rnT ?_
   refine TW.storeOwnS rfl sz186 rfl rfl hM10 (by omega) rfl rfl rfl ?_
   rintro w12 o12 hg12 hsz12
   refine rnT ?_
   rw [splice_flat rsCells 4 M (rs_len M) (a : Int).toNat ⟨t, i, s.set ||| 1 <<< i, (k : Int)⟩ (by omega) rfl, show (a : Int).toNat = a by omega] at o12
   refine KW.rd (i + 1, .slice (some ⟨mg, 0, none⟩) M.length cmcap, M.set a ⟨t, i, s.set ||| 1 <<< i, (k : Int)⟩) ⟨by show i + 1 ≤ ns.length; omega, grown_more hgW10 hg12 (fun g hg => ?_), ?_, hcv, ?_, hdp', hlat.trans hlat', ?_⟩
   ·rcases hcv g hg with h | h
    ·exact .inl (by rw [h])
    ·exact .inr h.1
   ·show OwnS w12 _ 4 _ (M.set a _).length ((M.set a _).flatMap rsCells)
    rw [List.length_set]
    exact o12
   ·exact (hg12.block g1 hBW10.lt (fun e => hcvne g1 e.symm rfl)).trans hBW10
   ·intro j v hj hv h1 h2 h3
    by_cases hji : j < i
    ·exact (hdone j v hji hv h1 h2 h3).lat hlat'
    ·have : j = i := by omega
     subst this
     rw [us_get hy] at hv
     cases hv
     exact ⟨⟨t, j, s.set ||| 1 <<< j, (k : Int)⟩, List.mem_iff_getElem?.2 ⟨a, List.getElem?_set_self hal⟩, rfl, rfl, by show t ≤ _; omega⟩
  ·refine rnT ?_
   refine KW.rd (i + 1, .slice (some ⟨mg, 0, none⟩) M.length cmcap, M) ⟨by show i + 1 ≤ ns.length; omega, hgW10, hM10, hcv, hBW10, hdpM, hlat, ?_⟩
   intro j v hj hv h1 h2 h3
   by_cases hji : j < i
   ·exact hdone j v hji hv h1 h2 h3
   ·have : j = i := by omega
    subst this
    rw [us_get hy] at hv
    cases hv
    exact ⟨sa, List.mem_of_getElem? hsaM, hmatch.1, hmatch.2, by omega⟩
 ·have hie : i = ns.length := by omega
  subst hie
  refine rnT ?_
  refine rt1 rfl ⟨hgW, fun g hg => ?_, M, hM, hdpM, hlat, fun _ => hdone⟩
  rcases hcv g hg with h | h
  ·exact .inl (by rw [h]; rfl)
  ·exact .inr h.1
def clipE (e : Ev) : Ev := if e.low > e.high ∨ e.low > 1000000 ∨ e.high < 0 then { e with low := 1, high := 0 } else { e with low := max e.low 0, high := min e.high 1000000 }
theorem clip_ok : (clipE e).low ≤ (clipE e).high ↔ lowC e ≤ highC e := by
 unfold clipE lowC highC
 split <;> (dsimp only; omega)
theorem clip_eq (h : lowC e ≤ highC e) : (clipE e).low = lowC e ∧ (clipE e).high = highC e := by
 unfold lowC highC at h
 unfold clipE lowC highC
 split <;> (dsimp only; omega)
theorem clip_rest (e : Ev) : (clipE e).office = e.office ∧ (clipE e).needs = e.needs := by
 unfold clipE
 split <;> exact ⟨rfl, rfl⟩
def evV (e : Ev) (nv : Value) : List Value := [.int .i64 e.office, .int .i64 e.low, .int .i64 e.high, nv]
theorem rclip_c {A : Option Addr} {c : Nat} : Gives Tryz.prog 154 #[.agg #[.int .i64 e.office, .int .i64 e.low, .int .i64 e.high, .slice A n c]] w fun x w' => Below w.heap.size w w' ∧ x = .agg (evV (clipE e) (.slice A n c)).toArray := by
 refine gv (f := 154) ?_
 refine rnT ?_
 refine TW.box rfl rfl rfl rfl ?_
 rintro g1 w1 f1
 refine TW.alloc rfl rfl zc50 ?_
 rintro g2 w2 f2
 refine rnT ?_
 have ha1 := f1.at_
 have ha2 := f2.at_
 have hs1 := f1.size
 have hs2 := f2.size
 have hb2 := f1.below.step f2.below
 have hB1 := f1.blk.next f2.below
 refine TW.ld rfl (hB1.fld rfl) ?_
 refine rnT ?_
 refine TW.ld rfl (hB1.fld rfl) ?_
 refine rnT ?_
 refine TW.ld rfl (hB1.fld rfl) ?_
 refine rnT ?_
 refine TW.ld rfl (hB1.fld rfl) ?_
 refine rnT ?_
 refine CW.pk [0, 1, 2, 17] rfl ?_
 refine CW.cond rfl (fun hbad => ?_) (fun hgood => ?_)
 ·have hc : clipE e = { e with low := 1, high := 0 } := by
   unfold clipE
   rw [if_pos (by simp at hbad; omega)]
  refine rnT ?_
  refine TW.storeFld rfl sz3 rfl rfl hB1 (by show 1 < 4; decide) rfl ?_
  rintro w3 hB3 hbut3 hsz3
  refine rnT ?_
  refine TW.storeFld rfl sz3 rfl rfl hB3 (by show 2 < 4; decide) rfl ?_
  rintro w4 hB4 hbut4 hsz4
  refine rnT ?_
  refine TW.ldS rfl (fun _ _ h => hB4.fld h) ?_
  have hb3 : Below w.heap.size w w3 := hb2.grown hbut3 hb2.size (fun q hq => by cases hq; omega)
  have hb4 : Below w.heap.size w w4 := hb3.grown hbut4 hb3.size (fun q hq => by cases hq; omega)
  have hB24 : Blk w4 g2 50 [.int .i64 0, .int .i64 0, .int .i64 0, .slice none 0 0] := hbut4.blk (hbut3.blk f2.blk (by omega)) (by omega)
  refine TW.storeBlkF rfl rfl rfl hB24 sz50 rfl rfl rfl ?_
  rintro w5 hB5 hbut5 hsz5
  refine rnT ?_
  have hb5 : Below w.heap.size w w5 := hb4.grown hbut5 hb4.size (fun q hq => by cases hq; omega)
  refine retCS Tryz.results154 Tryz.underlying50 (by exact sz50) rfl (hB5) (⟨hb5, ?_⟩)
  rw [hc]
  rfl
 have hc : clipE e = { e with low := max e.low 0, high := min e.high 1000000 } := by
  unfold clipE
  rw [if_neg (by simp at hgood; omega)]
 refine rnT ?_
 refine TW.ld rfl (hB1.fld rfl) ?_
 refine TW.v V.maxI rfl ⟨ct, ct, trivial⟩ (fun _ => trivial) ?_
 refine rnT ?_
 refine TW.storeFld rfl sz3 rfl rfl hB1 (by show 1 < 4; decide) rfl ?_
 rintro w3 hB3 hbut3 hsz3
 refine rnT ?_
 refine TW.ld rfl (hB3.fld rfl) ?_
 refine TW.v V.minI rfl ⟨ct, ct, trivial⟩ (fun _ => trivial) ?_
 refine rnT ?_
 refine TW.storeFld rfl sz3 rfl rfl hB3 (by show 2 < 4; decide) rfl ?_
 rintro w4 hB4 hbut4 hsz4
 refine rnT ?_
 refine TW.pk [0, 1, 2] rfl ?_
 refine TW.ldS rfl (fun _ _ h => hB4.fld h) ?_
 have hb3 : Below w.heap.size w w3 := hb2.grown hbut3 hb2.size (fun q hq => by cases hq; omega)
 have hb4 : Below w.heap.size w w4 := hb3.grown hbut4 hb3.size (fun q hq => by cases hq; omega)
 have hB24 : Blk w4 g2 50 [.int .i64 0, .int .i64 0, .int .i64 0, .slice none 0 0] := hbut4.blk (hbut3.blk f2.blk (by omega)) (by omega)
 refine TW.storeBlkF rfl rfl rfl hB24 sz50 rfl rfl rfl ?_
 rintro w5 hB5 hbut5 hsz5
 refine rnT ?_
 have hb5 : Below w.heap.size w w5 := hb4.grown hbut5 hb4.size (fun q hq => by cases hq; omega)
 refine retCS Tryz.results154 Tryz.underlying50 (by exact sz50) rfl (hB5) (⟨hb5, ?_⟩)
 rw [hc]
 rfl
def nodeAt (i : Nat) (e : Ev) : Nd := ⟨i, -1, e.office, (clipE e).low, (clipE e).high, 0, e.office⟩
def nodesTo (l : List Ev) (k : Nat) : List Nd := (l.take k).mapIdx nodeAt
theorem nodesTo_succ (he : l[k]? = some e) : nodesTo l (k + 1) = nodesTo l k ++ [nodeAt k e] := by
 unfold nodesTo
 have hk := (List.getElem?_eq_some_iff.1 he).1
 rw [List.take_add_one, he, List.mapIdx_append]
 simp [Nat.min_eq_left (Nat.le_of_lt hk)]
theorem nodesTo_len (h : k ≤ l.length) : (nodesTo l k).length = k := by simp [nodesTo]; omega
theorem nodesTo_get {x : Nd} (h : (nodesTo l l.length)[i]? = some x) : ∃ e, l[i]? = some e ∧ x = nodeAt i e := by
 unfold nodesTo at h
 rw [List.take_length, List.getElem?_mapIdx] at h
 obtain ⟨e, he, rfl⟩ := Option.map_eq_some_iff.1 h
 exact ⟨e, he, rfl⟩
theorem nodes_us (h : ∀ e ∈ l, lowC e ≤ highC e) : usOf (nodesTo l l.length) = l.map uOf := by
 apply List.ext_getElem?
 intro i
 unfold usOf nodesTo
 rw [List.getElem?_map, List.take_length, List.getElem?_mapIdx, List.getElem?_map]
 cases he : l[i]? with
 | none => rfl
 | some e =>
  obtain ⟨h1, h2⟩ := clip_eq (h e (List.mem_of_getElem? he))
  simp only [Option.map_some]
  unfold nodeAt Nd.u uOf
  simp only [h1, h2]
theorem nodes_ok (hw : WfE d l) (h : ∀ e ∈ l, lowC e ≤ highC e) : ∀ x ∈ nodesTo l l.length, NdOK d l.length x := fun x hx => by
 obtain ⟨i, hi⟩ := List.mem_iff_getElem?.1 hx
 obtain ⟨e, he, rfl⟩ := nodesTo_get hi
 have hem := List.mem_of_getElem? he
 have hee := hw.each e hem
 obtain ⟨h1, h2⟩ := clip_eq (h e hem)
 have hle := h e hem
 have hil := (List.getElem?_eq_some_iff.1 he).1
 have hu : (nodeAt i e).u = uOf e := by unfold nodeAt Nd.u uOf; simp only [h1, h2]
 refine ⟨hee.o1, hee.o1, Int.le_refl _, by show (0 : Int) ≤ 1000000; decide, ?_, ?_, ?_, by rw [hu]; exact uok_of hw.wd hee, by show (0 : Int) ≤ i; omega, by show (i : Int) < _; omega, by show (-1 : Int) < _; omega⟩
 ·show 0 ≤ (clipE e).low
  rw [h1]; unfold lowC; omega
 ·show (clipE e).low ≤ (clipE e).high
  rw [h1, h2]; exact hle
 ·show (clipE e).high ≤ 1000000
  rw [h2]
  unfold highC lowC at *
  omega
abbrev NL (w : World) (v : Value) (ns : List Nd) : Prop := OwnS w 183 7 v ns.length (ns.flatMap Nd.cells)
theorem rnodes_c {lv : Value} (hl : SE w lv l) (h16 : l.length ≤ 16) :
  Gives Tryz.prog 119 #[dv, lv, .slice none 0 0] w fun x w' => Below w.heap.size w w' ∧ ∃ nv, x = .tuple #[nv, .bool (dec (∀ e ∈ l, lowC e ≤ highC e))] ∧ ((∀ e ∈ l, lowC e ≤ highC e) → SL ndT (fun q => w.heap.size ≤ q ∧ q < w'.heap.size) w' nv (nodesTo l l.length)) := by
 obtain ⟨B, bcap, rfl, _⟩ := hl.form
 refine gv (f := 119) ?_
 refine rnT ?_
 refine TW.makeSlice rfl rfl (zero1_of go116 ze4 rfl) rfl rfl (by omega) (by omega) ?_
 rintro g1 w1 f1
 refine rnT ?_
 have ha1 := f1.at_
 refine CW.lp [1, 2, 8, 9] (fun k : Nat => [(10, none, .int .i64 (k : Int))])
  (fun k W => k = 0 ∧ Below w1.heap.size w1 W) (fun k => k) 0 ⟨rfl, Below.refl _ _⟩ ?_
 rintro k W2 ⟨rfl, hB2⟩
 refine rnT ?_
 refine CW.condP rfl (fun hlt => ?_) (fun hge => ?_)
 ·exact absurd hlt (by decide)
 refine rnT ?_
 have hb2 := f1.below.step hB2
 have hu2 := f1.blk.next hB2
 refine CW.lp [1, 9] (fun x : Nat × Value => [(8, none, x.2), (14, none, .int .i64 (x.1 : Int))])
  (fun x W => x.1 ≤ l.length ∧ Below w.heap.size w W ∧ NL W x.2 (nodesTo l x.1) ∧ (∀ g, x.2.ownBlock = some g → g1 < g) ∧ Blk W g1 4 (List.replicate l.length (.bool false))) (fun x => l.length - x.1) (0, .slice none 0 0) ⟨Nat.zero_le _, hb2, OwnS.nil _ _ _, fun g hg => by simp [Value.ownBlock] at hg, hu2⟩ ?_
 rintro ⟨i, nv⟩ W ⟨hi, hB, hN, hown, hU⟩
 dsimp only at hi hN hown
 have hnl := nodesTo_len hi
 refine rnT ?_
 refine CW.pk [1, 8, 9, 14, 119] rfl ?_
 refine CW.condP rfl (fun hlt3 => ?_) (fun hge3 => ?_)
 ·obtain ⟨e, he, hem⟩ := getx (l := l) (k := i) (by omega)
  have hlW := se_step hl hB
  obtain ⟨ad, rfl⟩ := hlW.addr (by omega)
  obtain ⟨nd, hcells, i1, i2, i3, hneeds⟩ := SE.get hlW he
  obtain ⟨N, ncap, rfl, _⟩ := hneeds.form
  have hcu : W.cell? (Addr.add ⟨g1, 0, none⟩ ((i : Int).toNat * 1)) = some (.bool false) := hU.fld (by rw [List.getElem?_replicate, if_pos (by omega)])
  refine rnT ?_
  refine TW.ld rfl hcu ?_
  refine rnT ?_
  refine CW.cond rfl (fun hin => ?_) (fun hout => ?_)
  rotate_left 1
  ·exact absurd hout (by simp)
  refine rnT ?_
  refine TW.ldS rfl (hcells) ?_
  refine TW.cl rfl (rclip_c) ?_
  rintro y w3 ⟨c3, rfl⟩
  refine TW.newVar rfl zc50 rfl sz50 rfl rfl ?_
  rintro g4 w4 f4
  refine rnT ?_
  have hb4 := c3.step f4.below
  have hN4 := (hN.below c3).below f4.below
  obtain ⟨q1, q2⟩ := clip_rest e
  have hBk4 : Blk w4 g4 50 [.int .i64 e.office, .int .i64 (clipE e).low, .int .i64 (clipE e).high, .slice N e.needs.length ncap] := by
   have := f4.blk
   unfold evV at this
   rw [q1] at this
   exact this
  refine TW.ld rfl (hBk4.fld rfl) ?_
  refine rnT ?_
  refine TW.ld rfl (hBk4.fld rfl) ?_
  refine rnT ?_
  refine TW.ld rfl (hBk4.fld rfl) ?_
  refine rnT ?_
  refine TW.ld rfl (hBk4.fld rfl) ?_
  refine TW.build [0, 1, 2, 3, 4, 6] [.tmp 133, .const (.int .i64 (-1)), .tmp 135, .tmp 137, .tmp 139, .tmp 141] (nodeAt i e).cells rfl rfl rfl (Args.cons rfl ct (Args.cons rfl ct (Args.cons rfl ct (Args.cons rfl ct (Args.cons rfl ct (Args.cons rfl ct Args.nil)))))) (by kernel_rfl) ?_
  refine TW.buildSlice 183 _ rfl rfl rfl eo178 (Args.cons rfl ct Args.nil) rfl rfl rfl rfl rfl ?_
  rintro g5 w5 f5
  refine TW.append (nodeAt i e).cells rfl rfl go178 rfl (hN4.below f5.below) rfl rfl (fun j v hj => ⟨⟨g5, 0, none⟩, rfl, f5.blk.fld hj⟩) (fun v hv => by simp [Nd.cells] at hv; rcases hv with rfl | rfl | rfl | rfl | rfl | rfl | rfl <;> rfl) (by omega) (by omega) ?_
  rintro nv' w6 o6 hg6 hn6
  refine rnT ?_
  have hb5 := hb4.step f5.below
  have hbW5 := hB.step hb5
  have hs5 := hb5.size
  have hUlt := hU.lt
  refine KW.rd (i + 1, nv') ⟨by show i + 1 ≤ l.length; omega, hbW5.grown hg6 hbW5.size (fun q hq => by have := hown q hq; omega), ?_, fun g hg => ?_, ?_⟩
  ·show OwnS w6 _ 7 nv' (nodesTo l (i + 1)).length ((nodesTo l (i + 1)).flatMap Nd.cells)
   rw [nodesTo_succ he, List.flatMap_append]
   simpa using o6
  ·rcases hn6 with h | h
   ·exact hown g (by rw [← h]; exact hg)
   ·rw [h] at hg; cases hg; omega
  ·have hU5 := hU.next hb5
   exact (hg6.block g1 hU5.lt (fun e => absurd (hown g1 e.symm) (Nat.lt_irrefl _))).trans hU5
 have hie : i = l.length := by omega
 subst hie
 have hsl : SL ndT (fun q => w.heap.size ≤ q ∧ q < W.heap.size) W nv (nodesTo l l.length) := OwnS.toSL (T := ndT) Nd.cells (fun _ _ => rfl) hN (fun g hg => ⟨by have := hown g hg; omega, hN.lt hg⟩) (by omega)
 obtain ⟨A, ncap, rfl, _⟩ := hsl.form
 refine rnT ?_
 refine CW.lp [8] (fun k : Nat => [(16, none, .int .i64 (k : Int))])
  (fun k W' => k ≤ l.length ∧ Below W.heap.size W W' ∧ ∀ (i : Nat) e, i < k → l[i]? = some e → lowC e ≤ highC e) (fun k => l.length - k) 0 ⟨Nat.zero_le _, Below.refl _ _, fun i e hi => by omega⟩ ?_
 rintro k W' ⟨hk, hBk, hall⟩
 refine rnT ?_
 refine CW.condP rfl (fun hlt4 => ?_) (fun hge4 => ?_)
 ·obtain ⟨e, he, hem⟩ := getx (l := l) (k := k) (by omega)
  have hsl' := hsl.below hBk
  obtain ⟨ad, rfl⟩ := hsl'.addr (by omega)
  have hnx : (nodesTo l l.length)[k]? = some (nodeAt k e) := by
   unfold nodesTo
   rw [List.take_length, List.getElem?_mapIdx, he]
   rfl
  have hc := nd_get hsl' hnx
  refine rnT ?_
  refine CW.draw mixed (by kernel_rfl) ?_
  refine rnD ?_
  refine DW.ld rfl (hc 3 _ rfl) ?_
  refine rnD ?_
  refine DW.ld rfl (hc 4 _ rfl) ?_
  refine rnD ?_
  refine DW.fi [8, 16, 161] rfl fun w7 b7 => ?_
  refine KW.then_ ?_
  have hbb := hB.step (hBk.step b7)
  refine CW.condP rfl (fun hbad => ?_) (fun hgood => ?_)
  ·refine rnT ?_
   refine rt2 rfl ⟨hbb, .slice none 0 0, ?_, fun h => ?_⟩
   ·rw [dec_neg]
    intro h
    have := clip_ok.2 (h e hem)
    have hbad : (clipE e).low > (clipE e).high := hbad
    omega
   ·have := clip_ok.2 (h e hem)
    have hbad : (clipE e).low > (clipE e).high := hbad
    omega
  ·refine rnT ?_
   refine KW.rd (k + 1) ⟨by omega, hBk.step b7, fun i e' hi he' => ?_⟩
   by_cases hik : i < k
   ·exact hall i e' hik he'
   ·have : i = k := by omega
    subst this
    rw [he] at he'
    cases he'
    exact clip_ok.1 (by have hgood : ¬ (clipE e).low > (clipE e).high := hgood; omega)
 ·have hal : ∀ e ∈ l, lowC e ≤ highC e := fun e he => by
   obtain ⟨i, hi⟩ := List.mem_iff_getElem?.1 he
   exact hall i e (by have := (List.getElem?_eq_some_iff.1 hi).1; omega) hi
  refine rnT ?_
  refine rt2 rfl ⟨hB.step hBk, _, by rw [dec_pos hal], fun _ => ?_⟩
  have hs := hBk.size
  exact (hsl.below hBk).wider (fun q hq => ⟨hq.1, by omega⟩)
theorem rvalidJ_c {v u : Value} {la : Addr} {lc : Nat} {gp : Int} (hd : SD w v d) (hl : SE w u l) (hleg : LegAt w la n gp) (hn : l.length = n + 2) (hgp : 0 ≤ gp ∧ gp ≤ 1000000) : Gives Tryz.prog 74 #[v, u, .slice (some la) 1 lc] w fun x w' => Below w.heap.size w w' ∧ x = .bool (dec (WfE d l)) := by
 obtain ⟨A, cap, rfl, _⟩ := hd.form
 obtain ⟨B, bcap, rfl, _⟩ := hl.form
 have hmax : l.length ≤ 9223372036854775807 := hl.len.2.2
 refine gv (f := 74) ?_
 refine rnT ?_
 refine TW.cl rfl (rdistances_c hd) ?_
 rintro y w1 ⟨hb1, rfl⟩
 refine rnT ?_
 refine CW.cond rfl (fun hbad => ?_) (fun hgood => ?_)
 ·refine rnT ?_
  refine rt1 rfl ⟨hb1, by rw [dec_neg (fun h => by simp [dec_pos h.wd] at hbad; have := h.few; omega)]⟩
 have hwd : WfD d := dec_iff.1 (by cases hq : dec (WfD d) <;> simp_all)
 have hfew : l.length ≤ 16 := by simp [dec_pos hwd] at hgood; omega
 refine rnT ?_
 refine TW.makeSlice rfl rfl (zero1_of go116 ze4 rfl) rfl rfl (by omega) (by omega) ?_
 rintro g2 w2 f2
 refine rnT ?_
 have hb02 := hb1.step f2.below
 have hg2 := f2.at_
 have hw1 := hb1.size
 refine CW.lp [0, 1, 2, 7] (fun k : Nat => [(8, none, .int .i64 (k : Int))])
  (fun k W => k ≤ l.length ∧ W = w2 ∧ Upto (EOK d) l k) (fun k => l.length - k) 0 ⟨by omega, rfl, Upto.zero⟩ ?_
 rintro k W ⟨hk, rfl, hup⟩
 have hl2 := hl.below hb02
 refine rnT ?_
 refine CW.pk [0, 1, 2, 7, 8, 25] rfl ?_
 refine CW.condP rfl (fun hlt => ?_) (fun hge => ?_)
 ·obtain ⟨x, hx, hxm⟩ := getx (l := l) (k := k) (by omega)
  obtain ⟨ad, rfl⟩ := hl2.addr (by omega)
  obtain ⟨nx, cx, _, _, _, hnx⟩ := SE.get hl2 hx
  refine rnT ?_
  refine TW.ld rfl (cx 0 _ rfl) ?_
  refine rnT ?_
  refine TW.ld rfl (cx 0 _ rfl) ?_
  refine rnT ?_
  refine CW.pk [0, 1, 2, 7, 8, 43] rfl ?_
  refine CW.cond rfl (fun he => ?_) (fun hn2 => ?_)
  ·refine rnT ?_
   refine rt1 rfl ⟨hb02, by rw [dec_neg (fun h => by have h1 := (h.each x hxm).o1; have h2 := (h.each x hxm).o2; simp at he; omega)]⟩
  refine rnT ?_
  refine KW.rd (k + 1) ⟨by omega, rfl, hup.succ hx (by simp at hn2; exact ⟨by omega, by omega⟩)⟩
 ·have hok : WfE d l := ⟨hwd, hfew, hup.all (by omega)⟩
  have hl9 := hleg.below hb02
  have hbu : Blk W g2 4 (List.replicate l.length (.bool false)) := f2.blk
  have hful : ∀ i, i < l.length → (List.replicate l.length (Value.bool false))[i]? = some (.bool false) := fun i hi => by rw [List.getElem?_replicate, if_pos hi]
  refine rnT ?_
  refine CW.lp [1, 2, 7] (fun k : Nat => [(9, none, .int .i64 (k : Int))])
   (fun k W' => k ≤ 1 ∧ Below w.heap.size w W' ∧ (k = 0 → W' = W)) (fun k => 1 - k) 0 ⟨Nat.zero_le _, hb02, fun _ => rfl⟩ ?_
  rintro k2 W' ⟨hk2, hBW, hW0⟩
  refine rnT ?_
  refine CW.condP rfl (fun hlt2 => ?_) (fun hge2 => ?_)
  ·have hk0 : k2 = 0 := by omega
   subst hk0
   have hw := hW0 rfl
   subst hw
   refine rnT ?_
   refine TW.ldS rfl (hl9.at0) ?_
   refine TW.newVar rfl zc57 rfl sz57 rfl rfl ?_
   rintro g4 w4 f4
   refine rnT ?_
   have hg4 := f4.at_
   have hL4 := f4.blk
   have hbu4 := hbu.next f4.below
   have hgl := hbu.lt
   have hcn : w4.cell? (Addr.add ⟨g2, 0, none⟩ ((n : Int).toNat * 1)) = some (.bool false) := by
    rw [show (n : Int).toNat * 1 = n by omega]
    exact hbu4.fld (hful n (by omega))
   have hcm : w4.cell? (Addr.add ⟨g2, 0, none⟩ (((n : Int) + 1).toNat * 1)) = some (.bool false) := by
    rw [show ((n : Int) + 1).toNat * 1 = n + 1 by omega]
    exact hbu4.fld (hful (n + 1) (by omega))
   refine TW.ld rfl (hL4.fld rfl) ?_
   refine rnT ?_
   refine TW.ld rfl (hL4.fld rfl) ?_
   refine rnT ?_
   refine TW.ld rfl (hL4.fld rfl) ?_
   refine rnT ?_
   refine TW.ld rfl (hL4.fld rfl) ?_
   refine rnT ?_
   refine TW.ld rfl (hL4.fld rfl) ?_
   refine rnT ?_
   refine TW.ld rfl (hL4.fld rfl) ?_
   refine rnT ?_
   refine TW.ld rfl (hL4.fld rfl) ?_
   refine rnT ?_
   refine TW.ld rfl hcn ?_
   refine rnT ?_
   refine TW.ld rfl (hL4.fld rfl) ?_
   refine rnT ?_
   refine TW.ld rfl hcm ?_
   refine rnT ?_
   refine TW.ld rfl (hL4.fld rfl) ?_
   refine rnT ?_
   refine TW.ld rfl (hL4.fld rfl) ?_
   refine rnT ?_
   refine CW.pk [1, 2, 7, 9, 10, 106] rfl ?_
   refine CW.cond rfl (fun hbad3 => ?_) (fun hgood3 => ?_)
   ·exfalso
    simp at hbad3
    omega
   refine rnT ?_
   refine TW.ld rfl (hL4.fld rfl) ?_
   refine rnT ?_
   refine TW.storeFld rfl sz4 rfl rfl hbu4 (by simp; omega) rfl ?_
   rintro w5 hB5 hbut5 hsz5
   refine rnT ?_
   have hL5 := But.blk (k := g4) hbut5 hL4 (by omega)
   refine TW.ld rfl (hL5.fld rfl) ?_
   refine rnT ?_
   refine TW.storeFld rfl sz4 rfl rfl hB5 (by simp; omega) rfl ?_
   rintro w6 hB6 hbut6 hsz6
   refine rnT ?_
   have hBW4 := hBW.step f4.below
   have hBW6 : Below w.heap.size w w6 := hBW4.grown (But.trans hbut5 hbut6) hBW4.size (fun q hq => by cases hq; omega)
   refine KW.rd 1 ⟨Nat.le_refl _, hBW6, fun h => absurd h (by decide)⟩ (hm := by decide)
  ·refine rnT ?_
   refine rt1 rfl ⟨hBW, by rw [dec_pos hok]⟩
end Go.Proofs.YtnjknkgomhmlfaaGreatDoor
