/- Texts joined: Ord Tim Pos. -/
import Derived.Laws.Small
set_option linter.unusedSimpArgs false
set_option linter.unusedVariables false

/- Orders of units: plain. -/
namespace Go.Ord

abbrev Dist := List (List Int)
def at2 (d : Dist) (i j : Nat) : Int := (d.getD i []).getD j (-1)

structure WfD (d : Dist) : Prop where
  few : d.length ≤ 12
  row : ∀ (i : Nat) (r : List Int), d[i]? = some r → r.length = d.length
  diag : ∀ i, i < d.length → at2 d i i = 0
  rng : ∀ i j, i < d.length → j < d.length → -1 ≤ at2 d i j ∧ at2 d i j ≤ 1000000
  tri : ∀ i k j, i < d.length → k < d.length → j < d.length → at2 d i k ≠ -1 → at2 d k j ≠ -1 → at2 d i j ≠ -1 ∧ at2 d i j ≤ at2 d i k + at2 d k j

/-- What happens without anything between. -/
structure U where
  low : Int
  high : Int
  span : Int
  entry : Nat
  exit : Nat
structure UOK (d : Dist) (u : U) : Prop where
  e1 : u.entry < d.length
  e2 : u.exit < d.length
  way : at2 d u.entry u.exit ≠ -1
  long : at2 d u.entry u.exit ≤ u.span

abbrev St := Option Nat × Int
def far (d : Dist) : Option Nat → U → Int
  | none, _ => 0
  | some x, u => at2 d x u.entry
def CanB (d : Dist) (s : St) (u : U) : Prop := far d s.1 u ≠ -1 ∧ s.2 + far d s.1 u ≤ u.high
def beg (d : Dist) (s : St) (u : U) : Int := max u.low (s.2 + far d s.1 u)
def nxt (d : Dist) (s : St) (u : U) : St := (some u.exit, beg d s u + u.span)
def Run (d : Dist) : St → List U → Prop
  | _, [] => True
  | s, u :: us => CanB d s u ∧ Run d (nxt d s u) us
def fin (d : Dist) : St → List U → St
  | s, [] => s
  | s, u :: us => fin d (nxt d s u) us
def SOK (d : Dist) (s : St) : Prop := ∀ x, s.1 = some x → x < d.length

variable {d : Dist}

theorem Run.append {s : St} {a b : List U} : Run d s (a ++ b) ↔ Run d s a ∧ Run d (fin d s a) b := by
  induction a generalizing s with
  | nil => simp [Run, fin]
  | cons u a ih => simp only [List.cons_append, Run, fin, ih, and_assoc]
theorem fin_append {s : St} {a b : List U} : fin d s (a ++ b) = fin d (fin d s a) b := by
  induction a generalizing s with
  | nil => rfl
  | cons u a ih => simp only [List.cons_append, fin, ih]

/-- s is no worse than s'. -/
def Better (d : Dist) (s s' : St) : Prop := ∀ u, UOK d u → far d s'.1 u ≠ -1 → far d s.1 u ≠ -1 ∧ s.2 + far d s.1 u ≤ s'.2 + far d s'.1 u

theorem Better.can {s s' : St} (h : Better d s s') {u : U} (hu : UOK d u) (hc : CanB d s' u) : CanB d s u := by
  obtain ⟨h1, h2⟩ := h u hu hc.1
  exact ⟨h1, Int.le_trans h2 hc.2⟩
theorem better_time {o : Option Nat} {t t' : Int} (h : t ≤ t') : Better d (o, t) (o, t') := fun u _ hf => ⟨hf, by show t + far d o u ≤ t' + far d o u; omega⟩
theorem Better.nxt {s s' : St} (h : Better d s s') {u : U} (hu : UOK d u) (hc : CanB d s' u) : Better d (Ord.nxt d s u) (Ord.nxt d s' u) := by
  refine better_time ?_
  obtain ⟨_, h2⟩ := h u hu hc.1
  unfold beg
  omega
theorem Better.run {s s' : St} (h : Better d s s') : ∀ {us : List U}, (∀ u ∈ us, UOK d u) → Run d s' us → Run d s us
  | [], _, _ => trivial
  | u :: us, hu, hr => ⟨h.can (hu u (by simp)) hr.1, (h.nxt (hu u (by simp)) hr.1).run (fun x hx => hu x (by simp [hx])) hr.2⟩

theorem at2_nonneg (hd : WfD d) {i j : Nat} (hi : i < d.length) (hj : j < d.length) (h : at2 d i j ≠ -1) : 0 ≤ at2 d i j := by
  have := (hd.rng i j hi hj).1
  omega
theorem span_nonneg (hd : WfD d) {u : U} (hu : UOK d u) : 0 ≤ u.span := by
  have := at2_nonneg hd hu.e1 hu.e2 hu.way
  have := hu.long
  omega
/-- Going over a is no better. -/
theorem better_via (hd : WfD d) {s : St} (hs : SOK d s) {a : U} (ha : UOK d a) (hc : CanB d s a) : Better d s (nxt d s a) := by
  intro u hu hf
  have hf' : at2 d a.exit u.entry ≠ -1 := hf
  have hsp := span_nonneg hd ha
  have h0 := at2_nonneg hd ha.e2 hu.e1 hf'
  have hlow : s.2 + far d s.1 a ≤ beg d s a := by unfold beg; omega
  show far d s.1 u ≠ -1 ∧ s.2 + far d s.1 u ≤ (beg d s a + a.span) + at2 d a.exit u.entry
  obtain ⟨o, t⟩ := s
  cases o with
  | none =>
    simp only [far] at *
    exact ⟨by decide, by omega⟩
  | some x =>
    have hx : x < d.length := hs x rfl
    have h1 : at2 d x a.entry ≠ -1 := hc.1
    obtain ⟨q1, q2⟩ := hd.tri x a.entry a.exit hx ha.e1 ha.e2 h1 ha.way
    obtain ⟨r1, r2⟩ := hd.tri x a.exit u.entry hx ha.e2 hu.e1 q1 hf'
    have := ha.long
    simp only [far] at *
    exact ⟨r1, by omega⟩
theorem sok_nxt {s : St} {a : U} (ha : UOK d a) : SOK d (nxt d s a) := fun x hx => by
  simp only [nxt, Option.some.injEq] at hx
  rw [← hx]; exact ha.e2
theorem sok_fin {s : St} (hs : SOK d s) : ∀ {us : List U}, (∀ u ∈ us, UOK d u) → SOK d (fin d s us)
  | [], _ => hs
  | u :: us, hu => sok_fin (sok_nxt (hu u (by simp))) (fun x hx => hu x (by simp [hx]))
/-- Whatever comes later could come now. -/
theorem run_can (hd : WfD d) : ∀ {pre : List U} {s : St} {u : U} {post : List U}, SOK d s → (∀ x ∈ pre ++ u :: post, UOK d x) → Run d s (pre ++ u :: post) → CanB d s u
  | [], s, u, post, _, _, hr => hr.1
  | a :: pre, s, u, post, hs, hu, hr => by
    have ha := hu a (by simp)
    have h1 := run_can hd (pre := pre) (sok_nxt ha) (fun x hx => hu x (by simp at hx ⊢; exact .inr hx)) hr.2
    exact (better_via hd hs ha hr.1).can (hu u (by simp)) h1
/-- .. and can be left out. -/
theorem run_drop (hd : WfD d) : ∀ {pre : List U} {s : St} {u : U} {post : List U}, SOK d s → (∀ x ∈ pre ++ u :: post, UOK d x) → Run d s (pre ++ u :: post) → Run d s (pre ++ post)
  | [], s, u, post, hs, hu, hr => (better_via hd hs (hu u (by simp)) hr.1).run (fun x hx => hu x (by simp at hx ⊢; exact .inr hx)) hr.2
  | a :: pre, s, u, post, hs, hu, hr => ⟨hr.1, run_drop hd (sok_nxt (hu a (by simp))) (fun x hx => hu x (by simp at hx ⊢; exact .inr hx)) hr.2⟩
/-- u can be before v, at the earliest. -/
def Fits (d : Dist) (u v : U) : Prop := CanB d (some u.exit, u.low + u.span) v
theorem run_fits (hd : WfD d) {s : St} {pre mid post : List U} {u v : U} (hs : SOK d s) (hu : ∀ x ∈ pre ++ u :: (mid ++ v :: post), UOK d x) (hr : Run d s (pre ++ u :: (mid ++ v :: post))) : Fits d u v := by
  rw [Run.append] at hr
  have hs' := sok_fin hs (us := pre) (fun x hx => hu x (by simp [hx]))
  have h1 := run_can hd (pre := mid) (sok_nxt (s := fin d s pre) (hu u (by simp))) (fun x hx => hu x (by simp at hx ⊢; exact .inr (.inr hx))) hr.2.2
  refine (better_time (o := some u.exit) (t := u.low + u.span) (t' := beg d (fin d s pre) u + u.span) ?_).can (hu v (by simp)) h1
  unfold beg
  omega
/-- A unit that happens at once where one is, and takes no time. -/
def Free (d : Dist) (s : St) (u : U) : Prop := s.1 = some u.entry ∧ u.exit = u.entry ∧ u.span = 0 ∧ CanB d s u ∧ beg d s u = s.2
theorem free_nxt {s : St} {u : U} (h : Free d s u) : nxt d s u = s := by
  obtain ⟨h1, h2, h3, _, h5⟩ := h
  unfold nxt
  rw [h2, h3, h5, ← h1]
  obtain ⟨o, t⟩ := s
  simp
theorem free_first (hd : WfD d) {pre post : List U} {s : St} {u : U} (hs : SOK d s) (hu : ∀ x ∈ pre ++ u :: post, UOK d x) (hf : Free d s u) (hr : Run d s (pre ++ u :: post)) : Run d s (u :: (pre ++ post)) :=
  ⟨hf.2.2.2.1, by rw [free_nxt hf]; exact run_drop hd hs hu hr⟩

/-- The units can happen in some order. -/
def Feas (d : Dist) (s : St) (us : List U) : Prop := ∃ l, l.Perm us ∧ Run d s l
theorem Feas.can (hd : WfD d) {s : St} {us : List U} (hs : SOK d s) (hu : ∀ x ∈ us, UOK d x) (h : Feas d s us) {u : U} (hm : u ∈ us) : CanB d s u := by
  obtain ⟨l, hp, hr⟩ := h
  obtain ⟨pre, post, rfl⟩ := List.append_of_mem (hp.mem_iff.2 hm)
  exact run_can hd hs (fun x hx => hu x (hp.mem_iff.1 hx)) hr
theorem Feas.better {s s' : St} {us : List U} (hb : Better d s s') (hu : ∀ x ∈ us, UOK d x) (h : Feas d s' us) : Feas d s us := by
  obtain ⟨l, hp, hr⟩ := h
  exact ⟨l, hp, hb.run (fun x hx => hu x (hp.mem_iff.1 hx)) hr⟩

/-! ### Sets of units as masks -/

/-- The units that are not in a set. -/
def left (us : List U) (m : Nat) : List U := (List.range us.length).filterMap fun i => if m.testBit i then none else us[i]?
theorem left_zero (us : List U) : left us 0 = us := by
  unfold left
  have : ∀ k, k ≤ us.length → (List.range k).filterMap (fun i => if (0 : Nat).testBit i then none else us[i]?) = us.take k := by
    intro k
    induction k with
    | zero => intro _; rfl
    | succ k ih =>
      intro hk
      rw [List.range_succ, List.filterMap_append, ih (by omega), List.take_add_one]
      simp [List.getElem?_eq_getElem (show k < us.length by omega)]
  rw [this us.length (Nat.le_refl _), List.take_length]
theorem mem_left {us : List U} {m : Nat} {u : U} : u ∈ left us m ↔ ∃ i, m.testBit i = false ∧ us[i]? = some u := by
  unfold left
  rw [List.mem_filterMap]
  constructor
  · rintro ⟨i, _, h⟩
    split at h
    · cases h
    · rename_i hm; exact ⟨i, by simpa using hm, h⟩
  · rintro ⟨i, hm, h⟩
    exact ⟨i, by simpa using (List.getElem?_eq_some_iff.1 h).1, by simp [hm, h]⟩
theorem left_cons {us : List U} {m i : Nat} {u : U} (hm : m.testBit i = false) (hu : us[i]? = some u) : (left us m).Perm (u :: left us (m ||| 1 <<< i)) := by
  have hi := (List.getElem?_eq_some_iff.1 hu).1
  have key : ∀ k, k ≤ us.length → ((List.range k).filterMap fun j => if m.testBit j then none else us[j]?).Perm ((if i < k then [u] else []) ++ (List.range k).filterMap fun j => if (m ||| 1 <<< i).testBit j then none else us[j]?) := by
    intro k
    induction k with
    | zero => intro _; simp
    | succ k ih =>
      intro hk
      rw [List.range_succ, List.filterMap_append, List.filterMap_append]
      have ih := ih (by omega)
      have hbit : (m ||| 1 <<< i).testBit k = (m.testBit k || decide (i = k)) := by
        rw [Nat.testBit_or, Nat.one_shiftLeft, Nat.testBit_two_pow]
      by_cases hik : i = k
      · subst hik
        rw [if_neg (by omega)] at ih
        rw [if_pos (by omega)]
        simp only [List.filterMap_cons, List.filterMap_nil, hbit, hm, hu]
        simp
        refine (ih.append_right [u]).trans ?_
        simp
      · have e1 : (if i < k + 1 then [u] else []) = (if i < k then [u] else [] : List U) := by
          by_cases h : i < k
          · rw [if_pos h, if_pos (by omega)]
          · rw [if_neg h, if_neg (by omega)]
        have e2 : (m ||| 1 <<< i).testBit k = m.testBit k := by rw [hbit]; simp [hik]
        rw [e1, ← List.append_assoc]
        refine (ih.append_right _).trans ?_
        simp only [List.filterMap_cons, List.filterMap_nil, e2]
        exact List.Perm.refl _
  have := key us.length (Nat.le_refl _)
  rw [if_pos hi] at this
  exact this

/-- Which have to be before which. -/
def FirstOK (d : Dist) (us : List U) (F : Nat → Nat) : Prop := ∀ (i j : Nat) (u v : U), us[i]? = some u → us[j]? = some v → ((F i).testBit j = true ↔ i ≠ j ∧ ¬ Fits d u v)

theorem feas_all (hd : WfD d) {us : List U} (hu : ∀ u ∈ us, UOK d u) {s : St} (hs : SOK d s) {m : Nat} (h : Feas d s (left us m)) {i : Nat} {u : U} (hm : m.testBit i = false) (hi : us[i]? = some u) : CanB d s u :=
  h.can hd hs (fun x hx => by obtain ⟨j, _, hj⟩ := mem_left.1 hx; exact hu x (List.mem_of_getElem? hj)) (mem_left.2 ⟨i, hm, hi⟩)
/-- A free unit may come first. -/
theorem feas_free (hd : WfD d) {us : List U} (hu : ∀ u ∈ us, UOK d u) {s : St} (hs : SOK d s) {m : Nat} (h : Feas d s (left us m)) {i : Nat} {u : U} (hm : m.testBit i = false) (hi : us[i]? = some u) (hf : Free d s u) : Feas d (nxt d s u) (left us (m ||| 1 <<< i)) := by
  obtain ⟨l, hp, hr⟩ := h
  have hul : u ∈ l := hp.mem_iff.2 (mem_left.2 ⟨i, hm, hi⟩)
  obtain ⟨pre, post, rfl⟩ := List.append_of_mem hul
  have h1 := free_first hd hs (fun x hx => by obtain ⟨j, _, hj⟩ := mem_left.1 (hp.mem_iff.1 hx); exact hu x (List.mem_of_getElem? hj)) hf hr
  refine ⟨pre ++ post, ?_, h1.2⟩
  have := (List.perm_middle.symm.trans hp).trans (left_cons hm hi)
  exact List.Perm.cons_inv this
/-- One of those before which nothing has to be comes first. -/
theorem feas_head (hd : WfD d) {us : List U} (hu : ∀ u ∈ us, UOK d u) {F : Nat → Nat} (hF : FirstOK d us F) {s : St} (hs : SOK d s) {m : Nat} (h : Feas d s (left us m)) (hne : ∃ i, i < us.length ∧ m.testBit i = false) :
    ∃ i u, us[i]? = some u ∧ m.testBit i = false ∧ (∀ j, j < us.length → (F i).testBit j = true → m.testBit j = true) ∧ Feas d (nxt d s u) (left us (m ||| 1 <<< i)) := by
  obtain ⟨l, hp, hr⟩ := h
  have hall : ∀ x ∈ l, UOK d x := fun x hx => by obtain ⟨j, _, hj⟩ := mem_left.1 (hp.mem_iff.1 hx); exact hu x (List.mem_of_getElem? hj)
  cases l with
  | nil =>
    obtain ⟨i, hi, hm⟩ := hne
    have : us[i] ∈ left us m := mem_left.2 ⟨i, hm, List.getElem?_eq_getElem hi⟩
    have := hp.mem_iff.2 this
    cases this
  | cons u l =>
    obtain ⟨i, hm, hi⟩ := mem_left.1 (hp.mem_iff.1 (List.mem_cons_self ..))
    have hpl : l.Perm (left us (m ||| 1 <<< i)) := List.Perm.cons_inv (hp.trans (left_cons hm hi))
    refine ⟨i, u, hi, hm, fun j hj hb => ?_, l, hpl, hr.2⟩
    cases hmj : m.testBit j with
    | true => rfl
    | false =>
      exfalso
      have hv : us[j]? = some us[j] := List.getElem?_eq_getElem hj
      obtain ⟨hij, hnf⟩ := (hF i j u us[j] hi hv).1 hb
      have hvl : us[j] ∈ l := hpl.mem_iff.2 (mem_left.2 ⟨j, by rw [Nat.testBit_or, Nat.one_shiftLeft, Nat.testBit_two_pow, hmj]; simp [hij], hv⟩)
      obtain ⟨pre, post, rfl⟩ := List.append_of_mem hvl
      exact hnf (run_fits hd (pre := []) (mid := pre) (post := post) hs (by simpa using hall) (by simpa using hr))
/-- Two units that fit in neither order. -/
theorem feas_pair (hd : WfD d) {us : List U} (hu : ∀ u ∈ us, UOK d u) {s : St} (hs : SOK d s) (h : Feas d s us) {i j : Nat} {u v : U} (hi : us[i]? = some u) (hj : us[j]? = some v) (hij : i ≠ j) : Fits d u v ∨ Fits d v u := by
  obtain ⟨l, hp, hr⟩ := h
  have hall : ∀ x ∈ l, UOK d x := fun x hx => hu x (hp.mem_iff.1 hx)
  have h2 : ∃ pre mid post, l = pre ++ u :: (mid ++ v :: post) ∨ l = pre ++ v :: (mid ++ u :: post) := by
    have e1 := left_cons (us := us) (m := 0) (i := i) (by simp) hi
    rw [left_zero] at e1
    have e2 := left_cons (us := us) (m := 0 ||| 1 <<< i) (i := j) (by rw [Nat.testBit_or, Nat.one_shiftLeft, Nat.testBit_two_pow]; simp [hij]) hj
    have hl := hp.trans (e1.trans (e2.cons u))
    have hul : u ∈ l := hl.mem_iff.2 (by simp)
    obtain ⟨pre, post, rfl⟩ := List.append_of_mem hul
    have h3 : (pre ++ post).Perm (v :: left us (0 ||| 1 <<< i ||| 1 <<< j)) := List.Perm.cons_inv (List.perm_middle.symm.trans hl)
    have hv : v ∈ pre ++ post := h3.mem_iff.2 (by simp)
    rcases List.mem_append.1 hv with h | h
    · obtain ⟨a, b, rfl⟩ := List.append_of_mem h
      exact ⟨a, b, post, .inr (by simp)⟩
    · obtain ⟨a, b, rfl⟩ := List.append_of_mem h
      exact ⟨pre, a, b, .inl (by simp)⟩
  obtain ⟨pre, mid, post, h | h⟩ := h2
  · subst h; exact .inl (run_fits hd hs hall hr)
  · subst h; exact .inr (run_fits hd hs hall hr)
end Go.Ord

/- Times of events and orders of units: plain. -/
namespace Go.Ord

variable {d : Dist}

/-- A unit that begins at b. -/
abbrev UB := U × Int
/-- a is over before c begins -/
def Bef (d : Dist) (a c : UB) : Prop := at2 d a.1.exit c.1.entry ≠ -1 ∧ a.2 + a.1.span + at2 d a.1.exit c.1.entry ≤ c.2
theorem Bef.trans (hd : WfD d) {a b c : UB} (ha : UOK d a.1) (hb : UOK d b.1) (hc : UOK d c.1) (h1 : Bef d a b) (h2 : Bef d b c) : Bef d a c := by
  obtain ⟨p1, p2⟩ := hd.tri _ _ _ ha.e2 hb.e1 hb.e2 h1.1 hb.way
  obtain ⟨q1, q2⟩ := hd.tri _ _ _ ha.e2 hb.e2 hc.e1 p1 h2.1
  refine ⟨q1, ?_⟩
  have := h1.2
  have := h2.2
  have := hb.long
  omega

/-- From times to an order. -/
theorem run_of_times : ∀ {l : List UB} {s : St}, (∀ x ∈ l, x.1.low ≤ x.2 ∧ x.2 ≤ x.1.high) → l.Pairwise (Bef d) → (∀ x, l.head? = some x → far d s.1 x.1 ≠ -1 ∧ s.2 + far d s.1 x.1 ≤ x.2) → Run d s (l.map (·.1))
  | [], _, _, _, _ => trivial
  | a :: l, s, hw, hp, hh => by
    obtain ⟨h1, h2⟩ := hh a rfl
    obtain ⟨w1, w2⟩ := hw a (by simp)
    rw [List.pairwise_cons] at hp
    refine ⟨⟨h1, by show s.2 + far d s.1 a.1 ≤ a.1.high; omega⟩, run_of_times (fun x hx => hw x (by simp [hx])) hp.2 fun x hx => ?_⟩
    have hb := hp.1 x (by cases l with | nil => cases hx | cons y l => simp at hx; subst hx; simp)
    refine ⟨hb.1, ?_⟩
    show beg d s a.1 + a.1.span + at2 d a.1.exit x.1.entry ≤ x.2
    have := hb.2
    have : beg d s a.1 ≤ a.2 := by unfold beg; omega
    omega

open Classical in
/-- Units with begins, each two of them one after the other: they can be put in order. -/
theorem feas_of_times (hd : WfD d) {l : List UB} (hu : ∀ x ∈ l, UOK d x.1) (hw : ∀ x ∈ l, 0 ≤ x.2 ∧ x.1.low ≤ x.2 ∧ x.2 ≤ x.1.high) (hp : l.Pairwise fun a b => Bef d a b ∨ Bef d b a) : Feas d (none, 0) (l.map (·.1)) := by
  have key : ∀ l : List UB, (∀ x ∈ l, UOK d x.1) → l.Pairwise (fun a b => Bef d a b ∨ Bef d b a) → ∃ l' : List UB, l'.Perm l ∧ l'.Pairwise (Bef d) := by
    intro l
    induction l with
    | nil => intro _ _; exact ⟨[], List.Perm.refl _, List.Pairwise.nil⟩
    | cons a l ih =>
      intro hu hp
      rw [List.pairwise_cons] at hp
      obtain ⟨l', hp', hs'⟩ := ih (fun x hx => hu x (by simp [hx])) hp.2
      -- a goes in behind all that are before it
      refine ⟨l'.takeWhile (fun x => decide (Bef d x a)) ++ a :: l'.dropWhile (fun x => decide (Bef d x a)), ?_, ?_⟩
      · refine List.perm_middle.trans ?_
        rw [List.takeWhile_append_dropWhile]
        exact hp'.cons a
      · have hsplit : l'.takeWhile (fun x => decide (Bef d x a)) ++ l'.dropWhile (fun x => decide (Bef d x a)) = l' := List.takeWhile_append_dropWhile
        have hall : ∀ x ∈ l', UOK d x.1 := fun x hx => hu x (by simp [hp'.mem_iff.1 hx])
        have hor : ∀ x ∈ l', Bef d x a ∨ Bef d a x := fun x hx => (hp.1 x (hp'.mem_iff.1 hx)).symm
        rw [← hsplit, List.pairwise_append] at hs'
        obtain ⟨q1, q2, q3⟩ := hs'
        have hT : ∀ x ∈ l'.takeWhile (fun x => decide (Bef d x a)), Bef d x a := by
          have : ∀ (m : List UB), ∀ x ∈ m.takeWhile (fun x => decide (Bef d x a)), Bef d x a := by
            intro m
            induction m with
            | nil => simp
            | cons y m ihm =>
              intro x hx
              rw [List.takeWhile_cons] at hx
              split at hx
              · rename_i hy
                rcases List.mem_cons.1 hx with rfl | hx
                · exact of_decide_eq_true hy
                · exact ihm x hx
              · cases hx
          exact this l'
        have hD : ∀ x ∈ l'.dropWhile (fun x => decide (Bef d x a)), Bef d a x := by
          cases hDc : l'.dropWhile (fun x => decide (Bef d x a)) with
          | nil => simp
          | cons y m =>
            have hym : ∀ x ∈ y :: m, x ∈ l' := fun x hx => by rw [← hsplit, hDc]; simp at hx ⊢; exact .inr hx
            have hy : ¬ Bef d y a := by
              have := List.head?_dropWhile_not (fun x => decide (Bef d x a)) l'
              rw [hDc] at this
              simpa using this
            have hay : Bef d a y := (hor y (hym y (by simp))).resolve_left hy
            rw [hDc, List.pairwise_cons] at q2
            intro x hx
            rcases List.mem_cons.1 hx with rfl | hx
            · exact hay
            · exact hay.trans hd (hu a (by simp)) (hall y (hym y (by simp))) (hall x (hym x (by simp [hx]))) (q2.1 x hx)
        rw [List.pairwise_append]
        refine ⟨q1, List.pairwise_cons.2 ⟨hD, q2⟩, fun x hx y hy => ?_⟩
        rcases List.mem_cons.1 hy with rfl | hy
        · exact hT x hx
        · exact q3 x hx y hy
  obtain ⟨l', hp', hs'⟩ := key l hu hp
  refine ⟨l'.map (·.1), hp'.map _, run_of_times (fun x hx => (hw x (hp'.mem_iff.1 hx)).2) hs' fun x hx => ?_⟩
  have hm : x ∈ l := hp'.mem_iff.1 (by cases l' with | nil => cases hx | cons y m => simp at hx; subst hx; simp)
  refine ⟨by simp [far], ?_⟩
  have := (hw x hm).1
  simp [far]
  omega

/-- From an order to times. -/
theorem times_of_run (hd : WfD d) : ∀ {us : List U} {s : St}, SOK d s → 0 ≤ s.2 → (∀ u ∈ us, UOK d u) → (∀ u ∈ us, u.low ≤ u.high) → Run d s us →
    ∃ l : List UB, l.map (·.1) = us ∧ (∀ x ∈ l, 0 ≤ x.2 ∧ x.1.low ≤ x.2 ∧ x.2 ≤ x.1.high ∧ far d s.1 x.1 ≠ -1 ∧ s.2 + far d s.1 x.1 ≤ x.2) ∧ l.Pairwise (Bef d)
  | [], s, _, _, _, _, _ => ⟨[], rfl, by simp, List.Pairwise.nil⟩
  | u :: us, s, hs, h0, hu, hw, hr => by
    have hok := hu u (by simp)
    have hsp := span_nonneg hd hok
    have hfar : 0 ≤ far d s.1 u := by
      have h1 := hr.1.1
      obtain ⟨o, t⟩ := s
      cases o with
      | none => simp [far]
      | some x => exact at2_nonneg hd (hs x rfl) hok.e1 h1
    have hbeg : s.2 + far d s.1 u ≤ beg d s u := by unfold beg; omega
    obtain ⟨l, h1, h2, h3⟩ := times_of_run hd (us := us) (s := nxt d s u) (sok_nxt hok) (by show 0 ≤ beg d s u + u.span; omega) (fun x hx => hu x (by simp [hx])) (fun x hx => hw x (by simp [hx])) hr.2
    refine ⟨(u, beg d s u) :: l, by simp [h1], ?_, List.pairwise_cons.2 ⟨fun x hx => ?_, h3⟩⟩
    · intro x hx
      rcases List.mem_cons.1 hx with rfl | hx
      · have h4 := hr.1.2
        have h5 := hw u (by simp)
        refine ⟨by show 0 ≤ beg d s u; omega, by show u.low ≤ beg d s u; unfold beg; omega, by show beg d s u ≤ u.high; unfold beg; omega, hr.1.1, hbeg⟩
      · obtain ⟨a1, a2, a3, a4, a5⟩ := h2 x hx
        have hxu : UOK d x.1 := hu x.1 (by rw [← h1]; simp; exact .inr ⟨x.2, hx⟩)
        obtain ⟨b1, b2⟩ := better_via hd hs hok hr.1 x.1 hxu a4
        exact ⟨a1, a2, a3, b1, by omega⟩
    · obtain ⟨a1, a2, a3, a4, a5⟩ := h2 x hx
      exact ⟨a4, a5⟩
theorem times_of_feas (hd : WfD d) {us : List U} (hu : ∀ u ∈ us, UOK d u) (hw : ∀ u ∈ us, u.low ≤ u.high) (h : Feas d (none, 0) us) :
    ∃ l : List UB, (l.map (·.1)).Perm us ∧ (∀ x ∈ l, 0 ≤ x.2 ∧ x.1.low ≤ x.2 ∧ x.2 ≤ x.1.high) ∧ l.Pairwise (Bef d) := by
  obtain ⟨o, hp, hr⟩ := h
  obtain ⟨l, h1, h2, h3⟩ := times_of_run hd (us := o) (s := (none, 0)) (fun x hx => by cases hx) (Int.le_refl _) (fun u hu' => hu u (hp.mem_iff.1 hu')) (fun u hu' => hw u (hp.mem_iff.1 hu')) hr
  exact ⟨l, by rw [h1]; exact hp, fun x hx => ⟨(h2 x hx).1, (h2 x hx).2.1, (h2 x hx).2.2.1⟩, h3⟩
end Go.Ord

/- Events without legs: possible times; plain. -/
namespace Go.Ord

variable {d : Dist}

structure Ev where
  office : Int
  low : Int
  high : Int
  needs : List Int
def lowC (e : Ev) : Int := min (max e.low 0) 1000001
def highC (e : Ev) : Int := max (min e.high 1000000) (-1)
def uOf (e : Ev) : U := ⟨lowC e, highC e, 0, e.office.toNat, e.office.toNat⟩
structure EOK (d : Dist) (e : Ev) : Prop where
  o1 : 0 ≤ e.office
  o2 : e.office < d.length
theorem uok_of (hd : WfD d) {e : Ev} (h : EOK d e) : UOK d (uOf e) := by
  have : e.office.toNat < d.length := by have := h.o1; have := h.o2; omega
  exact ⟨this, this, by rw [show at2 d (uOf e).entry (uOf e).exit = at2 d e.office.toNat e.office.toNat from rfl, hd.diag _ this]; decide, by rw [show at2 d (uOf e).entry (uOf e).exit = at2 d e.office.toNat e.office.toNat from rfl, hd.diag _ this]; exact Int.le_refl _⟩

/-- an event and its time -/
abbrev ET := Ev × Int
def Aft (d : Dist) (a b : ET) : Prop := at2 d a.1.office.toNat b.1.office.toNat ≠ -1 ∧ at2 d a.1.office.toNat b.1.office.toNat ≤ b.2 - a.2
/-- Possible times, for events without legs. -/
structure HoldsN (d : Dist) (l : List ET) : Prop where
  each : ∀ x ∈ l, 0 ≤ x.2 ∧ x.2 ≤ 1000000 ∧ x.1.low ≤ x.2 ∧ x.2 ≤ x.1.high
  two : l.Pairwise fun a b => Aft d a b ∨ Aft d b a
/-- The events are possible. -/
def Poss (d : Dist) (evs : List Ev) : Prop := ∃ l : List ET, l.map (·.1) = evs ∧ HoldsN d l

theorem pairwise_or {α : Type} {R : α → α → Prop} : ∀ {l l' : List α}, l.Perm l' → l.Pairwise (fun a b => R a b ∨ R b a) → l'.Pairwise (fun a b => R a b ∨ R b a) := fun hp h => hp.pairwise h (fun h => h.symm)

theorem feas_iff (hd : WfD d) {evs : List Ev} (he : ∀ e ∈ evs, EOK d e) {us : List U} (hp : us.Perm (evs.map uOf)) : Poss d evs ↔ (∀ u ∈ us, u.low ≤ u.high) ∧ Feas d (none, 0) us := by
  constructor
  · rintro ⟨l, rfl, h⟩
    have hwin : ∀ x ∈ l, (uOf x.1).low ≤ x.2 ∧ x.2 ≤ (uOf x.1).high := by
      intro x hx
      obtain ⟨h1, h2, h3, h4⟩ := h.each x hx
      show lowC x.1 ≤ x.2 ∧ x.2 ≤ highC x.1
      unfold lowC highC
      omega
    refine ⟨fun u hu => ?_, ?_⟩
    · have := hp.mem_iff.1 hu
      rw [List.map_map, List.mem_map] at this
      obtain ⟨x, hx, rfl⟩ := this
      have := hwin x hx
      show (uOf x.1).low ≤ (uOf x.1).high
      omega
    · have hf := feas_of_times hd (l := l.map fun x => (uOf x.1, x.2)) ?_ ?_ ?_
      · obtain ⟨o, h1, h2⟩ := hf
        refine ⟨o, ?_, h2⟩
        refine h1.trans ?_
        rw [List.map_map]
        refine List.Perm.trans ?_ hp.symm
        rw [List.map_map]
        exact List.Perm.refl _
      · intro x hx
        rw [List.mem_map] at hx
        obtain ⟨y, hy, rfl⟩ := hx
        exact uok_of hd (he _ (List.mem_map.2 ⟨y, hy, rfl⟩))
      · intro x hx
        rw [List.mem_map] at hx
        obtain ⟨y, hy, rfl⟩ := hx
        exact ⟨(h.each y hy).1, hwin y hy⟩
      · rw [List.pairwise_map]
        refine h.two.imp fun {a b} hab => ?_
        rcases hab with q | q
        · exact .inl ⟨q.1, by show a.2 + 0 + at2 d a.1.office.toNat b.1.office.toNat ≤ b.2; have := q.2; omega⟩
        · exact .inr ⟨q.1, by show b.2 + 0 + at2 d b.1.office.toNat a.1.office.toNat ≤ a.2; have := q.2; omega⟩
  · rintro ⟨hw, hf⟩
    have hu : ∀ u ∈ us, UOK d u := fun u hu => by
      have := hp.mem_iff.1 hu
      rw [List.mem_map] at this
      obtain ⟨e, hx, rfl⟩ := this
      exact uok_of hd (he e hx)
    obtain ⟨l, h1, h2, h3⟩ := times_of_feas hd hu hw hf
    -- the events again
    have key : ∀ (evs : List Ev) (l : List UB), (l.map (·.1)).Perm (evs.map uOf) → l.Pairwise (fun a b => Bef d a b ∨ Bef d b a) → ∃ m : List ET, m.map (·.1) = evs ∧ (m.map fun x => (uOf x.1, x.2)).Perm l := by
      intro evs
      induction evs with
      | nil =>
        intro l hl _
        have : l = [] := by
          have := hl.length_eq
          simp at this
          exact this
        subst this
        exact ⟨[], rfl, List.Perm.refl _⟩
      | cons e evs ih =>
        intro l hl hpw
        have hm : uOf e ∈ l.map (·.1) := hl.mem_iff.2 (by simp)
        rw [List.mem_map] at hm
        obtain ⟨x, hx, hxe⟩ := hm
        obtain ⟨pre, post, rfl⟩ := List.append_of_mem hx
        have h4 : ((pre ++ post).map (·.1)).Perm (evs.map uOf) := by
          have q : ((pre ++ x :: post).map (·.1)).Perm (uOf e :: (pre ++ post).map (·.1)) := by
            rw [← hxe]
            exact (List.perm_middle (a := x) (l₁ := pre) (l₂ := post)).map (fun y : UB => y.1)
          have q2 : (uOf e :: (pre ++ post).map (·.1)).Perm (uOf e :: evs.map uOf) := q.symm.trans (by simpa using hl)
          exact List.Perm.cons_inv q2
        have hpw' : (x :: (pre ++ post)).Pairwise (fun a b => Bef d a b ∨ Bef d b a) := pairwise_or List.perm_middle hpw
        obtain ⟨m, hm1, hm2⟩ := ih (pre ++ post) h4 (List.pairwise_cons.1 hpw').2
        refine ⟨(e, x.2) :: m, by simp [hm1], ?_⟩
        refine List.Perm.trans ?_ List.perm_middle.symm
        have : (uOf e, x.2) = x := by rw [← hxe]
        rw [List.map_cons]
        show ((uOf e, x.2) :: _).Perm _
        rw [this]
        exact hm2.cons x
    have hor : l.Pairwise (fun a b => Bef d a b ∨ Bef d b a) := h3.imp fun h => .inl h
    obtain ⟨m, hm1, hm2⟩ := key evs l (h1.trans hp) hor
    refine ⟨m, hm1, fun x hx => ?_, ?_⟩
    · have hxl : (uOf x.1, x.2) ∈ l := hm2.mem_iff.1 (List.mem_map.2 ⟨x, hx, rfl⟩)
      obtain ⟨a1, a2, a3⟩ := h2 _ hxl
      have a2 : lowC x.1 ≤ x.2 := a2
      have a3 : x.2 ≤ highC x.1 := a3
      unfold lowC at a2
      unfold highC at a3
      have a1 : 0 ≤ x.2 := a1
      refine ⟨a1, by omega, by omega, by omega⟩
    · have hpm := pairwise_or hm2.symm hor
      rw [List.pairwise_map] at hpm
      refine hpm.imp fun {a b} hab => ?_
      rcases hab with q | q
      · refine .inl ⟨q.1, ?_⟩
        have : a.2 + 0 + at2 d a.1.office.toNat b.1.office.toNat ≤ b.2 := q.2
        omega
      · refine .inr ⟨q.1, ?_⟩
        have : b.2 + 0 + at2 d b.1.office.toNat a.1.office.toNat ≤ a.2 := q.2
        omega

/-- Fewer events, and in whatever order, stay possible. -/
theorem Poss.perm {evs evs' : List Ev} (h : Poss d evs) (hp : evs.Perm evs') : Poss d evs' := by
  obtain ⟨l, rfl, h1⟩ := h
  have key : ∀ (l : List ET) (evs' : List Ev), (l.map (·.1)).Perm evs' → ∃ l' : List ET, l'.Perm l ∧ l'.map (·.1) = evs' := by
    intro l evs'
    induction evs' generalizing l with
    | nil =>
      intro hl
      have : l = [] := by have := hl.length_eq; simp at this; exact this
      subst this
      exact ⟨[], List.Perm.refl _, rfl⟩
    | cons e evs' ih =>
      intro hl
      have hm : e ∈ l.map (·.1) := hl.mem_iff.2 (by simp)
      rw [List.mem_map] at hm
      obtain ⟨x, hx, rfl⟩ := hm
      obtain ⟨pre, post, rfl⟩ := List.append_of_mem hx
      have h4 : ((pre ++ post).map (·.1)).Perm evs' := by
        have q := (List.perm_middle (a := x) (l₁ := pre) (l₂ := post)).map (fun y : ET => y.1)
        exact List.Perm.cons_inv (a := x.1) (by simpa using q.symm.trans hl)
      obtain ⟨l', h5, h6⟩ := ih (pre ++ post) h4
      exact ⟨x :: l', (h5.cons x).trans List.perm_middle.symm, by simp [h6]⟩
  obtain ⟨l', h2, h3⟩ := key l evs' hp
  exact ⟨l', h3, fun x hx => h1.each x (h2.mem_iff.1 hx), pairwise_or h2.symm h1.two⟩
theorem Poss.sub {evs evs' : List Ev} (h : Poss d evs) (hs : evs'.Sublist evs) : Poss d evs' := by
  obtain ⟨l, rfl, h1⟩ := h
  obtain ⟨l', h2, rfl⟩ := List.sublist_map_iff.1 hs
  exact ⟨l', rfl, fun x hx => h1.each x (h2.subset hx), h1.two.sublist h2⟩
end Go.Ord
