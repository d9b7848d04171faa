/- Any order: soundness of the lexical walk, over a stretch of a region; regions part by part. -/
import Derived.Test.YthldjchogdefjaaDoorPr
namespace Go.PF
open Go.RowKit

theorem dlook_ddrop : ∀ (D : DE) (s : List Nat) (i : Nat), dlook (ddrop D s) i = if hasN s i = true then none else dlook D i
  | [], s, i => by simp [ddrop, dlook]
  | (j, c, e) :: D, s, i => by
    have ih := dlook_ddrop D s i
    simp only [ddrop]
    cases hj : hasN s j with
    | true =>
      simp only [ih, dlook]
      by_cases hji : j = i
      · subst hji; rw [beq_self]; simp [hj]
      · rw [beq_ne hji]
    | false =>
      simp only [dlook]
      by_cases hji : j = i
      · subst hji; rw [beq_self]; simp [hj]
      · rw [beq_ne hji]; exact ih

theorem hasN_iff {s : List Nat} {i : Nat} : hasN s i = true ↔ i ∈ s := by
  induction s with
  | nil => simp [hasN]
  | cons j t ih =>
    simp only [hasN, List.mem_cons]
    by_cases hji : j = i
    · subst hji; rw [beq_self]; simp
    · rw [beq_ne hji, ih]
      exact ⟨fun h => .inr h, fun h => h.resolve_left (fun e => hji e.symm)⟩

theorem one_of_filter {α : Type} {p : α → Bool} : ∀ {l : List α} {i j : Nat} {a b : α}, (l.filter p).length ≤ 1 → l[i]? = some a → p a = true → l[j]? = some b → p b = true → i = j
  | [], i, j, a, b, _, h, _, _, _ => by simp at h
  | x :: l, 0, 0, a, b, _, _, _, _, _ => rfl
  | x :: l, 0, j + 1, a, b, hl, ha, hpa, hb, hpb => by
    simp at ha hb; subst ha
    rw [List.filter_cons_of_pos hpa] at hl
    have : b ∈ l.filter p := List.mem_filter.2 ⟨List.mem_of_getElem? hb, hpb⟩
    have := List.length_pos_of_mem this
    rw [List.length_cons] at hl; omega
  | x :: l, i + 1, 0, a, b, hl, ha, hpa, hb, hpb => by
    simp at ha hb; subst hb
    rw [List.filter_cons_of_pos hpb] at hl
    have : a ∈ l.filter p := List.mem_filter.2 ⟨List.mem_of_getElem? ha, hpa⟩
    have := List.length_pos_of_mem this
    rw [List.length_cons] at hl; omega
  | x :: l, i + 1, j + 1, a, b, hl, ha, hpa, hb, hpb => by
    simp at ha hb
    have hl' : (l.filter p).length ≤ 1 := by
      by_cases hx : p x = true
      · rw [List.filter_cons_of_pos hx, List.length_cons] at hl; omega
      · rw [List.filter_cons_of_neg hx] at hl; exact hl
    rw [one_of_filter hl' ha hpa hb hpb]

/-- What a walk holds to: what entries may say, what a step may write. -/
structure Disc (w0 : World) where
  good : Ent → Prop
  foot : Ent → Value → Nat → Prop
  step : World → World → (Nat → Prop) → Prop
  foot_ex : ∀ v u g, ¬ foot (.ex v) u g
  step_refl : ∀ w E, step w w E
  step_below : ∀ w w' E, Below w0.heap.size w0 w → step w w' E → Below w0.heap.size w w'
  keep : ∀ e, good e → ∀ v w w' E, Below w0.heap.size w0 w → step w w' E → (∀ g, foot e v g → ¬ E g) → e.sat v w → e.sat v w'
  bound : ∀ e, good e → ∀ v w, e.sat v w → ∀ g, foot e v g → g < w.heap.size

def weakD (w0 : World) : Disc w0 where
  good := Ent.mono
  foot := fun _ _ _ => False
  step := fun w w' _ => Below w.heap.size w w'
  foot_ex := fun _ _ _ h => h
  step_refl := fun w _ => Below.refl _ w
  step_below := fun w w' _ hb h => h.mono hb.size
  keep := fun e hm v w w' E _ hs _ h => Ent.sat_mono hm hs h
  bound := fun _ _ _ _ _ _ h => h.elim

def ownD (w0 : World) : Disc w0 where
  good := Ent.strong w0
  foot := Ent.foot
  step := StepO w0
  foot_ex := fun _ _ _ h => h
  step_refl := fun w _ => ⟨Below.refl _ w, fun _ _ _ _ => rfl⟩
  step_below := fun w w' _ _ h => h.1
  keep := fun e hs v w w' E _ hst hE h => by
    cases e with
    | ex u => exact h
    | pr φ => exact hs v w w' hst.1 h
    | own φ S =>
      refine hs.1 v w w' hst.1 (fun g hg => ?_) h
      obtain ⟨h1, h2⟩ := hs.2 v w h g hg
      exact hst.2 g h1 h2 (hE g hg)
  bound := fun e hs v w h g hg => by
    cases e with
    | ex u => exact hg.elim
    | pr φ => exact hg.elim
    | own φ S => exact (hs.2 v w h g hg).2

section sound
variable {P : Program} {r : Option Nat} {Q : Exit → Act → World → Prop} {N : Nat} {ds : List Deferred} {ops : List Oper} {w0 : World}

abbrev Lay := Option Bool × Ent × List Nat

def EatD (dc : Disc w0) (D : DE) (eats : List Nat) (a : Act) (g : Nat) : Prop := ∃ s c e, hasN eats s = true ∧ dlook D s = some (c, e) ∧ Cnd c ∧ dc.foot e (a.tmps.getD s undef) g
def DOneA (P : Program) (N : Nat) (ds : List Deferred) (ops : List Oper) (dc : Disc w0) (o : Oper) (D : DE) (G : Option Bool) (e : Ent) (eats : List Nat) : Prop :=
  dgd ops D o.guard = some G ∧ okDst N o.dst = true ∧ noDefer o.op = true ∧ dc.good e ∧ sole ops o eats = true ∧ (∀ s, s ∈ eats → ∃ c φ S, dlook D s = some (c, .own φ S)) ∧
  (Cnd G → ∀ a w, Below w0.heap.size w0 w → FitL N ds (o.looksAt ops.toArray) D a w →
    (∃ v w', (execOp a.eval o).run P w = .ok (.value v) w' ∧ dc.step w w' (EatD dc D eats a) ∧ e.sat v w' ∧ ∀ g, dc.foot e v g → EatD dc D eats a g ∨ w.heap.size ≤ g) ∨
    (∃ f vs, (execOp a.eval o).run P w = .ok (.enter f vs) w ∧ Gives P f vs w fun v w' => dc.step w w' (EatD dc D eats a) ∧ e.sat v w' ∧ ∀ g, dc.foot e v g → EatD dc D eats a g ∨ w.heap.size ≤ g))

def discOf (w0 : World) : Mode → Disc w0
  | .weak => weakD w0
  | .own => ownD w0

def laidO (D : DE) : List Oper → List Lay → DE
  | o :: os, (G, e, s) :: ges => laidO (dins (ddrop D s) o.dst G e) os ges
  | _, _ => D

theorem DW.entries {Fin : DE → Prop} {m : Mode} : ∀ {rest : List Oper} {D : DE}, DW P N ds m ops w0 Fin rest D →
    ∃ ges : List Lay, ges.length = rest.length ∧ Fin (laidO D rest ges) ∧
      ∀ i o G e s, rest[i]? = some o → ges[i]? = some (G, e, s) → DOneA P N ds ops (discOf w0 m) o (laidO D (rest.take i) (ges.take i)) G e s
  | [], D, h => ⟨[], rfl, by cases m <;> exact h, fun i o G e s h1 _ => by simp at h1⟩
  | o :: rest, D, h => by
    have key : ∃ G e s, DOneA P N ds ops (discOf w0 m) o D G e s ∧ DW P N ds m ops w0 Fin rest (dins (ddrop D s) o.dst G e) := by
      cases m with
      | weak =>
        obtain ⟨G, e, ⟨h1, h2, h3, h4, h5⟩, h6⟩ := h
        refine ⟨G, e, [], ⟨h1, h2, h3, h4, rfl, fun s hs => by simp at hs, fun hG a w hb ha => ?_⟩, by rw [ddrop_nil]; exact h6⟩
        rcases h5 hG a w hb ha with ⟨v, w', q1, q2, q3⟩ | ⟨f, vs, q1, q2⟩
        · exact .inl ⟨v, w', q1, q2, q3, fun g hg => hg.elim⟩
        · exact .inr ⟨f, vs, q1, q2.mono fun v w' ⟨q3, q4⟩ => ⟨q3, q4, fun g hg => hg.elim⟩⟩
      | own =>
        obtain ⟨G, e, s, h1, h2⟩ := h
        exact ⟨G, e, s, h1, h2⟩
    obtain ⟨G, e, s, h1, h2⟩ := key
    obtain ⟨ges, hl, hF, hi⟩ := DW.entries h2
    refine ⟨(G, e, s) :: ges, by simp [hl], hF, ?_⟩
    intro i o' G' e' s' ho he
    cases i with
    | zero =>
      simp at ho he
      obtain ⟨rfl, rfl, rfl⟩ := he
      subst ho
      simpa [laidO] using h1
    | succ i =>
      simp at ho he
      simpa [laidO] using hi i o' G' e' s' ho he

/-- What is laid for a slot: by the operation that writes it, and nothing later has eaten it; or it was there. -/
theorem dlook_laidO {s : Nat} {x : Option Bool × Ent} : ∀ (os : List Oper) (ges : List Lay) (D : DE), dlook (laidO D os ges) s = some x →
    (∃ (k : Nat) (o : Oper) (G : Option Bool) (e : Ent) (E : List Nat), os[k]? = some o ∧ ges[k]? = some (G, e, E) ∧ o.dst = some s ∧ x = (G, e) ∧ ∀ (j : Nat) (o' : Oper) (G' : Option Bool) (e' : Ent) (E' : List Nat), k < j → os[j]? = some o' → ges[j]? = some (G', e', E') → ¬ s ∈ E') ∨
    (dlook D s = some x ∧ (∀ (k : Nat) (o : Oper) (G : Option Bool) (e : Ent) (E : List Nat), os[k]? = some o → ges[k]? = some (G, e, E) → o.dst ≠ some s ∧ ¬ s ∈ E))
  | [], ges, D, h => .inr ⟨by simpa [laidO] using h, fun k o G e E hk => by simp at hk⟩
  | o :: os, [], D, h => .inr ⟨by simpa [laidO] using h, fun k o G e E _ hg => by simp at hg⟩
  | o :: os, (G, e, E) :: ges, D, h => by
    rw [laidO] at h
    rcases dlook_laidO os ges _ h with ⟨k, o', G', e', E', h1, h2, h3, h4, h5⟩ | ⟨h1, h2⟩
    · refine .inl ⟨k + 1, o', G', e', E', by simpa using h1, by simpa using h2, h3, h4, fun j o'' G'' e'' E'' hj ho hg => ?_⟩
      obtain ⟨j, rfl⟩ : ∃ i, j = i + 1 := ⟨j - 1, by omega⟩
      exact h5 j o'' G'' e'' E'' (by omega) (by simpa using ho) (by simpa using hg)
    · have hd : (o.dst = some s ∧ x = (G, e)) ∨ (o.dst ≠ some s ∧ dlook (ddrop D E) s = some x) := by
        cases hdst : o.dst with
        | none => rw [hdst] at h1; exact .inr ⟨by simp, h1⟩
        | some d =>
          rw [hdst] at h1
          simp only [dins, dlook] at h1
          by_cases hds : d = s
          · subst hds; rw [beq_self] at h1; simp at h1; exact .inl ⟨rfl, h1.symm⟩
          · rw [beq_ne hds] at h1; exact .inr ⟨fun e => hds (by simpa using e), h1⟩
      rcases hd with ⟨hd, hx⟩ | ⟨hd, hx⟩
      · refine .inl ⟨0, o, G, e, E, rfl, rfl, hd, hx, fun j o' G' e' E' hj ho hg => ?_⟩
        obtain ⟨j, rfl⟩ : ∃ i, j = i + 1 := ⟨j - 1, by omega⟩
        exact (h2 j o' G' e' E' (by simpa using ho) (by simpa using hg)).2
      · rw [dlook_ddrop] at hx
        split at hx
        · cases hx
        · rename_i hE
          refine .inr ⟨hx, fun k o' G' e' E' ho hg => ?_⟩
          cases k with
          | zero =>
            simp at ho hg
            obtain ⟨rfl, rfl, rfl⟩ := hg
            subst ho
            exact ⟨hd, fun hm => hE (hasN_iff.2 hm)⟩
          | succ k => exact h2 k o' G' e' E' (by simpa using ho) (by simpa using hg)

/-! ### What must be done before what -/

inductive Reach (ops : List Oper) : Nat → Nat → Prop
  | one {i : Nat} {o : Oper} {e : Edge} : ops[i]? = some o → e ∈ o.after → Region.binds .any e = true → Reach ops i e.on
  | more {i k : Nat} {o : Oper} {e : Edge} : ops[i]? = some o → e ∈ o.after → Region.binds .any e = true → Reach ops e.on k → Reach ops i k

def maskOf (acc : List Nat) (o : Oper) : Nat := o.after.toList.foldl (fun m e => if Region.binds .any e then m ||| (1 <<< e.on) ||| acc.getD e.on 0 else m) 0
def masksGo : List Nat → List Oper → List Nat
  | acc, [] => acc
  | acc, o :: os => masksGo (acc ++ [maskOf acc o]) os
def masks (ops : List Oper) : List Nat := masksGo [] ops
/-- All of [s, t) comes before whatever comes from t on. -/
def cutOK (ops : List Oper) (s t : Nat) : Bool := ((masks ops).drop t).all fun m => Nat.beq ((m >>> s) &&& ((1 <<< (t - s)) - 1)) ((1 <<< (t - s)) - 1)

theorem maskOf_bits {acc : List Nat} {o : Oper} {k : Nat} (h : (maskOf acc o).testBit k = true) : ∃ e ∈ o.after, Region.binds .any e = true ∧ (e.on = k ∨ (acc.getD e.on 0).testBit k = true) := by
  have key : ∀ (l : List Edge) (m : Nat), (l.foldl (fun m e => if Region.binds .any e then m ||| (1 <<< e.on) ||| acc.getD e.on 0 else m) m).testBit k = true → m.testBit k = true ∨ ∃ e ∈ l, Region.binds .any e = true ∧ (e.on = k ∨ (acc.getD e.on 0).testBit k = true) := by
    intro l
    induction l with
    | nil => intro m h; exact .inl h
    | cons e l ih =>
      intro m h
      rw [List.foldl_cons] at h
      rcases ih _ h with h1 | ⟨e', h1, h2⟩
      · split at h1
        · rename_i hb
          rw [Nat.testBit_or, Nat.testBit_or, Bool.or_eq_true, Bool.or_eq_true] at h1
          rcases h1 with (h1 | h1) | h1
          · exact .inl h1
          · refine .inr ⟨e, by simp, hb, .inl ?_⟩
            rw [Nat.one_shiftLeft, Nat.testBit_two_pow] at h1
            exact of_decide_eq_true h1
          · exact .inr ⟨e, by simp, hb, .inr h1⟩
        · exact .inl h1
      · exact .inr ⟨e', by simp [h1], h2⟩
  rcases key _ 0 h with h1 | ⟨e, h1, h2⟩
  · simp at h1
  · exact ⟨e, by simpa using h1, h2⟩

theorem masksGo_reach : ∀ (os : List Oper) (acc : List Nat), (∀ i, acc.length ≤ i → ops[i]? = os[i - acc.length]?) → (∀ i k, (acc.getD i 0).testBit k = true → Reach ops i k) → ∀ i k, ((masksGo acc os).getD i 0).testBit k = true → Reach ops i k
  | [], acc, _, h, i, k, hk => h i k hk
  | o :: os, acc, ho, h, i, k, hk => by
    refine masksGo_reach os (acc ++ [maskOf acc o]) (fun i hi => ?_) (fun i k hk => ?_) i k hk
    · simp at hi
      rw [ho i (by omega)]
      have : i - acc.length = (i - (acc ++ [maskOf acc o]).length) + 1 := by simp; omega
      rw [this]; simp
    · by_cases hi : i < acc.length
      · refine h i k ?_
        rw [List.getD_eq_getElem?_getD, List.getElem?_append_left hi, ← List.getD_eq_getElem?_getD] at hk; exact hk
      · by_cases hi2 : i = acc.length
        · subst hi2
          have e : (acc ++ [maskOf acc o]).getD acc.length 0 = maskOf acc o := by simp
          rw [e] at hk
          have hop : ops[acc.length]? = some o := by rw [ho _ (Nat.le_refl _)]; simp
          obtain ⟨e, h1, h2, h3 | h3⟩ := maskOf_bits hk
          · rw [← h3]; exact .one hop h1 h2
          · exact .more hop h1 h2 (h _ _ h3)
        · have : (acc ++ [maskOf acc o]).getD i 0 = 0 := by
            rw [List.getD_eq_getElem?_getD, List.getElem?_eq_none (by simp; omega)]; rfl
          rw [this] at hk; simp at hk
theorem masks_reach {i k : Nat} (h : ((masks ops).getD i 0).testBit k = true) : Reach ops i k := masksGo_reach ops [] (fun i _ => by simp) (fun i k h => by simp at h) i k h

theorem masksGo_len : ∀ (os : List Oper) (acc : List Nat), (masksGo acc os).length = acc.length + os.length
  | [], acc => by simp [masksGo]
  | o :: os, acc => by rw [masksGo, masksGo_len os]; simp; omega

theorem cutOK_spec {s t : Nat} (h : cutOK ops s t = true) {i k : Nat} (hti : t ≤ i) (hi : i < ops.length) (hsk : s ≤ k) (hkt : k < t) : Reach ops i k := by
  unfold cutOK at h
  rw [List.all_eq_true] at h
  have hlen : (masks ops).length = ops.length := by unfold masks; rw [masksGo_len]; simp
  have hm : (masks ops).getD i 0 ∈ (masks ops).drop t := by
    rw [List.mem_iff_getElem?]
    refine ⟨i - t, ?_⟩
    rw [List.getElem?_drop, show t + (i - t) = i by omega, List.getD_eq_getElem?_getD, List.getElem?_eq_getElem (by omega)]
    rfl
  have h1 := Nat.eq_of_beq_eq_true (h _ hm)
  refine masks_reach ?_
  have h2 : ((((masks ops).getD i 0) >>> s) &&& ((1 <<< (t - s)) - 1)).testBit (k - s) = true := by
    rw [h1, Nat.one_shiftLeft, Nat.testBit_two_pow_sub_one]
    simp; omega
  rw [Nat.testBit_and, Bool.and_eq_true, Nat.testBit_shiftRight] at h2
  rw [show s + (k - s) = k by omega] at h2
  exact h2.1

theorem reach_listed {listed : Array Bool} (hc : ∀ k o, ops[k]? = some o → listed.getD k false = true → ∀ e ∈ o.after, Region.binds .any e = true → listed.getD e.on false = true) (hb : ∀ k o, ops[k]? = some o → ∀ e ∈ o.after, Region.binds .any e = true → e.on < k)
    {i k : Nat} (h : Reach ops i k) : (∀ o, ops[i]? = some o → ∀ e ∈ o.after, Region.binds .any e = true → listed.getD e.on false = true) → listed.getD k false = true := by
  induction h with
  | one h1 h2 h3 => intro hd; exact hd _ h1 _ h2 h3
  | @more i k o e h1 h2 h3 _ ih =>
    intro hd
    exact ih (fun o' ho' => hc _ o' ho' (hd _ h1 _ h2 h3))

/-- Eaten by an operation that is done. -/
def eatenBy (ges : List Lay) (s : Nat) (listed : Array Bool) (d : Nat) : Prop := ∃ j G e E, ges[j]? = some (G, e, E) ∧ d ∈ E ∧ listed.getD (s + j) false = true

/-- The invariant, over the stretch [s, s + n). -/
structure DInv (N : Nat) (ds : List Deferred) (ops : List Oper) (dc : Disc w0) (s : Nat) (ges : List Lay) (a0 : Act) (listed : Array Bool) (a : Act) (w : World) : Prop where
  below : Below w0.heap.size w0 w
  size : a.tmps.size = N
  defers : a.defers = ds
  pre : ∀ k, k < s → listed.getD k false = true
  post : ∀ k, s + ges.length ≤ k → listed.getD k false = false
  done : ∀ k o d G e E, ops[s + k]? = some o → o.dst = some d → ges[k]? = some (G, e, E) → listed.getD (s + k) false = true → ¬ eatenBy ges s listed d → slotOK G e (a.tmps.getD d undef) w
  apart : ∀ k o d G e E k' o' d' G' e' E', ops[s + k]? = some o → o.dst = some d → ges[k]? = some (G, e, E) → listed.getD (s + k) false = true → ¬ eatenBy ges s listed d → Cnd G →
    ops[s + k']? = some o' → o'.dst = some d' → ges[k']? = some (G', e', E') → listed.getD (s + k') false = true → ¬ eatenBy ges s listed d' → Cnd G' → k ≠ k' → ∀ g, dc.foot e (a.tmps.getD d undef) g → dc.foot e' (a.tmps.getD d' undef) g → False
  todo : ∀ k o d, k < ges.length → ops[s + k]? = some o → o.dst = some d → listed.getD (s + k) false = false → a.tmps.getD d undef = a0.tmps.getD d undef
  others : ∀ x, (∀ (k : Nat) (o : Oper), k < ges.length → ops[s + k]? = some o → o.dst ≠ some x) → a.tmps.getD x undef = a0.tmps.getD x undef
  closed : ∀ k o, ops[k]? = some o → listed.getD k false = true → ∀ e ∈ o.after, Region.binds .any e = true → listed.getD e.on false = true

/-- The operations of the stretch. -/
def stretch (ops : List Oper) (s t : Nat) : List Oper := (ops.drop s).take (t - s)
theorem stretch_get {s t k : Nat} : (stretch ops s t)[k]? = if k < t - s then ops[s + k]? else none := by
  unfold stretch
  rw [List.getElem?_take]
  split
  · rw [List.getElem?_drop]
  · rfl

theorem draw_sound {D0 : DE} {ges : List Lay} {a0 : Act} {s t : Nat} (dc : Disc w0) (hlex : lexOK ops = true) (hcut : cutOK ops s t = true) (hst : s ≤ t) (htl : t ≤ ops.length) (hl : ges.length = t - s)
    (hstep : ∀ i o G e E, ops[s + i]? = some o → ges[i]? = some (G, e, E) → DOneA P N ds ops dc o (laidO D0 ((stretch ops s t).take i) (ges.take i)) G e E)
    (h0 : ∀ i c e, dlook D0 i = some (c, e) → ∃ v, e = .ex v ∧ slotOK c e (a0.tmps.getD i undef) w0)
    (hfin : ∀ (fuel : Nat) (listed : Array Bool) (a : Act) (w : World), listed.size = ops.length → (∀ k, k < ops.length → listed.getD k false = decide (k < t)) → ops.length - t ≤ fuel → Below w0.heap.size w0 w → FitD N ds (laidO D0 (stretch ops s t) ges) a w → wpAnyIn (FR r) 0 P .any ops.toArray Q fuel listed a w) :
    ∀ (fuel : Nat) (listed : Array Bool) (a : Act) (w : World), listed.size = ops.length → ((List.range ops.length).filter fun k => !listed.getD k false).length ≤ fuel → DInv N ds ops dc s ges a0 listed a w →
      wpAnyIn (FR r) 0 P .any ops.toArray Q fuel listed a w := by
  have hback : ∀ k o, ops[k]? = some o → ∀ e ∈ o.after, Region.binds .any e = true → e.on < k := fun k o hk e he hb => (lexOK_spec hlex hk hk).1 e he hb
  have hin : ∀ {k : Nat} {o : Oper}, k < t - s → (ops[s + k]? = some o ↔ (stretch ops s t)[k]? = some o) := fun hk => by rw [stretch_get, if_pos hk]
  have huniq : ∀ {x k i : Nat} {o o' : Oper}, ops[k]? = some o → o.dst = some x → ops[i]? = some o' → o'.dst = some x → i = k := by
    intro x k i o o' hk hd ho' hd'
    rcases ((lexOK_spec hlex ho' hk).2 x hd).1 with h | h
    · exact h.symm
    · exact absurd hd' h
  have hgl : ∀ {j : Nat} {L : Lay}, ges[j]? = some L → j < t - s := fun hg => by rw [← hl]; exact (List.getElem?_eq_some_iff.1 hg).1
  have hopl : ∀ {j : Nat}, j < t - s → ∃ o, ops[s + j]? = some o := fun hj => ⟨_, List.getElem?_eq_getElem (by omega)⟩
  have hgel : ∀ {j : Nat}, j < t - s → ∃ G e E, ges[j]? = some (G, e, E) := fun hj => ⟨_, _, _, List.getElem?_eq_getElem (by omega)⟩
  have hlooks : ∀ {j x : Nat} {G e E} {o : Oper}, ges[j]? = some (G, e, E) → x ∈ E → ops[s + j]? = some o → x ∈ o.looksAt ops.toArray := by
    intro j x G e E o hg hs ho
    have h5 := (hstep j o G e E ho hg).2.2.2.2.1
    unfold sole at h5
    rw [List.all_eq_true] at h5
    have h6 := h5 x hs
    simp only [Bool.and_eq_true] at h6
    simpa using h6.1
  have hsole : ∀ {j i x : Nat} {G e E} {o : Oper}, ges[j]? = some (G, e, E) → x ∈ E → ops[i]? = some o → x ∈ o.looksAt ops.toArray → s + j = i := by
    intro j i x G e E o hg hs ho hlk
    obtain ⟨oj, hj⟩ := hopl (hgl hg)
    have h5 := (hstep j oj G e E hj hg).2.2.2.2.1
    unfold sole at h5
    rw [List.all_eq_true] at h5
    have h6 := h5 x hs
    simp only [Bool.and_eq_true] at h6
    exact one_of_filter (p := fun p => (p.looksAt ops.toArray).contains x) (Nat.le_of_ble_eq_true h6.2) hj h6.1 ho (by simpa using hlk)
  have htake : ∀ {i k : Nat} {o : Oper} {L : Lay}, i ≤ t - s → ((stretch ops s t).take i)[k]? = some o → (ges.take i)[k]? = some L → k < i ∧ ops[s + k]? = some o ∧ ges[k]? = some L := by
    intro i k o L hi h1 h2
    have hki : k < i := by have := (List.getElem?_eq_some_iff.1 h1).1; simp at this; omega
    rw [List.getElem?_take_of_lt hki] at h1 h2
    exact ⟨hki, (hin (by omega)).2 h1, h2⟩
  have heat : ∀ {j k x : Nat} {G e E} {o : Oper}, ges[j]? = some (G, e, E) → x ∈ E → ops[k]? = some o → o.dst = some x → s ≤ k ∧ k < s + j := by
    intro j k x G e E o hg hs hk hd
    obtain ⟨oj, hj⟩ := hopl (hgl hg)
    obtain ⟨c, φ, S, hlk⟩ := (hstep j oj G e E hj hg).2.2.2.2.2.1 x hs
    rcases dlook_laidO _ _ D0 hlk with ⟨k', o', G', e', E', hk', hge, hd', hx, _⟩ | ⟨h1, _⟩
    · obtain ⟨h1, h2, _⟩ := htake (by have := hgl hg; omega) hk' hge
      have := huniq h2 hd' hk hd
      omega
    · obtain ⟨v, hv, _⟩ := h0 x c _ h1
      cases hv
  intro fuel
  induction fuel with
  | zero =>
    intro listed a w hsz hcount hI
    have hall : ∀ k, k < ops.length → listed.getD k false = true := by
      intro k hk
      cases hc : listed.getD k false with
      | true => rfl
      | false =>
        exfalso
        have : k ∈ (List.range ops.length).filter fun k => !listed.getD k false := by rw [List.mem_filter]; exact ⟨by simpa using hk, by rw [hc]; rfl⟩
        have hnil : (List.range ops.length).filter (fun k => !listed.getD k false) = [] := List.eq_nil_of_length_eq_zero (by omega)
        rw [hnil] at this
        cases this
    have htt : t = ops.length := by
      rcases Nat.lt_or_ge t ops.length with h | h
      · have := hI.post t (by omega)
        rw [hall t h] at this; cases this
      · omega
    refine hfin 0 listed a w hsz (fun k hk => by rw [hall k hk]; simp; omega) (by omega) hI.below ⟨hI.size, hI.defers, fun x c e hs => ?_⟩
    rcases dlook_laidO _ _ D0 hs with ⟨k, o, G, e', E, hk, hge, hd, hx, hno⟩ | ⟨h1, h2⟩
    · cases hx
      have hkl := hgl hge
      have hk := (hin hkl).2 hk
      refine hI.done k o x c e E hk hd hge (hall _ (by omega)) ?_
      rintro ⟨j, G', e', E', hgj, hsE, _⟩
      obtain ⟨oj, hj⟩ := hopl (hgl hgj)
      have := heat hgj hsE hk hd
      exact hno j oj G' e' E' (by omega) ((hin (hgl hgj)).1 hj) hgj hsE
    · obtain ⟨v, rfl, hok⟩ := h0 x c e h1
      rw [hI.others x (fun i o hi ho => by
        obtain ⟨G, e, E, hg⟩ := hgel (j := i) (by omega)
        exact (h2 i o _ _ _ ((hin (by omega)).1 ho) hg).1)]
      exact hok
  | succ fuel ih =>
    intro listed a w hsz hcount hI
    by_cases hdone : ∀ k, s ≤ k → k < t → listed.getD k false = true
    · -- the stretch is done
      have hlt : ∀ k, k < ops.length → listed.getD k false = decide (k < t) := by
        intro k hk
        by_cases h1 : k < t
        · rcases Nat.lt_or_ge k s with h2 | h2
          · rw [hI.pre k h2]; simp [h1]
          · rw [hdone k h2 h1]; simp [h1]
        · rw [hI.post k (by omega)]; simp [h1]
      refine hfin (fuel + 1) listed a w hsz hlt ?_ hI.below ⟨hI.size, hI.defers, fun x c e hs => ?_⟩
      · refine Nat.le_trans ?_ hcount
        have : (List.range ops.length).filter (fun k => !listed.getD k false) = (List.range ops.length).filter (fun k => decide (t ≤ k)) := by
          refine List.filter_congr fun k hk => ?_
          rw [hlt k (by simpa using hk)]
          by_cases h1 : k < t <;> simp [h1] <;> omega
        rw [this]
        have hsub : ((List.range ops.length).filter fun k => decide (t ≤ k)).length = ops.length - t := by
          rw [show ops.length = t + (ops.length - t) by omega, List.range_add, List.filter_append]
          simp
          rw [List.filter_eq_nil_iff.2 (by intro x hx; simp at hx; simp; omega), List.filter_eq_self.2 (by intro x hx; simp at hx; obtain ⟨y, _, rfl⟩ := hx; simp)]
          simp
        omega
      · rcases dlook_laidO _ _ D0 hs with ⟨k, o, G, e', E, hk, hge, hd, hx, hno⟩ | ⟨h1, h2⟩
        · cases hx
          have hkl := hgl hge
          have hk := (hin hkl).2 hk
          refine hI.done k o x c e E hk hd hge (hdone _ (by omega) (by omega)) ?_
          rintro ⟨j, G', e', E', hgj, hsE, _⟩
          obtain ⟨oj, hj⟩ := hopl (hgl hgj)
          have := heat hgj hsE hk hd
          exact hno j oj G' e' E' (by omega) ((hin (hgl hgj)).1 hj) hgj hsE
        · obtain ⟨v, rfl, hok⟩ := h0 x c e h1
          rw [hI.others x (fun i o hi ho => by
            obtain ⟨G, e, E, hg⟩ := hgel (j := i) (by omega)
            exact (h2 i o _ _ _ ((hin (by omega)).1 ho) hg).1)]
          exact hok
    · have hready : ∀ k, s ≤ k → k < t → listed.getD k false = false → (∀ j, s ≤ j → j < k → listed.getD j false = true) → k ∈ Region.ready .any ops.toArray listed := by
        intro k hsk hkt hc hbef
        unfold Region.ready
        rw [List.mem_filter]
        have hk : k < ops.length := by omega
        have hok : ops[k]? = some ops[k] := List.getElem?_eq_getElem hk
        refine ⟨by simpa using hk, ?_⟩
        have hc' : listed.getD k true = false := by
          have : k < listed.size := by omega
          simpa [this] using hc
        simp only [hc', List.getElem?_toArray, hok, Option.map_some, Option.getD_some, Bool.not_false, Bool.true_and]
        rw [Array.all_eq_true']
        intro e he
        cases hbi : Region.binds .any e with
        | false => simp
        | true =>
          have hon := hback k _ hok e he hbi
          have : listed.getD e.on false = true := by
            rcases Nat.lt_or_ge e.on s with h | h
            · exact hI.pre _ h
            · exact hbef _ h hon
          simp [this]
      have hmin : ∃ k, s ≤ k ∧ k < t ∧ listed.getD k false = false ∧ ∀ j, s ≤ j → j < k → listed.getD j false = true := by
        have hex : ∃ k, s ≤ k ∧ k < t ∧ listed.getD k false = false := by
          rcases Classical.not_forall.1 hdone with ⟨k, hk⟩
          rcases Classical.not_forall.1 hk with ⟨h1, hk⟩
          rcases Classical.not_forall.1 hk with ⟨h2, hk⟩
          exact ⟨k, h1, h2, by simpa using hk⟩
        obtain ⟨k, h1, h2, h3⟩ := hex
        induction k using Nat.strongRecOn with
        | _ k ihk =>
          by_cases hb : ∀ j, s ≤ j → j < k → listed.getD j false = true
          · exact ⟨k, h1, h2, h3, hb⟩
          · rcases Classical.not_forall.1 hb with ⟨j, hj⟩
            rcases Classical.not_forall.1 hj with ⟨g1, hj⟩
            rcases Classical.not_forall.1 hj with ⟨g2, hj⟩
            exact ihk j g2 g1 (by omega) (by simpa using hj)
      refine ⟨fun hr => ?_, fun i hi => ?_⟩
      · obtain ⟨k, h1, h2, h3, h4⟩ := hmin
        have := hready k h1 h2 h3 h4
        rw [hr] at this; cases this
      unfold Region.ready at hi
      rw [List.mem_filter] at hi
      obtain ⟨hi1, hi2⟩ := hi
      have hil : i < ops.length := by simpa using hi1
      have hok : ops[i]? = some ops[i] := List.getElem?_eq_getElem hil
      simp only [Bool.and_eq_true, List.getElem?_toArray, hok, Option.map_some, Option.getD_some] at hi2
      obtain ⟨hi2, hi3⟩ := hi2
      have hni : listed.getD i false = false := by
        have hs : i < listed.size := by omega
        simpa [hs] using hi2
      rw [Array.all_eq_true'] at hi3
      have hdeps : ∀ e ∈ ops[i].after, Region.binds .any e = true → listed.getD e.on false = true := by
        intro e he hb
        have := hi3 e he
        rw [hb] at this
        simpa using this
      have hsi : s ≤ i := by
        rcases Nat.lt_or_ge i s with h | h
        · have := hI.pre i h; rw [hni] at this; cases this
        · exact h
      have hit : i < t := by
        rcases Nat.lt_or_ge i t with h | h
        · exact h
        · exfalso
          refine hdone fun k hk1 hk2 => ?_
          exact reach_listed hI.closed hback (cutOK_spec hcut h hil hk1 hk2) (fun o ho e he hb => by rw [hok] at ho; cases ho; exact hdeps e he hb)
      obtain ⟨n, rfl⟩ : ∃ n, i = s + n := ⟨i - s, by omega⟩
      have hnl : n < t - s := by omega
      obtain ⟨o, hok'⟩ : ∃ o, ops[s + n]? = some o := ⟨_, hok⟩
      have hoo : ops[s + n] = o := by rw [hok] at hok'; simpa using hok'
      obtain ⟨Gi, ei, Ei, hgi⟩ := hgel hnl
      rw [hoo] at hdeps
      clear hok
      obtain ⟨hg, hd, hn, hm, hso, heo, hop⟩ := hstep n o Gi ei Ei hok' hgi
      have hne : ∀ x, x ∈ o.looksAt ops.toArray → ¬ eatenBy ges s listed x := by
        rintro x hs ⟨j, G, e, E, hgj, hsE, hlj⟩
        have := hsole hgj hsE hok' hs
        rw [this, hni] at hlj; cases hlj
      have hsee : ∀ x k p, x ∈ o.looksAt ops.toArray → k < s + n → ops[k]? = some p → p.dst = some x → listed.getD k false = true := by
        intro x k p hsL hki hk hd
        obtain ⟨e', he', hb', hon⟩ := (((lexOK_spec hlex hok' hk).2 x hd).2 hsL).1 hki
        exact hon ▸ hdeps e' he' hb'
      have hfit : FitL N ds (o.looksAt ops.toArray) (laidO D0 ((stretch ops s t).take n) (ges.take n)) a w := by
        refine ⟨hI.size, hI.defers, fun x hsL c e hs => ?_⟩
        rcases dlook_laidO _ _ D0 hs with ⟨k, p, G, e', E, hk, hge, hd, hx, hno⟩ | ⟨h1, h2⟩
        · cases hx
          obtain ⟨hki, hk, hge⟩ := htake (by omega) hk hge
          exact hI.done k p x c e E hk hd hge (hsee x (s + k) p hsL (by omega) hk hd) (hne x hsL)
        · obtain ⟨v, rfl, hok0⟩ := h0 x c e h1
          by_cases hw : ∃ (k : Nat) (p : Oper), k < ges.length ∧ ops[s + k]? = some p ∧ p.dst = some x
          · obtain ⟨k, p, hkl, hk, hd⟩ := hw
            have hik : n ≤ k := by
              rcases Nat.lt_or_ge k n with hki | hik
              · obtain ⟨G, e, E, hg⟩ := hgel (j := k) (by omega)
                exact absurd hd (h2 k p _ _ _ (by rw [List.getElem?_take_of_lt hki]; exact (hin (by omega)).1 hk) (by rw [List.getElem?_take_of_lt hki]; exact hg)).1
              · exact hik
            have hlk : listed.getD (s + k) false = false := by
              rcases (((lexOK_spec hlex hok' hk).2 x hd).2 hsL).2 (by omega) with h | ⟨e', he', hb', hon⟩
              · rw [h]; exact hni
              · cases hc : listed.getD (s + k) false with
                | false => rfl
                | true =>
                  have := hI.closed (s + k) p hk hc e' he' hb'
                  rw [hon, hni] at this
                  cases this
            rw [hI.todo k p x hkl hk hd hlk]
            exact hok0
          · rw [hI.others x (fun k p hk ho hd => hw ⟨k, p, hk, ho, hd⟩)]
            exact hok0
      obtain ⟨hw1, hw2⟩ := dwanted_of (ops := ops) (o := o) hfit (fun d hd => looks_guard hd) hg
      have heatk : ∀ x, x ∈ Ei → ∃ k p G e E, ops[s + k]? = some p ∧ p.dst = some x ∧ ges[k]? = some (G, e, E) ∧ listed.getD (s + k) false = true ∧ dlook (laidO D0 ((stretch ops s t).take n) (ges.take n)) x = some (G, e) := by
        intro x hs
        obtain ⟨c, φ, S, hlk⟩ := heo x hs
        have hsL := hlooks hgi hs hok'
        rcases dlook_laidO _ _ D0 hlk with ⟨k, p, G, e', E, hk, hge, hd, hx, _⟩ | ⟨h1, _⟩
        · obtain ⟨hki, hk, hge⟩ := htake (by omega) hk hge
          exact ⟨k, p, G, e', E, hk, hd, hge, hsee x (s + k) p hsL (by omega) hk hd, by rw [hlk, hx]⟩
        · obtain ⟨v, hv, _⟩ := h0 x c _ h1
          cases hv
      have hset : ∀ k, (listed.setIfInBounds (s + n) true).getD k false = if k = s + n then true else listed.getD k false := by
        intro k
        by_cases hki : k = s + n
        · subst hki; simp [hsz, hil]
        · have : s + n ≠ k := fun e => hki e.symm
          simp [hki, Array.getElem?_setIfInBounds_ne this]
      have heaten : ∀ d, ¬ eatenBy ges s (listed.setIfInBounds (s + n) true) d → ¬ eatenBy ges s listed d ∧ ¬ d ∈ Ei := by
        intro d h
        refine ⟨fun ⟨j, G, e, E, h1, h2, h3⟩ => h ⟨j, G, e, E, h1, h2, ?_⟩, fun hd => h ⟨n, Gi, ei, Ei, hgi, hd, by rw [hset]; simp⟩⟩
        rw [hset]; split
        · rfl
        · exact h3
      have hEat : ∀ k p d G e E, ops[s + k]? = some p → p.dst = some d → ges[k]? = some (G, e, E) → listed.getD (s + k) false = true → ¬ eatenBy ges s listed d → Cnd G → ¬ d ∈ Ei → ∀ g, dc.foot e (a.tmps.getD d undef) g → ¬ EatD dc (laidO D0 ((stretch ops s t).take n) (ges.take n)) Ei a g := by
        rintro k p d G e E hk hd hge hlk hnk hcG hdE g hfg ⟨x, c, e', hsE, hls, hcc, hf⟩
        have hsE := hasN_iff.1 hsE
        obtain ⟨k', o', G', e'', E', hk', hd', hge', hlk', hdl⟩ := heatk x hsE
        rw [hdl] at hls
        cases hls
        have hsL := hlooks hgi hsE hok'
        refine hI.apart k p d G e E k' o' x _ _ E' hk hd hge hlk hnk hcG hk' hd' hge' hlk' (hne x hsL) hcc (fun h => ?_) g hfg hf
        subst h
        rw [hk] at hk'; cases hk'
        rw [hd] at hd'; cases hd'
        exact hdE hsE
      have hnext : ∀ v w', dc.step w w' (EatD dc (laidO D0 ((stretch ops s t).take n) (ges.take n)) Ei a) → slotOK Gi ei v w' → (Cnd Gi → ∀ g, dc.foot ei v g → EatD dc (laidO D0 ((stretch ops s t).take n) (ges.take n)) Ei a g ∨ w.heap.size ≤ g) →
          wpAnyIn (FR r) 0 P .any ops.toArray Q fuel (listed.setIfInBounds (s + n) true) (a.put o.dst v) w' := by
        intro v w' hst hs hfoot
        refine ih _ _ _ (by simpa using hsz) ?_ ?_
        · have hsub : ((List.range ops.length).filter fun k => !(listed.setIfInBounds (s + n) true).getD k false) = ((List.range ops.length).filter fun k => !listed.getD k false).erase (s + n) := by
            have hnd : ((List.range ops.length).filter fun k => !listed.getD k false).Nodup := List.nodup_range.sublist List.filter_sublist
            rw [hnd.erase_eq_filter, List.filter_filter]
            congr 1
            funext k
            rw [hset]
            by_cases hki : k = s + n <;> simp [hki]
          rw [hsub, List.length_erase_of_mem]
          · omega
          · rw [List.mem_filter]; exact ⟨by simpa using hil, by rw [hni]; rfl⟩
        · have hput : ∀ x, o.dst ≠ some x → (a.put o.dst v).tmps.getD x undef = a.tmps.getD x undef := by
            intro x hne
            cases hd' : o.dst with
            | none => rfl
            | some d =>
              rw [hd'] at hne
              have : d ≠ x := fun e => hne (by rw [e])
              simp [Act.put, Array.getElem?_setIfInBounds_ne this]
          have hputsame : ∀ x, o.dst = some x → (a.put o.dst v).tmps.getD x undef = v := by
            intro x hs'
            rw [hs']
            have : x < a.tmps.size := by
              rw [hs'] at hd
              rw [hI.size]
              exact blt_iff.1 hd
            simp [Act.put, this]
          have hdst : ∀ {k p d}, ops[s + k]? = some p → p.dst = some d → k ≠ n → o.dst ≠ some d := by
            intro k p d hk hd' hki h
            have := huniq hok' h hk hd'
            omega
          have hold : ∀ k p d G e E, ops[s + k]? = some p → p.dst = some d → ges[k]? = some (G, e, E) → k ≠ n → listed.getD (s + k) false = true → ¬ eatenBy ges s listed d → ¬ d ∈ Ei → slotOK G e (a.tmps.getD d undef) w' := by
            intro k p d G e E hk hd' hge hki hlk hnk hdE
            have h1 := hI.done k p d G e E hk hd' hge hlk hnk
            have hme : dc.good e := (hstep k p G e E hk hge).2.2.2.1
            exact ⟨fun hc => dc.keep e hme _ w w' _ hI.below hst (hEat k p d G e E hk hd' hge hlk hnk hc hdE) (h1.1 hc), h1.2⟩
          have hnew : ∀ k p d G e E, ops[s + k]? = some p → p.dst = some d → ges[k]? = some (G, e, E) → k ≠ n → listed.getD (s + k) false = true → ¬ eatenBy ges s listed d → ¬ d ∈ Ei → Cnd G → Cnd Gi → ∀ g, dc.foot e (a.tmps.getD d undef) g → dc.foot ei v g → False := by
            intro k p d G e E hk hd' hge hki hlk hnk hdE hcG hcGi g hf1 hf2
            rcases hfoot hcGi g hf2 with h | h
            · exact hEat k p d G e E hk hd' hge hlk hnk hcG hdE g hf1 h
            · have h1 := (hI.done k p d G e E hk hd' hge hlk hnk).1 hcG
              have hme : dc.good e := (hstep k p G e E hk hge).2.2.2.1
              have := dc.bound e hme _ w h1 g hf1
              omega
          refine ⟨hI.below.trans (dc.step_below w w' _ hI.below hst), ?_, ?_, ?_, ?_, ?_, ?_, ?_, ?_, ?_⟩
          · cases hd' : o.dst <;> simp [Act.put, hI.size]
          · cases hd' : o.dst <;> simp [Act.put, hI.defers]
          · intro k hk
            rw [hset, if_neg (by omega)]
            exact hI.pre k hk
          · intro k hk
            rw [hset, if_neg (by omega)]
            exact hI.post k hk
          · intro k p d G e E hk hd' hge hlk hnk
            obtain ⟨hnk1, hnk2⟩ := heaten d hnk
            rw [hset] at hlk
            by_cases hki : k = n
            · subst hki
              rw [hok'] at hk; cases hk
              rw [hgi] at hge; cases hge
              rw [hputsame d hd']
              exact hs
            · rw [if_neg (by omega)] at hlk
              rw [hput d (hdst hk hd' hki)]
              exact hold k p d G e E hk hd' hge hki hlk hnk1 hnk2
          · intro k p d G e E k' o' d' G' e' E' hk hd1 hge hlk hnk hcG hk' hd1' hge' hlk' hnk' hcG' hkk g hf hf'
            obtain ⟨hnk1, hnk2⟩ := heaten d hnk
            obtain ⟨hnk1', hnk2'⟩ := heaten d' hnk'
            rw [hset] at hlk hlk'
            by_cases hki : k = n
            · subst hki
              have hki' : k' ≠ k := fun e => hkk e.symm
              rw [if_neg (by omega)] at hlk'
              rw [hok'] at hk; cases hk
              rw [hgi] at hge; cases hge
              rw [hputsame d hd1] at hf
              rw [hput d' (hdst hk' hd1' hki')] at hf'
              exact hnew k' o' d' G' e' E' hk' hd1' hge' hki' hlk' hnk1' hnk2' hcG' hcG g hf' hf
            · rw [if_neg (by omega)] at hlk
              rw [hput d (hdst hk hd1 hki)] at hf
              by_cases hki' : k' = n
              · subst hki'
                rw [hok'] at hk'; cases hk'
                rw [hgi] at hge'; cases hge'
                rw [hputsame d' hd1'] at hf'
                exact hnew k p d G e E hk hd1 hge hki hlk hnk1 hnk2 hcG hcG' g hf hf'
              · rw [if_neg (by omega)] at hlk'
                rw [hput d' (hdst hk' hd1' hki')] at hf'
                exact hI.apart k p d G e E k' o' d' G' e' E' hk hd1 hge hlk hnk1 hcG hk' hd1' hge' hlk' hnk1' hcG' hkk g hf hf'
          · intro k p d hkl hk hd' hlk
            rw [hset] at hlk
            by_cases hki : k = n
            · subst hki; simp at hlk
            · rw [if_neg (by omega)] at hlk
              rw [hput d (hdst hk hd' hki)]
              exact hI.todo k p d hkl hk hd' hlk
          · intro x hns
            rw [hput x (hns n o (by omega) hok')]
            exact hI.others x hns
          · intro k p hk hlk e he hbi
            rw [hset] at hlk ⊢
            by_cases hei : e.on = s + n
            · simp [hei]
            · rw [if_neg hei]
              by_cases hki : k = s + n
              · subst hki
                rw [hok'] at hk; cases hk
                exact hdeps e he hbi
              · rw [if_neg hki] at hlk
                exact hI.closed k p hk hlk e he hbi
      unfold wpOpIn
      simp only [List.getElem?_toArray, hok']
      by_cases hc : Cnd Gi
      · rw [if_pos (hw1 hc)]
        refine ⟨fun _ _ => trivial, ?_⟩
        rw [semAt_of hn]
        rcases hop hc a w hI.below hfit with ⟨v, w', hrun, hb, hs, hf⟩ | ⟨f, vs, hrun, hgv⟩
        · rw [hrun]
          exact hnext v w' hb ⟨fun _ => hs, fun h => absurd hc h⟩ (fun _ => hf)
        · rw [hrun]
          refine ⟨fun h => by simp [Fence.wide] at h, CallsIn.mono (callsIn_of hgv) ?_⟩
          rintro e w' ⟨v, rfl, hb, hs, hf⟩
          exact hnext v w' hb ⟨fun _ => hs, fun h => absurd hc h⟩ (fun _ => hf)
      · rw [if_neg (by rw [hw2 hc]; simp)]
        exact ⟨fun _ _ => trivial, hnext undef w (dc.step_refl _ _) ⟨fun h => absurd h hc, fun _ => rfl⟩ (fun h => absurd h hc)⟩

/-! ### Regions part by part -/

/-- What is left of a region whose first s operations are done. -/
def RK (P : Program) (r : Option Nat) (Q : Exit → Act → World → Prop) (ops : List Oper) (s : Nat) (a : Act) (w : World) : Prop :=
  ∀ (listed : Array Bool) (fuel : Nat), listed.size = ops.length → (∀ k, k < ops.length → listed.getD k false = decide (k < s)) → ops.length - s ≤ fuel → wpAnyIn (FR r) 0 P .any ops.toArray Q fuel listed a w

theorem wpIn_shift {o : Oper} {a : Act} {w : World} {K K' : Act → World → Prop} {R : Act → World → Prop} (hh : o.wpIn (FR r) 0 P a w K (Exit.then R Q)) (h : ∀ a w, K a w → K' a w) : o.wpIn (FR r) 0 P a w K' Q := by
  unfold Oper.wpIn at *
  refine ⟨hh.1, ?_⟩
  have hh := hh.2
  generalize (o.semAt (FR r).round a.eval).run P w = x at *
  cases x with
  | ok x w' =>
    cases x <;> simp only [Oper.uponIn] at hh ⊢ <;>
      first
        | exact h _ _ hh
        | exact ⟨hh.1, CallsIn.mono hh.2 (fun e w'' he => by cases e <;> first | exact h _ _ he | exact he)⟩
        | exact ⟨hh.1, RowsIn.mono hh.2 (fun _ _ he => h _ _ he)⟩
        | exact ⟨hh.1, RoundIn.mono hh.2 (fun e w'' he => by cases e <;> first | exact h _ _ he | exact he)⟩
  | halt x w' => cases x <;> simp only [Oper.uponIn] at hh ⊢ <;> exact hh

/-- The region from operation s on: the first s are done. -/
def RW (P : Program) (r : Option Nat) (Q : Exit → Act → World → Prop) (N : Nat) (ds : List Deferred) (ops : List Oper) (s : Nat) (E : Env) (w : World) : Prop :=
  ∀ (a : Act), Fit N ds E a → RK P r Q ops s a w

theorem CW.drawR {id : Nat} {E : Env} {w : World} (hm : P.follows .mixedOrders = true) (h : ∀ W, Below w.heap.size w W → RW P r Q N ds ops 0 E W) : CW P r Q N ds (.region id ops.toArray true) E w := by
  intro a ha
  refine wpIn_region_any hm ?_
  have e : ops.toArray.size = ops.length := by simp
  rw [e]
  exact h { w with drawn := w.drawn + 1 } ⟨rfl, rfl, rfl, Nat.le_refl _, fun _ _ => rfl⟩ a ha (Array.replicate ops.length false) _ (by simp) (fun k hk => by simp [hk]) (Nat.sub_le _ _)

theorem RW.draw {E : Env} {w W : World} {s : Nat} (m : Mode) (t : Nat) (hlex : lexOK ops = true) (hcut : cutOK ops s t = true) (hst : Nat.ble s t = true) (htl : Nat.ble t ops.length = true) (hb : Below w.heap.size w W)
    (h : DW P N ds m ops w (fun D => ∀ a w', Below w.heap.size w w' → FitD N ds D a w' → RK P r Q ops t a w') (stretch ops s t) (lift E)) : RW P r Q N ds ops s E W := by
  have hst := Nat.le_of_ble_eq_true hst
  have htl := Nat.le_of_ble_eq_true htl
  intro a ha listed fuel hsz hls hfu
  obtain ⟨ges, hl, hF, hstep⟩ := DW.entries h
  have hl' : ges.length = t - s := by rw [hl]; unfold stretch; simp; omega
  refine draw_sound (N := N) (ds := ds) (w0 := w) (a0 := a) (D0 := lift E) (ges := ges) (discOf w m) hlex hcut hst htl hl' ?_ ?_ ?_ fuel listed a W hsz ?_ ?_
  · intro i o G e E hi hg
    have hil : i < t - s := by rw [← hl']; exact (List.getElem?_eq_some_iff.1 hg).1
    exact hstep i o G e E (by rw [stretch_get, if_pos hil]; exact hi) hg
  · intro i c e he
    rw [dlook_lift] at he
    cases hlk : look E i with
    | none => rw [hlk] at he; cases he
    | some p =>
      rw [hlk] at he
      simp only [Option.map_some, Option.some.injEq, Prod.mk.injEq] at he
      obtain ⟨rfl, rfl⟩ := he
      exact ⟨_, rfl, ha.slots i p.1 p.2 hlk⟩
  · intro fuel listed a w' hsz hls hfu hb' hfit
    exact hF a w' hb' hfit listed fuel hsz hls hfu
  · refine Nat.le_trans ?_ hfu
    have : (List.range ops.length).filter (fun k => !listed.getD k false) = (List.range ops.length).filter (fun k => decide (s ≤ k)) := by
      refine List.filter_congr fun k hk => ?_
      rw [hls k (by simpa using hk)]
      by_cases h1 : k < s <;> simp [h1] <;> omega
    rw [this, show ops.length = s + (ops.length - s) by omega, List.range_add, List.filter_append]
    simp
    rw [List.filter_eq_nil_iff.2 (by intro x hx; simp at hx; simp; omega)]
    refine Nat.le_trans (Nat.add_le_add_left (List.length_filter_le _ _) _) ?_
    simp
  · have hnl : ∀ k, s ≤ k → listed.getD k false = false := by
      intro k hk
      rcases Nat.lt_or_ge k ops.length with h | h
      · rw [hls k h]; simp; omega
      · simp [Array.getElem?_eq_none (show listed.size ≤ k by omega)]
    refine ⟨hb, ha.size, ha.defers, fun k hk => by rw [hls k (by omega)]; simp [hk], fun k hk => hnl k (by omega), ?_, ?_, fun _ _ _ _ _ _ _ => rfl, fun _ _ => rfl, ?_⟩
    · intro k o d G e E hk _ _ hlk
      rw [hnl _ (by omega)] at hlk; cases hlk
    · intro k o d G e E k' o' d' G' e' E' hk _ _ hlk
      rw [hnl _ (by omega)] at hlk; cases hlk
    · intro k o hk hlk e he hbi
      have hks : k < s := by
        rcases Nat.lt_or_ge k s with h | h
        · exact h
        · rw [hnl k h] at hlk; cases hlk
      have hon := (lexOK_spec hlex hk hk).1 e he hbi
      rw [hls e.on (by omega)]
      simp; omega

/-- One operation, ahead of all that follow it. -/
theorem RW.one {E : Env} {w : World} {s : Nat} {o : Oper} (hlex : lexOK ops = true) (hcut : cutOK ops s (s + 1) = true) (ho : ops[s]? = some o)
    (h : TW P r (Exit.then (RK P r Q ops (s + 1)) Q) N ds ops [o] E w) : RW P r Q N ds ops s E w := by
  have hsl : s < ops.length := (List.getElem?_eq_some_iff.1 ho).1
  intro a ha listed fuel hsz hls hfu
  obtain ⟨fuel, rfl⟩ : ∃ f, fuel = f + 1 := ⟨fuel - 1, by omega⟩
  have hready : ∀ i, i ∈ Region.ready .any ops.toArray listed → i = s := by
    intro i hi
    unfold Region.ready at hi
    rw [List.mem_filter] at hi
    obtain ⟨hi1, hi2⟩ := hi
    have hil : i < ops.length := by simpa using hi1
    have hok : ops[i]? = some ops[i] := List.getElem?_eq_getElem hil
    simp only [Bool.and_eq_true, List.getElem?_toArray, hok, Option.map_some, Option.getD_some] at hi2
    obtain ⟨hi2, hi3⟩ := hi2
    have hni : listed.getD i false = false := by
      have hs : i < listed.size := by omega
      simpa [hs] using hi2
    rw [hls i hil] at hni
    have hsi : s ≤ i := by simpa using hni
    rcases Nat.lt_or_ge s i with hlt | hge
    · exfalso
      rw [Array.all_eq_true'] at hi3
      have hback : ∀ k o, ops[k]? = some o → ∀ e ∈ o.after, Region.binds .any e = true → e.on < k := fun k o hk e he hb => (lexOK_spec hlex hk hk).1 e he hb
      have hclosed : ∀ k o, ops[k]? = some o → listed.getD k false = true → ∀ e ∈ o.after, Region.binds .any e = true → listed.getD e.on false = true := by
        intro k o hk hlk e he hb
        have hkl := (List.getElem?_eq_some_iff.1 hk).1
        rw [hls k hkl] at hlk
        have := hback k o hk e he hb
        rw [hls e.on (by omega)]
        simp at hlk ⊢; omega
      have := reach_listed hclosed hback (cutOK_spec hcut hlt hil (Nat.le_refl s) (by omega)) (fun o ho e he hb => by
        rw [hok] at ho; cases ho
        have := hi3 e he
        rw [hb] at this
        simpa using this)
      rw [hls s hsl] at this
      simp at this
    · omega
  have hin : s ∈ Region.ready .any ops.toArray listed := by
    unfold Region.ready
    rw [List.mem_filter]
    refine ⟨by simpa using hsl, ?_⟩
    have hc' : listed.getD s true = false := by
      have h1 := hls s hsl
      have : s < listed.size := by omega
      simpa [this] using h1
    simp only [hc', List.getElem?_toArray, ho, Option.map_some, Option.getD_some, Bool.not_false, Bool.true_and]
    rw [Array.all_eq_true']
    intro e he
    cases hbi : Region.binds .any e with
    | false => simp
    | true =>
      have hon := (lexOK_spec hlex ho ho).1 e he hbi
      have : listed.getD e.on false = true := by rw [hls _ (by omega)]; simpa using hon
      simp [this]
  refine ⟨fun hr => (by rw [hr] at hin; cases hin), fun i hi => ?_⟩
  obtain rfl := hready i hi
  have h1 := h a ha
  have hset : ∀ k, k < ops.length → (listed.setIfInBounds i true).getD k false = decide (k < i + 1) := by
    intro k hk
    by_cases hki : k = i
    · subst hki; simp [hsz, hsl]
    · have : i ≠ k := fun e => hki e.symm
      have h2 := hls k hk
      simp only [Array.getD_eq_getD_getElem?] at h2 ⊢
      rw [Array.getElem?_setIfInBounds_ne this, h2]
      have : (k < i) ↔ (k < i + 1) := by omega
      simp [this]
  unfold wpOpIn
  simp only [List.getElem?_toArray, ho]
  unfold wpListIn at h1
  split at h1
  · rename_i hwant
    rw [if_pos hwant]
    refine wpIn_shift h1 fun a' w' hK => ?_
    exact hK _ _ (by simpa using hsz) hset (by omega)
  · rename_i hwant
    rw [if_neg hwant]
    exact ⟨fun _ _ => trivial, h1.2 _ _ (by simpa using hsz) hset (by omega)⟩

theorem RW.nil {E : Env} {w : World} (h : KW N ds (Q .normal) E w) : RW P r Q N ds ops ops.length E w := by
  intro a ha listed fuel hsz hls _
  have hr : Region.ready .any ops.toArray listed = [] := by
    unfold Region.ready
    rw [List.filter_eq_nil_iff]
    intro k hk
    have hk : k < ops.length := by simpa using hk
    have h1 := hls k hk
    have : k < listed.size := by omega
    have h2 : listed.getD k true = true := by simpa [this, hk] using h1
    simp [h2]
  cases fuel with
  | zero => exact ⟨hr, h a ha⟩
  | succ f => exact ⟨fun _ => h a ha, fun i hi => by rw [hr] at hi; cases hi⟩

/-- The whole region. -/
theorem CW.drawM (m : Mode) {id : Nat} {E : Env} {w : World} (hm : P.follows .mixedOrders = true) (hlex : lexOK ops = true)
    (h : DW P N ds m ops w (fun D => ∀ a w', Below w.heap.size w w' → FitD N ds D a w' → Q .normal a w') ops (lift E)) : CW P r Q N ds (.region id ops.toArray true) E w := by
  refine CW.drawR hm fun W hb => RW.draw m ops.length hlex ?_ (Nat.ble_eq_true_of_le (Nat.zero_le _)) (Nat.ble_eq_true_of_le (Nat.le_refl _)) hb ?_
  · unfold cutOK
    have hlen : (masks ops).length = ops.length := by unfold masks; rw [masksGo_len]; simp
    rw [List.drop_eq_nil_of_le (by omega)]
    rfl
  · have e : stretch ops 0 ops.length = ops := by unfold stretch; simp
    rw [e]
    have mono : ∀ {F F' : DE → Prop} (hF : ∀ D, F D → F' D) (m : Mode) (rest : List Oper) (D : DE), DW P N ds m ops w F rest D → DW P N ds m ops w F' rest D := by
      intro F F' hF m rest
      induction rest with
      | nil => intro D h; cases m <;> exact hF D h
      | cons o rest ih =>
        intro D h
        cases m with
        | weak => obtain ⟨G, e, h1, h2⟩ := h; exact ⟨G, e, h1, ih _ h2⟩
        | own => obtain ⟨G, e, s, h1, h2⟩ := h; exact ⟨G, e, s, h1, ih _ h2⟩
    refine mono (fun D hD a w' hb' hfit listed fuel hsz hls hfu => ?_) m ops (lift E) h
    have hr : Region.ready .any ops.toArray listed = [] := by
      unfold Region.ready
      rw [List.filter_eq_nil_iff]
      intro k hk
      have hk : k < ops.length := by simpa using hk
      have h1 := hls k hk
      have : k < listed.size := by omega
      have h2 : listed.getD k true = true := by simpa [this, hk] using h1
      simp [h2]
    cases fuel with
    | zero => exact ⟨hr, hD a w' hb' hfit⟩
    | succ f => exact ⟨fun _ => hD a w' hb' hfit, fun i hi => by rw [hr] at hi; cases hi⟩

theorem CW.draw {id : Nat} {E : Env} {w : World} (hm : P.follows .mixedOrders = true) (hlex : lexOK ops = true)
    (h : DW P N ds .weak ops w (fun D => ∀ a w', Below w.heap.size w w' → FitD N ds D a w' → Q .normal a w') ops (lift E)) : CW P r Q N ds (.region id ops.toArray true) E w := CW.drawM .weak hm hlex h
theorem CW.drawO {id : Nat} {E : Env} {w : World} (hm : P.follows .mixedOrders = true) (hlex : lexOK ops = true)
    (h : DW P N ds .own ops w (fun D => ∀ a w', Below w.heap.size w w' → FitD N ds D a w' → Q .normal a w') ops (lift E)) : CW P r Q N ds (.region id ops.toArray true) E w := CW.drawM .own hm hlex h
end sound
end Go.PF
