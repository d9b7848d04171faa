/- A region that draws its order: every operation yields something that stays true while the heap grows: then whatever order is drawn, all of it holds at the end. -/
import Derived.Test.YthldjchogdefjaaDoorCtl
namespace Go.PF
open Go.RowKit

/-- What is known of a slot in such a region: its value, or something that stays true. -/
inductive Ent where
  | ex (v : Value)
  | pr (φ : Value → World → Prop)
  | own (φ : Value → World → Prop) (S : Value → Nat → Prop)

def Ent.sat : Ent → Value → World → Prop
  | .ex v, u, _ => u = v
  | .pr φ, u, w => φ u w
  | .own φ _, u, w => φ u w

def Ent.mono : Ent → Prop
  | .ex _ => True
  | .pr φ => ∀ v w w', Below w.heap.size w w' → φ v w → φ v w'
  | .own φ _ => ∀ v w w', Below w.heap.size w w' → φ v w → φ v w'

/-- The blocks that a value owns. -/
def Ent.foot : Ent → Value → Nat → Prop
  | .own _ S, v, g => S v g
  | _, _, _ => False

/-- What stays true while the blocks of old and the own blocks are as they are. -/
def Ent.strong (w0 : World) : Ent → Prop
  | .ex _ => True
  | .pr φ => ∀ v w w', Below w0.heap.size w w' → φ v w → φ v w'
  | .own φ S => (∀ v w w', Below w0.heap.size w w' → (∀ g, S v g → w'.heap[g]? = w.heap[g]?) → φ v w → φ v w') ∧ ∀ v w, φ v w → ∀ g, S v g → w0.heap.size ≤ g ∧ g < w.heap.size

/-- How a drawn region is read: nothing is written in place; or only blocks made in the region are, through the one slot that owns them. -/
inductive Mode where
  | weak
  | own

theorem Ent.sat_mono {e : Ent} (hm : e.mono) {v : Value} {w w' : World} (hb : Below w.heap.size w w') (h : e.sat v w) : e.sat v w' := by
  cases e with
  | ex u => exact h
  | pr φ => exact hm v w w' hb h
  | own φ S => exact hm v w w' hb h

abbrev DE := List (Nat × Option Bool × Ent)

def dlook : DE → Nat → Option (Option Bool × Ent)
  | [], _ => none
  | (j, c, e) :: D, i => match Nat.beq j i with
    | true => some (c, e)
    | false => dlook D i

def dins (D : DE) (d : Option Tmp) (c : Option Bool) (e : Ent) : DE :=
  match d with
  | none => D
  | some d => (d, c, e) :: D

/-- One slot. -/
def slotOK (c : Option Bool) (e : Ent) (u : Value) (w : World) : Prop := (Cnd c → e.sat u w) ∧ (¬ Cnd c → u = undef)

/-- The slots of L. -/
structure FitL (N : Nat) (ds : List Deferred) (L : List Nat) (D : DE) (a : Act) (w : World) : Prop where
  size : a.tmps.size = N
  defers : a.defers = ds
  slots : ∀ i ∈ L, ∀ c e, dlook D i = some (c, e) → slotOK c e (a.tmps.getD i undef) w

structure FitD (N : Nat) (ds : List Deferred) (D : DE) (a : Act) (w : World) : Prop where
  size : a.tmps.size = N
  defers : a.defers = ds
  slots : ∀ i c e, dlook D i = some (c, e) → slotOK c e (a.tmps.getD i undef) w

def dgd (ops : List Oper) (D : DE) : Option (Nat × Bool) → Option (Option Bool)
  | none => some none
  | some (j, want) => match (ops[j]?).bind (·.dst) with
    | none => none
    | some d => match dlook D d with
      | some (none, .ex (.bool b)) => match want with
        | true => some (some b)
        | false => some (some (!b))
      | some (some c, .ex (.bool b)) => match want with
        | true => some (some (c && b))
        | false => some (some (c && !b))
      | _ => none

def guardDst (ops : List Oper) (o : Oper) : Option Nat := match o.guard with
  | some (g, _) => (ops[g]?).bind (·.dst)
  | none => none

theorem dwanted_of {N : Nat} {ds : List Deferred} {L : List Nat} {D : DE} {a : Act} {w : World} {ops : List Oper} {o : Oper} {G : Option Bool} (h : FitL N ds L D a w) (hL : ∀ d, guardDst ops o = some d → d ∈ L) (hg : dgd ops D o.guard = some G) :
    (Cnd G → Region.wanted o (yielded ops.toArray a.tmps) = true) ∧ (¬ Cnd G → Region.wanted o (yielded ops.toArray a.tmps) = false) := by
  unfold guardDst at hL
  unfold Region.wanted
  cases hgu : o.guard with
  | none => rw [hgu] at hg; simp [dgd] at hg; subst hg; simp [Cnd]
  | some p =>
    obtain ⟨j, want⟩ := p
    rw [hgu] at hg hL
    simp only [dgd] at hg
    cases hd : (ops[j]?).bind (·.dst) with
    | none => rw [hd] at hg; simp at hg
    | some d =>
      rw [hd] at hg
      have hdL : d ∈ L := hL d (by simpa using hd)
      simp only at hg
      simp only [yielded_eq, hd, Option.bind_some]
      split at hg
      · rename_i b hl
        have h1 : a.tmps.getD d undef = .bool b := (h.slots d hdL none (.ex (.bool b)) hl).1 trivial
        have h2 : a.tmps[d]? = some (.bool b) := by
          rcases Nat.lt_or_ge d a.tmps.size with hlt | hge
          · exact getElem?_getD hlt h1
          · simp [Array.getElem?_eq_none hge, undef] at h1
        rw [h2]
        cases want <;> simp at hg <;> subst hg <;> simp [Cnd, boolOf]
      · rename_i c b hl
        obtain ⟨h1, h1'⟩ := h.slots d hdL (some c) (.ex (.bool b)) hl
        cases c with
        | true =>
          have h1 : a.tmps.getD d undef = .bool b := h1 rfl
          have h2 : a.tmps[d]? = some (.bool b) := by
            rcases Nat.lt_or_ge d a.tmps.size with hlt | hge
            · exact getElem?_getD hlt h1
            · simp [Array.getElem?_eq_none hge, undef] at h1
          rw [h2]
          cases want <;> simp at hg <;> subst hg <;> simp [Cnd, boolOf]
        | false =>
          have h1' := h1' (by simp [Cnd])
          have h2 : ∀ b, a.tmps[d]? ≠ some (.bool b) := by
            intro b hb
            simp [hb, undef] at h1'
          rw [boolOf_ne h2]
          cases want <;> simp at hg <;> subst hg <;> simp [Cnd]
      · cases hg

/-- The operation yields 'e', in the world that it got or one that extends it. -/
def OpGives (P : Program) (o : Oper) (a : Act) (w : World) (e : Ent) : Prop :=
  (∃ v w', (execOp a.eval o).run P w = .ok (.value v) w' ∧ Below w.heap.size w w' ∧ e.sat v w') ∨
  (∃ f vs, (execOp a.eval o).run P w = .ok (.enter f vs) w ∧ Gives P f vs w fun v w' => Below w.heap.size w w' ∧ e.sat v w')

/-- One step of the lexical walk. -/
def DOne (P : Program) (N : Nat) (ds : List Deferred) (ops : List Oper) (w0 : World) (o : Oper) (D : DE) (G : Option Bool) (e : Ent) : Prop :=
  dgd ops D o.guard = some G ∧ okDst N o.dst = true ∧ noDefer o.op = true ∧ e.mono ∧
  (Cnd G → ∀ a w, Below w0.heap.size w0 w → FitL N ds (o.looksAt ops.toArray) D a w → OpGives P o a w e)

def hasN : List Nat → Nat → Bool
  | [], _ => false
  | j :: s, i => match Nat.beq j i with
    | true => true
    | false => hasN s i
def ddrop : DE → List Nat → DE
  | [], _ => []
  | (j, c, e) :: D, s => match hasN s j with
    | true => ddrop D s
    | false => (j, c, e) :: ddrop D s

/-- The blocks of the slots that are eaten. -/
def EatF (D : DE) (eats : List Nat) (a : Act) (g : Nat) : Prop := ∃ s c e, hasN eats s = true ∧ dlook D s = some (c, e) ∧ Cnd c ∧ e.foot (a.tmps.getD s undef) g
/-- A step that writes no block made in the region but E's. -/
def StepO (w0 w w' : World) (E : Nat → Prop) : Prop := Below w0.heap.size w w' ∧ ∀ b, w0.heap.size ≤ b → b < w.heap.size → ¬ E b → w'.heap[b]? = w.heap[b]?
def OpGivesO (P : Program) (w0 : World) (o : Oper) (a : Act) (w : World) (e : Ent) (E : Nat → Prop) : Prop :=
  (∃ v w', (execOp a.eval o).run P w = .ok (.value v) w' ∧ StepO w0 w w' E ∧ e.sat v w' ∧ ∀ g, e.foot v g → E g ∨ w.heap.size ≤ g) ∨
  (∃ f vs, (execOp a.eval o).run P w = .ok (.enter f vs) w ∧ Gives P f vs w fun v w' => StepO w0 w w' E ∧ e.sat v w' ∧ ∀ g, e.foot v g → E g ∨ w.heap.size ≤ g)
/-- Only this operation looks at what it eats. -/
def sole (ops : List Oper) (o : Oper) (eats : List Nat) : Bool := eats.all fun s => (o.looksAt ops.toArray).contains s && Nat.ble (ops.filter fun p => (p.looksAt ops.toArray).contains s).length 1
def DOneO (P : Program) (N : Nat) (ds : List Deferred) (ops : List Oper) (w0 : World) (o : Oper) (D : DE) (G : Option Bool) (e : Ent) (eats : List Nat) : Prop :=
  dgd ops D o.guard = some G ∧ okDst N o.dst = true ∧ noDefer o.op = true ∧ e.strong w0 ∧ sole ops o eats = true ∧ (∀ s, s ∈ eats → ∃ c φ S, dlook D s = some (c, .own φ S)) ∧
  (Cnd G → ∀ a w, Below w0.heap.size w0 w → FitL N ds (o.looksAt ops.toArray) D a w → OpGivesO P w0 o a w e (EatF D eats a))

/-- The lexical walk. -/
def DW (P : Program) (N : Nat) (ds : List Deferred) (m : Mode) (ops : List Oper) (w0 : World) (Fin : DE → Prop) : List Oper → DE → Prop
  | [], D => Fin D
  | o :: rest, D => match m with
    | .weak => ∃ G e, DOne P N ds ops w0 o D G e ∧ DW P N ds .weak ops w0 Fin rest (dins D o.dst G e)
    | .own => ∃ G e eats, DOneO P N ds ops w0 o D G e eats ∧ DW P N ds .own ops w0 Fin rest (dins (ddrop D eats) o.dst G e)

theorem ddrop_nil : ∀ D : DE, ddrop D [] = D
  | [] => rfl
  | (j, c, e) :: D => by simp [ddrop, hasN, ddrop_nil D]

def lexOK (ops : List Oper) : Bool :=
  ops.zipIdx.all fun (o, i) =>
    (o.after.all fun e => !Region.binds .any e || Nat.blt e.on i) &&
    ops.zipIdx.all fun (p, k) => match p.dst with
      | none => true
      | some d => (Nat.beq k i || o.dst != some d) &&
        (!(o.looksAt ops.toArray).contains d ||
          (if Nat.blt k i then o.after.any (fun e => Region.binds .any e && Nat.beq e.on k) else (Nat.beq k i || p.after.any (fun e => Region.binds .any e && Nat.beq e.on i))))

theorem blt_iff {a b : Nat} : Nat.blt a b = true ↔ a < b := by
  unfold Nat.blt
  exact ⟨fun h => Nat.le_of_ble_eq_true h, fun h => Nat.ble_eq_true_of_le h⟩

section sound
variable {P : Program} {r : Option Nat} {Q : Exit → Act → World → Prop} {N : Nat} {ds : List Deferred} {ops : List Oper} {w0 : World}

theorem lexOK_spec (h : lexOK ops = true) {i k : Nat} {o p : Oper} (ho : ops[i]? = some o) (hp : ops[k]? = some p) :
    (∀ e ∈ o.after, Region.binds .any e = true → e.on < i) ∧ ∀ d, p.dst = some d → (k = i ∨ o.dst ≠ some d) ∧
      (d ∈ o.looksAt ops.toArray → (k < i → ∃ e ∈ o.after, Region.binds .any e = true ∧ e.on = k) ∧ (i ≤ k → k = i ∨ ∃ e ∈ p.after, Region.binds .any e = true ∧ e.on = i)) := by
  unfold lexOK at h
  rw [List.all_eq_true] at h
  have h1 := h (o, i) (by rw [List.mem_zipIdx_iff_getElem?]; simpa using ho)
  simp only [Bool.and_eq_true, List.all_eq_true] at h1
  obtain ⟨h1, h2⟩ := h1
  refine ⟨fun e he hbi => ?_, fun d hd => ?_⟩
  · rw [Array.all_eq_true'] at h1
    have := h1 e he
    rw [hbi] at this
    exact blt_iff.1 (by simpa using this)
  · have h3 := h2 (p, k) (by rw [List.mem_zipIdx_iff_getElem?]; simpa using hp)
    simp only [hd, Bool.and_eq_true, Bool.or_eq_true] at h3
    obtain ⟨h3, h4⟩ := h3
    refine ⟨?_, fun hm => ?_⟩
    · rcases h3 with h3 | h3
      · exact .inl (Nat.eq_of_beq_eq_true h3)
      · right; simpa using h3
    · rcases h4 with h4 | h4
      · simp at h4; exact absurd hm h4
      · refine ⟨fun hlt => ?_, fun hge => ?_⟩
        · have hb : Nat.blt k i = true := blt_iff.2 hlt
          rw [hb, if_pos rfl] at h4
          rw [Array.any_eq_true'] at h4
          obtain ⟨e, he, h5⟩ := h4
          simp only [Bool.and_eq_true] at h5
          exact ⟨e, he, h5.1, Nat.eq_of_beq_eq_true h5.2⟩
        · have hb : Nat.blt k i = false := by
            cases hq : Nat.blt k i with
            | false => rfl
            | true => exact absurd (blt_iff.1 hq) (by omega)
          rw [hb] at h4
          simp only [Bool.false_eq_true, if_false, Bool.or_eq_true] at h4
          rcases h4 with h4 | h4
          · exact .inl (Nat.eq_of_beq_eq_true h4)
          · rw [Array.any_eq_true'] at h4
            obtain ⟨e, he, h5⟩ := h4
            simp only [Bool.and_eq_true] at h5
            exact .inr ⟨e, he, h5.1, Nat.eq_of_beq_eq_true h5.2⟩

theorem looks_guard {o : Oper} {d : Nat} (h : guardDst ops o = some d) : d ∈ o.looksAt ops.toArray := by
  unfold guardDst at h
  unfold Oper.looksAt
  cases hg : o.guard with
  | none => rw [hg] at h; cases h
  | some p =>
    obtain ⟨g, b⟩ := p
    rw [hg] at h
    simp only [List.mem_append]
    right
    simp only [List.getElem?_toArray]
    simp at h ⊢
    exact h

def lift : Env → DE
  | [] => []
  | (i, c, v) :: E => (i, c, .ex v) :: lift E

theorem dlook_lift : ∀ (E : Env) (i : Nat), dlook (lift E) i = (look E i).map fun p => (p.1, Ent.ex p.2)
  | [], i => rfl
  | (j, c, v) :: E, i => by
    simp only [lift, dlook, look]
    cases Nat.beq j i with
    | true => rfl
    | false => exact dlook_lift E i

end sound

section steps
variable {P : Program} {N : Nat} {ds : List Deferred} {ops rest : List Oper} {w : World} {D : DE} {G : Option Bool} {Fin : DE → Prop}

def dev (D : DE) : Operand → Option (Option Bool × Ent)
  | .tmp t => dlook D t
  | .const v => some (none, .ex v)
  | .global g => some (none, .ex (.pointer (some ⟨g, 0, none⟩)))
  | .func f => some (none, .ex (.func (.func f) #[] #[]))

theorem mem_looks {o : Oper} {t : Nat} (h : Operand.tmp t ∈ o.op.operands.toList) : t ∈ o.looksAt ops.toArray := by
  unfold Oper.looksAt
  rw [List.mem_append]
  left
  rw [List.mem_filterMap]
  exact ⟨.tmp t, h, rfl⟩

theorem FitL.sat {L : List Nat} {a : Act} (h : FitL N ds L D a w) {x : Operand} {c : Option Bool} {e : Ent} (hx : dev D x = some (c, e)) (hL : ∀ t, x = .tmp t → t ∈ L) (hc : Cnd c) : e.sat (a.eval x) w := by
  cases x with
  | tmp t => exact (h.slots t (hL t rfl) c e hx).1 hc
  | const u => simp [dev] at hx; rw [← hx.2]; rfl
  | global g => simp [dev] at hx; rw [← hx.2]; rfl
  | func f => simp [dev] at hx; rw [← hx.2]; rfl

theorem FitL.evalL {L : List Nat} {a : Act} (h : FitL N ds L D a w) {x : Operand} {c : Option Bool} {v : Value} (hx : dev D x = some (c, .ex v)) (hL : ∀ t, x = .tmp t → t ∈ L) (hc : Cnd c) : a.eval x = v := h.sat hx hL hc

theorem FitL.eval {o : Oper} {a : Act} (h : FitL N ds (o.looksAt ops.toArray) D a w) {x : Operand} {c : Option Bool} {v : Value} (hx : dev D x = some (c, .ex v)) (hm : x ∈ o.op.operands.toList) (hc : Cnd c) : a.eval x = v :=
  h.evalL hx (fun _ ht => mem_looks (ht ▸ hm)) hc

theorem FitL.evalP {o : Oper} {a : Act} (h : FitL N ds (o.looksAt ops.toArray) D a w) {x : Operand} {c : Option Bool} {φ : Value → World → Prop} (hx : dev D x = some (c, .pr φ)) (hm : x ∈ o.op.operands.toList) (hc : Cnd c) : φ (a.eval x) w :=
  h.sat hx (fun _ ht => mem_looks (ht ▸ hm)) hc

theorem DW.nil {m : Mode} (h : Fin D) : DW P N ds m ops w Fin [] D := by cases m <;> exact h

theorem DW.val {m : Mode} {o : Oper} {v : Value} (hg : dgd ops D o.guard = some G) (hd : okDst N o.dst = true) (hn : noDefer o.op = true)
    (hrun : Cnd G → ∀ a w', Below w.heap.size w w' → FitL N ds (o.looksAt ops.toArray) D a w' → (execOp a.eval o).run P w' = .ok (.value v) w') (next : DW P N ds m ops w Fin rest (dins D o.dst G (.ex v))) : DW P N ds m ops w Fin (o :: rest) D := by
  cases m with
  | weak => exact ⟨G, .ex v, ⟨hg, hd, hn, trivial, fun hG a w' hb ha => .inl ⟨v, w', hrun hG a w' hb ha, Below.refl _ _, rfl⟩⟩, next⟩
  | own => exact ⟨G, .ex v, [], ⟨hg, hd, hn, trivial, rfl, fun s hs => by simp at hs, fun hG a w' hb ha => .inl ⟨v, w', hrun hG a w' hb ha, ⟨Below.refl _ _, fun _ _ _ _ => rfl⟩, rfl, fun _ h => h.elim⟩⟩, by rw [ddrop_nil]; exact next⟩

/-- An operation that yields something that stays true, in an extension of the world. -/
theorem DW.gen {o : Oper} {e : Ent} (hg : dgd ops D o.guard = some G) (hd : okDst N o.dst = true) (hn : noDefer o.op = true) (hm : e.mono)
    (hrun : Cnd G → ∀ a w', Below w.heap.size w w' → FitL N ds (o.looksAt ops.toArray) D a w' → ∃ v w'', (execOp a.eval o).run P w' = .ok (.value v) w'' ∧ Below w'.heap.size w' w'' ∧ e.sat v w'') (next : DW P N ds .weak ops w Fin rest (dins D o.dst G e)) : DW P N ds .weak ops w Fin (o :: rest) D :=
  ⟨G, e, ⟨hg, hd, hn, hm, fun hG a w' hb ha => .inl (hrun hG a w' hb ha)⟩, next⟩

theorem DW.enter {o : Oper} {e : Ent} (hg : dgd ops D o.guard = some G) (hd : okDst N o.dst = true) (hn : noDefer o.op = true) (hm : e.mono)
    (hrun : Cnd G → ∀ a w', Below w.heap.size w w' → FitL N ds (o.looksAt ops.toArray) D a w' → ∃ f vs, (execOp a.eval o).run P w' = .ok (.enter f vs) w' ∧ Gives P f vs w' fun v w'' => Below w'.heap.size w' w'' ∧ e.sat v w'') (next : DW P N ds .weak ops w Fin rest (dins D o.dst G e)) : DW P N ds .weak ops w Fin (o :: rest) D :=
  ⟨G, e, ⟨hg, hd, hn, hm, fun hG a w' hb ha => .inr (hrun hG a w' hb ha)⟩, next⟩

/-- Back to an environment: the slots asked for that hold known values. -/
def dpick (D : DE) : List Nat → Option Env
  | [] => some []
  | i :: is => match dlook D i with
    | some (c, .ex v) => match dpick D is with
      | some E => some ((i, c, v) :: E)
      | none => none
    | _ => none

theorem look_dpick {D : DE} : ∀ {is : List Nat} {E : Env}, dpick D is = some E → ∀ i c v, look E i = some (c, v) → dlook D i = some (c, .ex v)
  | [], E, h, i, c, v, hl => by simp [dpick] at h; subst h; simp [look] at hl
  | j :: is, E, h, i, c, v, hl => by
    simp only [dpick] at h
    split at h
    · rename_i c' v' hj
      split at h
      · rename_i E' hE
        simp only [Option.some.injEq] at h
        subst h
        simp only [look] at hl
        by_cases hi : j = i
        · subst hi
          rw [beq_self] at hl
          simp only [Option.some.injEq, Prod.mk.injEq] at hl
          obtain ⟨rfl, rfl⟩ := hl
          exact hj
        · rw [beq_ne hi] at hl
          exact look_dpick hE i c v hl
      · cases h
    · cases h

theorem FitD.pick {E : Env} {is : List Nat} {a : Act} (h : FitD N ds D a w) (hp : dpick D is = some E) : Fit N ds E a :=
  ⟨h.size, h.defers, fun i c v hl => h.slots i c (.ex v) (look_dpick hp i c v hl)⟩

/-- The region's end: the slots asked for. -/
theorem DW.fin {K : Act → World → Prop} (is : List Nat) (E : Env) (hp : dpick D is = some E) (h : ∀ w', Below w.heap.size w w' → KW N ds K E w') : ∀ a w', Below w.heap.size w w' → FitD N ds D a w' → K a w' :=
  fun a w' hb ha => h w' hb a (ha.pick hp)

/-- The region's end, with one slot of which something is known. -/
theorem DW.fin1 {K : Act → World → Prop} (s : Nat) {φ : Value → World → Prop} (hs : dlook D s = some (none, .pr φ)) (is : List Nat) (E : Env) (hp : dpick D is = some E) (h : ∀ v w', Below w.heap.size w w' → φ v w' → KW N ds K ((s, none, v) :: E) w') :
    ∀ a w', Below w.heap.size w w' → FitD N ds D a w' → K a w' := fun a w' hb ha => by
  refine h (a.tmps.getD s undef) w' hb ((ha.slots s none _ hs).1 trivial) a ⟨ha.size, ha.defers, fun i c v hl => ?_⟩
  simp only [look] at hl
  by_cases hi : s = i
  · subst hi
    rw [beq_self] at hl
    simp only [Option.some.injEq, Prod.mk.injEq] at hl
    obtain ⟨rfl, rfl⟩ := hl
    exact ⟨fun _ => rfl, fun h => absurd trivial h⟩
  · rw [beq_ne hi] at hl
    exact (ha.pick hp).slots i c v hl
end steps
end Go.PF
