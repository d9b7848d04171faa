/- The framework: an environment of known slots, stepping rules over it (no program in sight). -/
import Derived.TacticsIn
import Derived.OrdersIn
import Derived.Below
import Derived.Laws.Slices
import Derived.Laws.Strings
import Derived.Laws.StructEq
import Derived.Laws.Small
import Derived.Laws.Build
namespace Go.PF
open Go.RowKit

/-- The fence that lets all by; 'r': the round's loop, if the walked code is a round's body. -/
abbrev FR (r : Option Nat) : Fence := { Fence.wide with round := r }

/-- A condition: none: always. -/
def Cnd : Option Bool → Prop
  | none => True
  | some b => b = true

abbrev Env := List (Nat × Option Bool × Value)

def look : Env → Nat → Option (Option Bool × Value)
  | [], _ => none
  | (j, c, v) :: E, i => match Nat.beq j i with
    | true => some (c, v)
    | false => look E i

/-- The frame fits the environment. -/
structure Fit (N : Nat) (ds : List Deferred) (E : Env) (a : Act) : Prop where
  size : a.tmps.size = N
  defers : a.defers = ds
  slots : ∀ i c v, look E i = some (c, v) → (Cnd c → a.tmps.getD i undef = v) ∧ (¬ Cnd c → a.tmps.getD i undef = undef)

def ev (E : Env) : Operand → Option (Option Bool × Value)
  | .tmp t => look E t
  | .const v => some (none, v)
  | .global g => some (none, .pointer (some ⟨g, 0, none⟩))
  | .func f => some (none, .func (.func f) #[] #[])

theorem beq_ne {d i : Nat} (h : d ≠ i) : Nat.beq d i = false := by
  cases hb : Nat.beq d i with
  | false => rfl
  | true => exact absurd (Nat.eq_of_beq_eq_true hb) h
theorem beq_self (d : Nat) : Nat.beq d d = true := Nat.beq_refl d

theorem Fit.eval {N : Nat} {ds : List Deferred} {E : Env} {a : Act} (h : Fit N ds E a) {x : Operand} {c : Option Bool} {v : Value} (hx : ev E x = some (c, v)) (hc : Cnd c) : a.eval x = v := by
  cases x with
  | tmp t => exact (h.slots t c v hx).1 hc
  | const u => simp [ev] at hx; exact hx.2
  | global g => simp [ev] at hx; exact hx.2
  | func f => simp [ev] at hx; exact hx.2

def ins (E : Env) (d : Option Tmp) (c : Option Bool) (v : Value) : Env :=
  match d with
  | none => E
  | some d => (d, c, v) :: E

def okDst (N : Nat) : Option Tmp → Bool
  | none => true
  | some d => Nat.blt d N

theorem Fit.put {N : Nat} {ds : List Deferred} {E : Env} {a : Act} (h : Fit N ds E a) {d : Option Tmp} {c : Option Bool} {v u : Value} (hd : okDst N d = true) (h1 : Cnd c → u = v) (h2 : ¬ Cnd c → u = undef) :
    Fit N ds (ins E d c v) (a.put d u) := by
  cases d with
  | none => exact h
  | some d =>
    have hd' : d < N := by simpa [okDst] using hd
    refine ⟨by simp [Act.put, h.size], by simp [Act.put, h.defers], fun i c' v' hl => ?_⟩
    simp only [ins, look] at hl
    by_cases hi : d = i
    · subst hi
      have e : Nat.beq d d = true := beq_self d
      rw [e] at hl
      simp only [Option.some.injEq, Prod.mk.injEq] at hl
      obtain ⟨rfl, rfl⟩ := hl
      have : (a.put (some d) u).tmps.getD d undef = u := by
        simp [Act.put, h.size, hd']
      rw [this]
      exact ⟨h1, h2⟩
    · have e : Nat.beq d i = false := beq_ne hi
      rw [e] at hl
      have : (a.put (some d) u).tmps.getD i undef = a.tmps.getD i undef := by
        simp [Act.put, Array.getElem?_setIfInBounds_ne hi]
      rw [this]
      exact h.slots i c' v' hl

/-- The guard of an operation, read off the environment. -/
def gd (ops : List Oper) (E : Env) : Option (Nat × Bool) → Option (Option Bool)
  | none => some none
  | some (j, want) => match (ops[j]?).bind (·.dst) with
    | none => none
    | some d => match look E d with
      | some (none, .bool b) => match want with
        | true => some (some b)
        | false => some (some (!b))
      | some (some c, .bool b) => match want with
        | true => some (some (c && b))
        | false => some (some (c && !b))
      | _ => none

theorem getElem?_getD {a : Array Value} {d : Nat} {v : Value} (h : d < a.size) (e : a.getD d undef = v) : a[d]? = some v := by
  rw [← e]; simp [h]

def boolOf : Option Value → Option Bool
  | some (.bool b) => some b
  | _ => none

theorem yielded_eq (ops : List Oper) (t : Array Value) (j : Nat) : yielded ops.toArray t j = boolOf (((ops[j]?).bind (·.dst)).bind (t[·]?)) := by
  unfold yielded boolOf
  simp only [List.getElem?_toArray]
  split <;> split <;> simp_all

theorem boolOf_ne {x : Option Value} (h : ∀ b, x ≠ some (.bool b)) : boolOf x = none := by
  unfold boolOf
  split
  · rename_i b; exact absurd rfl (h b)
  · rfl

theorem wanted_of {N : Nat} {ds : List Deferred} {E : Env} {a : Act} {ops : List Oper} {o : Oper} {G : Option Bool} (h : Fit N ds E a) (hg : gd ops E o.guard = some G) :
    (Cnd G → Region.wanted o (yielded ops.toArray a.tmps) = true) ∧ (¬ Cnd G → Region.wanted o (yielded ops.toArray a.tmps) = false) := by
  unfold Region.wanted
  cases hgu : o.guard with
  | none => rw [hgu] at hg; simp [gd] at hg; subst hg; simp [Cnd]
  | some p =>
    obtain ⟨j, want⟩ := p
    rw [hgu] at hg
    simp only [gd] at hg
    cases hd : (ops[j]?).bind (·.dst) with
    | none => rw [hd] at hg; simp at hg
    | some d =>
      rw [hd] at hg
      simp only at hg
      simp only [yielded_eq, hd, Option.bind_some]
      split at hg
      · rename_i b hl
        have h1 := (h.slots d none (.bool b) hl).1 trivial
        have h2 : a.tmps[d]? = some (.bool b) := by
          rcases Nat.lt_or_ge d a.tmps.size with hlt | hge
          · exact getElem?_getD hlt h1
          · simp [Array.getElem?_eq_none hge, undef] at h1
        rw [h2]
        cases want <;> simp at hg <;> subst hg <;> simp [Cnd, boolOf]
      · rename_i c b hl
        obtain ⟨h1, h1'⟩ := h.slots d (some c) (.bool b) hl
        cases c with
        | true =>
          have h1 := h1 rfl
          have h2 : a.tmps[d]? = some (.bool b) := by
            rcases Nat.lt_or_ge d a.tmps.size with hlt | hge
            · exact getElem?_getD hlt h1
            · simp [Array.getElem?_eq_none hge, undef] at h1
          rw [h2]
          cases want <;> simp at hg <;> subst hg <;> simp [Cnd, boolOf]
        | false =>
          have h1' := h1' (by simp [Cnd])
          have h2 : ∀ b, a.tmps[d]? ≠ some (.bool b) := by
            intro b hb
            simp [hb, undef] at h1'
          rw [boolOf_ne h2]
          cases want <;> simp at hg <;> subst hg <;> simp [Cnd]
      · cases hg

def noDefer : Op → Bool
  | .defer _ => false
  | _ => true

theorem semAt_of {r : Option Nat} {ρ : Operand → Value} {o : Oper} (h : noDefer o.op = true) : Oper.semAt r ρ o = execOp ρ o :=
  Oper.semAt_eq r ρ o fun c hc => by rw [hc] at h; cases h

section
variable {P : Program} {r : Option Nat} {Q : Exit → Act → World → Prop} {N : Nat} {ds : List Deferred}

/-- The rest of a region in the text's order, over the environment. -/
def TW (P : Program) (r : Option Nat) (Q : Exit → Act → World → Prop) (N : Nat) (ds : List Deferred) (ops rest : List Oper) (E : Env) (w : World) : Prop :=
  ∀ a, Fit N ds E a → wpListIn (FR r) 0 P ops.toArray Q rest a w

/-- Code over the environment. -/
def CW (P : Program) (r : Option Nat) (Q : Exit → Act → World → Prop) (N : Nat) (ds : List Deferred) (c : Code) (E : Env) (w : World) : Prop :=
  ∀ a, Fit N ds E a → c.wpIn (FR r) 0 P Q a w

/-- A continuation over the environment. -/
def KW (N : Nat) (ds : List Deferred) (K : Act → World → Prop) (E : Env) (w : World) : Prop := ∀ a, Fit N ds E a → K a w

theorem TW.nil {ops : List Oper} {E : Env} {w : World} (h : KW N ds (Q .normal) E w) : TW P r Q N ds ops [] E w := fun a ha => h a ha

theorem CW.region {id : Nat} {ops : List Oper} {E : Env} {w : World} (h : TW P r Q N ds ops ops E w) : CW P r Q N ds (.region id ops.toArray false) E w :=
  fun a ha => wpIn_region_lit (h a ha)

theorem CW.seq {x y : Code} {E : Env} {w : World} (h : CW P r (Exit.then (y.wpIn (FR r) 0 P Q) Q) N ds x E w) : CW P r Q N ds (.seq x y) E w :=
  fun a ha => wpIn_seq (h a ha)

theorem CW.block {id : Nat} {c : Code} {E : Env} {w : World} (h : CW P r (Exit.inBlock id Q) N ds c E w) : CW P r Q N ds (.block id c) E w :=
  fun a ha => wpIn_block (h a ha)

theorem CW.skip {E : Env} {w : World} (h : KW N ds (Q .normal) E w) : CW P r Q N ds .skip E w := fun a ha => wpIn_skip (h a ha)
theorem CW.exit {id : Nat} {E : Env} {w : World} (h : KW N ds (Q (.exit id)) E w) : CW P r Q N ds (.exit id) E w := fun a ha => wpIn_exit (h a ha)
theorem CW.ret {E : Env} {w : World} (h : KW N ds (Q .ret) E w) : CW P r Q N ds .ret E w := fun a ha => wpIn_ret (h a ha)

theorem CW.cond {c : Operand} {x y : Code} {b : Bool} {E : Env} {w : World} (hc : ev E c = some (none, .bool b)) (ht : b = true → CW P r Q N ds x E w) (hf : b = false → CW P r Q N ds y E w) :
    CW P r Q N ds (.cond c x y) E w :=
  fun a ha => wpIn_cond_split (ha.eval hc trivial) (fun h => ht h a ha) (fun h => hf h a ha)

/-- Fewer slots. -/
def pick (E : Env) : List Nat → Option Env
  | [] => some []
  | i :: is => match look E i with
    | none => none
    | some (c, v) => match pick E is with
      | none => none
      | some E' => some ((i, c, v) :: E')

theorem look_pick {E : Env} : ∀ {is : List Nat} {E' : Env}, pick E is = some E' → ∀ i c v, look E' i = some (c, v) → look E i = some (c, v)
  | [], E', h, i, c, v, hl => by simp [pick] at h; subst h; simp [look] at hl
  | j :: is, E', h, i, c, v, hl => by
    simp only [pick] at h
    split at h
    · cases h
    · rename_i c' v' hj
      split at h
      · cases h
      · rename_i E'' hE
        simp only [Option.some.injEq] at h
        subst h
        simp only [look] at hl
        by_cases hi : j = i
        · subst hi
          have e : Nat.beq j j = true := beq_self j
          rw [e] at hl
          simp only [Option.some.injEq, Prod.mk.injEq] at hl
          obtain ⟨rfl, rfl⟩ := hl
          exact hj
        · have e : Nat.beq j i = false := beq_ne hi
          rw [e] at hl
          exact look_pick hE i c v hl

theorem Fit.pick {E E' : Env} {is : List Nat} {a : Act} (h : Fit N ds E a) (hp : PF.pick E is = some E') : Fit N ds E' a :=
  ⟨h.size, h.defers, fun i c v hl => h.slots i c v (look_pick hp i c v hl)⟩

theorem KW.pick {K : Act → World → Prop} {E : Env} {w : World} (is : List Nat) (E' : Env) (hp : PF.pick E is = some E') (h : KW N ds K E' w) : KW N ds K E w := fun a ha => h a (ha.pick hp)
theorem CW.pick {c : Code} {E : Env} {w : World} (is : List Nat) (E' : Env) (hp : PF.pick E is = some E') (h : CW P r Q N ds c E' w) : CW P r Q N ds c E w := fun a ha => h a (ha.pick hp)

/-- The loop: 'E x', 'J x w': what holds at a round's head for the ghost x; 'm x': a measure. -/
theorem CW.loop {α : Type} {c : Code} {E0 : Env} {w : World} (E : α → Env) (J : α → World → Prop) (m : α → Nat) (x0 : α) (h0 : J x0 w) (hE : ∀ a, Fit N ds E0 a → Fit N ds (E x0) a)
    (round : ∀ x w, J x w → CW P r (Exit.then (fun a' w' => ∃ x', Fit N ds (E x') a' ∧ J x' w' ∧ m x' < m x) Q) N ds c (E x) w) : CW P r Q N ds (.loop c) E0 w := by
  classical
  intro a ha
  let I : Act → World → Prop := fun a w => ∃ x, Fit N ds (E x) a ∧ J x w
  let M : Act → World → Nat → Prop := fun a w n => ∃ x, Fit N ds (E x) a ∧ J x w ∧ m x = n
  -- the least measure of a ghost that fits
  have hex : ∀ a w, I a w → ∃ n, M a w n ∧ ∀ k, M a w k → n ≤ k := by
    intro a w ⟨x, h1, h2⟩
    have key : ∀ k, (∃ j, j ≤ k ∧ M a w j) → ∃ n, M a w n ∧ ∀ k, M a w k → n ≤ k := by
      intro k
      induction k with
      | zero =>
        rintro ⟨j, hj, hm⟩
        have : j = 0 := by omega
        subst this
        exact ⟨0, hm, fun k _ => Nat.zero_le k⟩
      | succ k ih =>
        rintro ⟨j, hj, hm⟩
        by_cases hk : ∃ j, j ≤ k ∧ M a w j
        · exact ih hk
        · refine ⟨j, hm, fun i hi => ?_⟩
          rcases Nat.lt_or_ge i j with hlt | hge
          · exact absurd ⟨i, by omega, hi⟩ hk
          · exact hge
    exact key (m x) ⟨m x, Nat.le_refl _, x, h1, h2, rfl⟩
  let μ : Act → World → Nat := fun a w => if h : I a w then Classical.choose (hex a w h) else 0
  have hμ : ∀ a w, I a w → ∃ x, Fit N ds (E x) a ∧ J x w ∧ m x = μ a w := by
    intro a w h
    have := (Classical.choose_spec (hex a w h)).1
    simpa [μ, h] using this
  have hμle : ∀ a w x, Fit N ds (E x) a → J x w → μ a w ≤ m x := by
    intro a w x h1 h2
    have hI : I a w := ⟨x, h1, h2⟩
    have := (Classical.choose_spec (hex a w hI)).2 (m x) ⟨x, h1, h2, rfl⟩
    simpa [μ, hI] using this
  refine wpIn_loop I μ ⟨x0, hE a ha, h0⟩ fun a1 w1 hI => ?_
  obtain ⟨x, h1, h2, h3⟩ := hμ a1 w1 hI
  refine wpIn_mono (round x w1 h2 a1 h1) fun e a2 w2 hq => ?_
  cases e with
  | normal =>
    obtain ⟨x', q1, q2, q3⟩ := hq
    exact ⟨⟨x', q1, q2⟩, by rw [← h3]; exact Nat.lt_of_le_of_lt (hμle a2 w2 x' q1 q2) q3⟩
  | _ => exact hq

end
end Go.PF
