/- Texts joined: Fw Base Ctl Draw Ops Rep Mem Range Own More Pr DrawO. -/
import Derived.TacticsIn
import Derived.OrdersIn
import Derived.Below
import Derived.Laws.Slices
import Derived.Laws.Strings
import Derived.Laws.StructEq
import Derived.Laws.Small
import Derived.Laws.Build
import Derived.Laws.Tables
import Derived.Laws.Rows
import Derived.Great.BuildSlice
import Derived.RangeFuncLeaves
import Derived.Maps.AppendAt
import Derived.RangeFuncNested
import Derived.Lib.SliceRun
set_option linter.unusedSimpArgs false
set_option linter.unusedVariables false

/- The framework: an environment of known slots, stepping rules over it (no program in sight). -/
namespace Go.PF
open Go.RowKit

/-- The fence that lets all by; 'r': the round's loop, if the walked code is a round's body. -/
abbrev FR (r : Option Nat) : Fence := { Fence.wide with round := r }

/-- A condition: none: always. -/
def Cnd : Option Bool → Prop
  | none => True
  | some b => b = true

abbrev Env := List (Nat × Option Bool × Value)

def look : Env → Nat → Option (Option Bool × Value)
  | [], _ => none
  | (j, c, v) :: E, i => match Nat.beq j i with
    | true => some (c, v)
    | false => look E i

/-- The frame fits the environment. -/
structure Fit (N : Nat) (ds : List Deferred) (E : Env) (a : Act) : Prop where
  size : a.tmps.size = N
  defers : a.defers = ds
  slots : ∀ i c v, look E i = some (c, v) → (Cnd c → a.tmps.getD i undef = v) ∧ (¬ Cnd c → a.tmps.getD i undef = undef)

def ev (E : Env) : Operand → Option (Option Bool × Value)
  | .tmp t => look E t
  | .const v => some (none, v)
  | .global g => some (none, .pointer (some ⟨g, 0, none⟩))
  | .func f => some (none, .func (.func f) #[] #[])

theorem beq_ne {d i : Nat} (h : d ≠ i) : Nat.beq d i = false := by
  cases hb : Nat.beq d i with
  | false => rfl
  | true => exact absurd (Nat.eq_of_beq_eq_true hb) h
theorem beq_self (d : Nat) : Nat.beq d d = true := Nat.beq_refl d

theorem Fit.eval {N : Nat} {ds : List Deferred} {E : Env} {a : Act} (h : Fit N ds E a) {x : Operand} {c : Option Bool} {v : Value} (hx : ev E x = some (c, v)) (hc : Cnd c) : a.eval x = v := by
  cases x with
  | tmp t => exact (h.slots t c v hx).1 hc
  | const u => simp [ev] at hx; exact hx.2
  | global g => simp [ev] at hx; exact hx.2
  | func f => simp [ev] at hx; exact hx.2

def ins (E : Env) (d : Option Tmp) (c : Option Bool) (v : Value) : Env :=
  match d with
  | none => E
  | some d => (d, c, v) :: E

def okDst (N : Nat) : Option Tmp → Bool
  | none => true
  | some d => Nat.blt d N

theorem Fit.put {N : Nat} {ds : List Deferred} {E : Env} {a : Act} (h : Fit N ds E a) {d : Option Tmp} {c : Option Bool} {v u : Value} (hd : okDst N d = true) (h1 : Cnd c → u = v) (h2 : ¬ Cnd c → u = undef) :
    Fit N ds (ins E d c v) (a.put d u) := by
  cases d with
  | none => exact h
  | some d =>
    have hd' : d < N := by simpa [okDst] using hd
    refine ⟨by simp [Act.put, h.size], by simp [Act.put, h.defers], fun i c' v' hl => ?_⟩
    simp only [ins, look] at hl
    by_cases hi : d = i
    · subst hi
      have e : Nat.beq d d = true := beq_self d
      rw [e] at hl
      simp only [Option.some.injEq, Prod.mk.injEq] at hl
      obtain ⟨rfl, rfl⟩ := hl
      have : (a.put (some d) u).tmps.getD d undef = u := by
        simp [Act.put, h.size, hd']
      rw [this]
      exact ⟨h1, h2⟩
    · have e : Nat.beq d i = false := beq_ne hi
      rw [e] at hl
      have : (a.put (some d) u).tmps.getD i undef = a.tmps.getD i undef := by
        simp [Act.put, Array.getElem?_setIfInBounds_ne hi]
      rw [this]
      exact h.slots i c' v' hl

/-- The guard of an operation, read off the environment. -/
def gd (ops : List Oper) (E : Env) : Option (Nat × Bool) → Option (Option Bool)
  | none => some none
  | some (j, want) => match (ops[j]?).bind (·.dst) with
    | none => none
    | some d => match look E d with
      | some (none, .bool b) => match want with
        | true => some (some b)
        | false => some (some (!b))
      | some (some c, .bool b) => match want with
        | true => some (some (c && b))
        | false => some (some (c && !b))
      | _ => none

theorem getElem?_getD {a : Array Value} {d : Nat} {v : Value} (h : d < a.size) (e : a.getD d undef = v) : a[d]? = some v := by
  rw [← e]; simp [h]

def boolOf : Option Value → Option Bool
  | some (.bool b) => some b
  | _ => none

theorem yielded_eq (ops : List Oper) (t : Array Value) (j : Nat) : yielded ops.toArray t j = boolOf (((ops[j]?).bind (·.dst)).bind (t[·]?)) := by
  unfold yielded boolOf
  simp only [List.getElem?_toArray]
  split <;> split <;> simp_all

theorem boolOf_ne {x : Option Value} (h : ∀ b, x ≠ some (.bool b)) : boolOf x = none := by
  unfold boolOf
  split
  · rename_i b; exact absurd rfl (h b)
  · rfl

theorem wanted_of {N : Nat} {ds : List Deferred} {E : Env} {a : Act} {ops : List Oper} {o : Oper} {G : Option Bool} (h : Fit N ds E a) (hg : gd ops E o.guard = some G) :
    (Cnd G → Region.wanted o (yielded ops.toArray a.tmps) = true) ∧ (¬ Cnd G → Region.wanted o (yielded ops.toArray a.tmps) = false) := by
  unfold Region.wanted
  cases hgu : o.guard with
  | none => rw [hgu] at hg; simp [gd] at hg; subst hg; simp [Cnd]
  | some p =>
    obtain ⟨j, want⟩ := p
    rw [hgu] at hg
    simp only [gd] at hg
    cases hd : (ops[j]?).bind (·.dst) with
    | none => rw [hd] at hg; simp at hg
    | some d =>
      rw [hd] at hg
      simp only at hg
      simp only [yielded_eq, hd, Option.bind_some]
      split at hg
      · rename_i b hl
        have h1 := (h.slots d none (.bool b) hl).1 trivial
        have h2 : a.tmps[d]? = some (.bool b) := by
          rcases Nat.lt_or_ge d a.tmps.size with hlt | hge
          · exact getElem?_getD hlt h1
          · simp [Array.getElem?_eq_none hge, undef] at h1
        rw [h2]
        cases want <;> simp at hg <;> subst hg <;> simp [Cnd, boolOf]
      · rename_i c b hl
        obtain ⟨h1, h1'⟩ := h.slots d (some c) (.bool b) hl
        cases c with
        | true =>
          have h1 := h1 rfl
          have h2 : a.tmps[d]? = some (.bool b) := by
            rcases Nat.lt_or_ge d a.tmps.size with hlt | hge
            · exact getElem?_getD hlt h1
            · simp [Array.getElem?_eq_none hge, undef] at h1
          rw [h2]
          cases want <;> simp at hg <;> subst hg <;> simp [Cnd, boolOf]
        | false =>
          have h1' := h1' (by simp [Cnd])
          have h2 : ∀ b, a.tmps[d]? ≠ some (.bool b) := by
            intro b hb
            simp [hb, undef] at h1'
          rw [boolOf_ne h2]
          cases want <;> simp at hg <;> subst hg <;> simp [Cnd]
      · cases hg

def noDefer : Op → Bool
  | .defer _ => false
  | _ => true

theorem semAt_of {r : Option Nat} {ρ : Operand → Value} {o : Oper} (h : noDefer o.op = true) : Oper.semAt r ρ o = execOp ρ o :=
  Oper.semAt_eq r ρ o fun c hc => by rw [hc] at h; cases h

section
variable {P : Program} {r : Option Nat} {Q : Exit → Act → World → Prop} {N : Nat} {ds : List Deferred}

/-- The rest of a region in the text's order, over the environment. -/
def TW (P : Program) (r : Option Nat) (Q : Exit → Act → World → Prop) (N : Nat) (ds : List Deferred) (ops rest : List Oper) (E : Env) (w : World) : Prop :=
  ∀ a, Fit N ds E a → wpListIn (FR r) 0 P ops.toArray Q rest a w

/-- Code over the environment. -/
def CW (P : Program) (r : Option Nat) (Q : Exit → Act → World → Prop) (N : Nat) (ds : List Deferred) (c : Code) (E : Env) (w : World) : Prop :=
  ∀ a, Fit N ds E a → c.wpIn (FR r) 0 P Q a w

/-- A continuation over the environment. -/
def KW (N : Nat) (ds : List Deferred) (K : Act → World → Prop) (E : Env) (w : World) : Prop := ∀ a, Fit N ds E a → K a w

theorem TW.nil {ops : List Oper} {E : Env} {w : World} (h : KW N ds (Q .normal) E w) : TW P r Q N ds ops [] E w := fun a ha => h a ha

theorem CW.region {id : Nat} {ops : List Oper} {E : Env} {w : World} (h : TW P r Q N ds ops ops E w) : CW P r Q N ds (.region id ops.toArray false) E w :=
  fun a ha => wpIn_region_lit (h a ha)

theorem CW.seq {x y : Code} {E : Env} {w : World} (h : CW P r (Exit.then (y.wpIn (FR r) 0 P Q) Q) N ds x E w) : CW P r Q N ds (.seq x y) E w :=
  fun a ha => wpIn_seq (h a ha)

theorem CW.block {id : Nat} {c : Code} {E : Env} {w : World} (h : CW P r (Exit.inBlock id Q) N ds c E w) : CW P r Q N ds (.block id c) E w :=
  fun a ha => wpIn_block (h a ha)

theorem CW.skip {E : Env} {w : World} (h : KW N ds (Q .normal) E w) : CW P r Q N ds .skip E w := fun a ha => wpIn_skip (h a ha)
theorem CW.exit {id : Nat} {E : Env} {w : World} (h : KW N ds (Q (.exit id)) E w) : CW P r Q N ds (.exit id) E w := fun a ha => wpIn_exit (h a ha)
theorem CW.ret {E : Env} {w : World} (h : KW N ds (Q .ret) E w) : CW P r Q N ds .ret E w := fun a ha => wpIn_ret (h a ha)

theorem CW.cond {c : Operand} {x y : Code} {b : Bool} {E : Env} {w : World} (hc : ev E c = some (none, .bool b)) (ht : b = true → CW P r Q N ds x E w) (hf : b = false → CW P r Q N ds y E w) :
    CW P r Q N ds (.cond c x y) E w :=
  fun a ha => wpIn_cond_split (ha.eval hc trivial) (fun h => ht h a ha) (fun h => hf h a ha)

/-- Fewer slots. -/
def pick (E : Env) : List Nat → Option Env
  | [] => some []
  | i :: is => match look E i with
    | none => none
    | some (c, v) => match pick E is with
      | none => none
      | some E' => some ((i, c, v) :: E')

theorem look_pick {E : Env} : ∀ {is : List Nat} {E' : Env}, pick E is = some E' → ∀ i c v, look E' i = some (c, v) → look E i = some (c, v)
  | [], E', h, i, c, v, hl => by simp [pick] at h; subst h; simp [look] at hl
  | j :: is, E', h, i, c, v, hl => by
    simp only [pick] at h
    split at h
    · cases h
    · rename_i c' v' hj
      split at h
      · cases h
      · rename_i E'' hE
        simp only [Option.some.injEq] at h
        subst h
        simp only [look] at hl
        by_cases hi : j = i
        · subst hi
          have e : Nat.beq j j = true := beq_self j
          rw [e] at hl
          simp only [Option.some.injEq, Prod.mk.injEq] at hl
          obtain ⟨rfl, rfl⟩ := hl
          exact hj
        · have e : Nat.beq j i = false := beq_ne hi
          rw [e] at hl
          exact look_pick hE i c v hl

theorem Fit.pick {E E' : Env} {is : List Nat} {a : Act} (h : Fit N ds E a) (hp : PF.pick E is = some E') : Fit N ds E' a :=
  ⟨h.size, h.defers, fun i c v hl => h.slots i c v (look_pick hp i c v hl)⟩

theorem KW.pick {K : Act → World → Prop} {E : Env} {w : World} (is : List Nat) (E' : Env) (hp : PF.pick E is = some E') (h : KW N ds K E' w) : KW N ds K E w := fun a ha => h a (ha.pick hp)
theorem CW.pick {c : Code} {E : Env} {w : World} (is : List Nat) (E' : Env) (hp : PF.pick E is = some E') (h : CW P r Q N ds c E' w) : CW P r Q N ds c E w := fun a ha => h a (ha.pick hp)

/-- The loop: 'E x', 'J x w': what holds at a round's head for the ghost x; 'm x': a measure. -/
theorem CW.loop {α : Type} {c : Code} {E0 : Env} {w : World} (E : α → Env) (J : α → World → Prop) (m : α → Nat) (x0 : α) (h0 : J x0 w) (hE : ∀ a, Fit N ds E0 a → Fit N ds (E x0) a)
    (round : ∀ x w, J x w → CW P r (Exit.then (fun a' w' => ∃ x', Fit N ds (E x') a' ∧ J x' w' ∧ m x' < m x) Q) N ds c (E x) w) : CW P r Q N ds (.loop c) E0 w := by
  classical
  intro a ha
  let I : Act → World → Prop := fun a w => ∃ x, Fit N ds (E x) a ∧ J x w
  let M : Act → World → Nat → Prop := fun a w n => ∃ x, Fit N ds (E x) a ∧ J x w ∧ m x = n
  -- the least measure of a ghost that fits
  have hex : ∀ a w, I a w → ∃ n, M a w n ∧ ∀ k, M a w k → n ≤ k := by
    intro a w ⟨x, h1, h2⟩
    have key : ∀ k, (∃ j, j ≤ k ∧ M a w j) → ∃ n, M a w n ∧ ∀ k, M a w k → n ≤ k := by
      intro k
      induction k with
      | zero =>
        rintro ⟨j, hj, hm⟩
        have : j = 0 := by omega
        subst this
        exact ⟨0, hm, fun k _ => Nat.zero_le k⟩
      | succ k ih =>
        rintro ⟨j, hj, hm⟩
        by_cases hk : ∃ j, j ≤ k ∧ M a w j
        · exact ih hk
        · refine ⟨j, hm, fun i hi => ?_⟩
          rcases Nat.lt_or_ge i j with hlt | hge
          · exact absurd ⟨i, by omega, hi⟩ hk
          · exact hge
    exact key (m x) ⟨m x, Nat.le_refl _, x, h1, h2, rfl⟩
  let μ : Act → World → Nat := fun a w => if h : I a w then Classical.choose (hex a w h) else 0
  have hμ : ∀ a w, I a w → ∃ x, Fit N ds (E x) a ∧ J x w ∧ m x = μ a w := by
    intro a w h
    have := (Classical.choose_spec (hex a w h)).1
    simpa [μ, h] using this
  have hμle : ∀ a w x, Fit N ds (E x) a → J x w → μ a w ≤ m x := by
    intro a w x h1 h2
    have hI : I a w := ⟨x, h1, h2⟩
    have := (Classical.choose_spec (hex a w hI)).2 (m x) ⟨x, h1, h2, rfl⟩
    simpa [μ, hI] using this
  refine wpIn_loop I μ ⟨x0, hE a ha, h0⟩ fun a1 w1 hI => ?_
  obtain ⟨x, h1, h2, h3⟩ := hμ a1 w1 hI
  refine wpIn_mono (round x w1 h2 a1 h1) fun e a2 w2 hq => ?_
  cases e with
  | normal =>
    obtain ⟨x', q1, q2, q3⟩ := hq
    exact ⟨⟨x', q1, q2⟩, by rw [← h3]; exact Nat.lt_of_le_of_lt (hμle a2 w2 x' q1 q2) q3⟩
  | _ => exact hq

end
end Go.PF

/- What every rule leans on. -/
namespace Go.PF
open Go.RowKit

theorem ct {G : Option Bool} : Cnd G → Cnd none := fun _ => trivial
theorem candL {c b : Bool} : Cnd (some (c && b)) → Cnd (some c) := fun h => by simp only [Cnd, Bool.and_eq_true] at h ⊢; exact h.1
theorem candR {c b : Bool} : Cnd (some (c && b)) → Cnd (some b) := fun h => by simp only [Cnd, Bool.and_eq_true] at h ⊢; exact h.2

theorem pT {G : Option Bool} {q : Prop} : Cnd G → q → Cnd none := fun _ _ => trivial
theorem pOr0 {G : Option Bool} {b : Bool} : Cnd G → b = false → Cnd (some (!b)) := fun _ h => by rw [h]; rfl
theorem pOr1 {c b : Bool} : Cnd (some c) → b = false → Cnd (some (c && !b)) := fun hc h => by rw [h]; simpa [Cnd] using hc
theorem pAnd0 {G : Option Bool} {b : Bool} : Cnd G → b = true → Cnd (some b) := fun _ h => h
theorem pAnd1 {c b : Bool} : Cnd (some c) → b = true → Cnd (some (c && b)) := fun hc h => by rw [h]; simpa [Cnd] using hc

/-- A block that is known whole, nothing of it frozen. -/
def Blk (w : World) (g : Nat) (t : TypeId) (cs : List Value) : Prop := w.heap[g]? = some (.cells cs.toArray t (0, 0))

theorem Blk.lt {w : World} {g : Nat} {t : TypeId} {cs : List Value} (h : Blk w g t cs) : g < w.heap.size := (Array.getElem?_eq_some_iff.1 h).1
theorem Blk.cell {w : World} {g : Nat} {t : TypeId} {cs : List Value} (h : Blk w g t cs) (i : Nat) : w.cell? ⟨g, i, none⟩ = cs[i]? := by
  unfold Blk at h; simp [World.cell?, h]
theorem Blk.fld {w : World} {g : Nat} {t : TypeId} {cs : List Value} (h : Blk w g t cs) {j : Nat} {v : Value} (hj : cs[j]? = some v) : w.cell? (Addr.add ⟨g, 0, none⟩ j) = some v := by
  have e : Addr.add ⟨g, 0, none⟩ j = ⟨g, j, none⟩ := by unfold Addr.add; split <;> simp_all
  rw [e, h.cell, hj]
theorem Blk.frozen {w : World} {g : Nat} {t : TypeId} {cs : List Value} (h : Blk w g t cs) (i : Nat) : w.frozen? ⟨g, i, none⟩ = false := by
  unfold Blk at h; simp [World.frozen?, h]
theorem Blk.below {w w' : World} {B g : Nat} {t : TypeId} {cs : List Value} (h : Blk w g t cs) (hb : Below B w w') (hg : g < B) : Blk w' g t cs := (hb.block g hg).trans h
theorem Blk.next {w w' : World} {g : Nat} {t : TypeId} {cs : List Value} (h : Blk w g t cs) (hb : Below w.heap.size w w') : Blk w' g t cs := h.below hb h.lt
theorem Blk.new (w : World) (t : TypeId) (cs : List Value) : Blk (w.alloc (.cells cs.toArray t)) w.heap.size t cs := heap_alloc_new w _
theorem Blk.set {w : World} {g : Nat} {t : TypeId} {cs : List Value} (h : Blk w g t cs) (i : Nat) (u : Value) : Blk (w.setCell ⟨g, i, none⟩ u) g t (cs.set i u) := by
  unfold Blk at h ⊢
  simp [World.setCell, Array.getElem?_modify, h]
theorem Blk.far {w : World} {g : Nat} {t : TypeId} {cs : List Value} (h : Blk w g t cs) {p : Addr} (hp : g ≠ p.block) (u : Value) : Blk (w.setCell p u) g t cs := (Below.heap_setCell w p u g hp).trans h

/-- A block just made. -/
structure Fresh (w w' : World) (g : Nat) (t : TypeId) (cs : List Value) : Prop where
  at_ : g = w.heap.size
  size : w'.heap.size = g + 1
  below : Below w.heap.size w w'
  blk : Blk w' g t cs

theorem Fresh.mk' (w : World) (t : TypeId) (cs : List Value) : Fresh w (w.alloc (.cells cs.toArray t)) w.heap.size t cs :=
  ⟨rfl, by simp, (Below.refl _ _).alloc (Nat.le_refl _) _, Blk.new w t cs⟩

theorem below_alloc (w : World) (o : Obj) : Below w.heap.size w (w.alloc o) := (Below.refl _ _).alloc (Nat.le_refl _) o

/-- 'w1' is an extension of w0 whole: from w0's blocks nothing has turned. -/
theorem _root_.Go.RowKit.Below.step {w0 w w' : World} (h : Below w0.heap.size w0 w) (h' : Below w.heap.size w w') : Below w0.heap.size w0 w' := h.trans (h'.mono h.size)

section
variable {P : Program} {r : Option Nat} {Q : Exit → Act → World → Prop} {N : Nat} {ds : List Deferred} {ops rest : List Oper} {E : Env} {w : World} {G : Option Bool}
variable {d : Option Tmp} {ty : TypeId} {pos : String} {af : Array Edge} {gu : Option (Nat × Bool)}

/-- An operation that yields a value and leaves the world. -/
theorem TW.val {o : Oper} {v : Value} (hg : gd ops E o.guard = some G) (hd : okDst N o.dst = true) (hn : noDefer o.op = true)
    (hrun : Cnd G → ∀ a, Fit N ds E a → (execOp a.eval o).run P w = .ok (.value v) w) (next : TW P r Q N ds ops rest (ins E o.dst G v) w) : TW P r Q N ds ops (o :: rest) E w := by
  intro a ha
  obtain ⟨h1, h2⟩ := wanted_of ha hg
  unfold wpListIn
  by_cases hc : Cnd G
  · rw [if_pos (h1 hc)]
    refine ⟨fun _ _ => trivial, ?_⟩
    rw [semAt_of hn, hrun hc a ha]
    exact next _ (ha.put hd (fun _ => rfl) (fun h => absurd hc h))
  · rw [if_neg (by rw [h2 hc]; simp)]
    exact ⟨fun _ _ => trivial, next _ (ha.put hd (fun h => absurd h hc) (fun _ => rfl))⟩

/-- An operation without a guard that yields a value in another world. -/
theorem TW.eff {o : Oper} {v : Value} {w' : World} (hg : o.guard = none) (hd : okDst N o.dst = true) (hn : noDefer o.op = true)
    (hrun : ∀ a, Fit N ds E a → (execOp a.eval o).run P w = .ok (.value v) w') (next : TW P r Q N ds ops rest (ins E o.dst none v) w') : TW P r Q N ds ops (o :: rest) E w := by
  intro a ha
  unfold wpListIn
  rw [if_pos (by simp [Region.wanted, hg])]
  refine ⟨fun _ _ => trivial, ?_⟩
  rw [semAt_of hn, hrun a ha]
  exact next _ (ha.put hd (fun _ => rfl) (fun h => absurd trivial h))

/-- An operation without a guard and without a value. -/
theorem TW.eff0 {o : Oper} {w' : World} (hg : o.guard = none) (hd : o.dst = none) (hn : noDefer o.op = true)
    (hrun : ∀ a, Fit N ds E a → (execOp a.eval o).run P w = .ok .skip w') (next : TW P r Q N ds ops rest E w') : TW P r Q N ds ops (o :: rest) E w := by
  intro a ha
  unfold wpListIn
  rw [if_pos (by simp [Region.wanted, hg])]
  refine ⟨fun _ _ => trivial, ?_⟩
  rw [semAt_of hn, hrun a ha]
  have := next _ ha
  simpa [Oper.uponIn, hd, Act.put] using this

/-- A contract: the call returns, with R of the value and the world. -/
def Gives (P : Program) (f : FuncId) (args : Array Value) (w : World) (R : Value → World → Prop) : Prop := Calls P f args w fun e w' => ∃ v, e = .returned v ∧ R v w'

theorem Gives.mono {f : FuncId} {args : Array Value} {R R' : Value → World → Prop} (h : Gives P f args w R) (hr : ∀ v w', R v w' → R' v w') : Gives P f args w R' :=
  Calls.mono h fun _ _ ⟨v, he, hR⟩ => ⟨v, he, hr v _ hR⟩

theorem callsIn_of {f : FuncId} {args : Array Value} {w : World} {R : Ending → World → Prop} (h : Calls P f args w R) : CallsIn (FR r) 0 P f args w R := by
  have h1 : CallsIn Fence.wide 0 P f args w R := callsIn_wide.2 h
  cases r with
  | none => exact h1
  | some l => exact h1

theorem TW.enter {o : Oper} {f : FuncId} {vs : Array Value} {R : Value → World → Prop} (hg : gd ops E o.guard = some G) (hd : okDst N o.dst = true) (hn : noDefer o.op = true)
    (hrun : Cnd G → ∀ a, Fit N ds E a → (execOp a.eval o).run P w = .ok (.enter f vs) w) (hc : Cnd G → Gives P f vs w R)
    (next : ∀ v w', (Cnd G → R v w') → (¬ Cnd G → w' = w) → TW P r Q N ds ops rest (ins E o.dst G v) w') : TW P r Q N ds ops (o :: rest) E w := by
  intro a ha
  obtain ⟨h1, h2⟩ := wanted_of ha hg
  unfold wpListIn
  by_cases hcG : Cnd G
  · rw [if_pos (h1 hcG)]
    refine ⟨fun _ _ => trivial, ?_⟩
    rw [semAt_of hn, hrun hcG a ha]
    refine ⟨fun h => by simp [Fence.wide] at h, ?_⟩
    refine CallsIn.mono (callsIn_of (hc hcG)) ?_
    rintro e w' ⟨v, rfl, hR⟩
    exact next v w' (fun _ => hR) (fun h => absurd hcG h) _ (ha.put hd (fun _ => rfl) (fun h => absurd hcG h))
  · rw [if_neg (by rw [h2 hcG]; simp)]
    exact ⟨fun _ _ => trivial, next undef w (fun h => absurd h hcG) (fun _ => rfl) _ (ha.put hd (fun h => absurd h hcG) (fun _ => rfl))⟩

theorem run_sizeOf {e : TypeId} {sz : Nat} (hs : (P.info? e).map (·.size) = some sz) (w : World) : (sizeOf e).run P w = .ok sz w := by
  cases hi : P.info? e with
  | none => simp [hi] at hs
  | some i => simp [hi] at hs; simp [sizeOf, typeInfo, hi, hs]

/-- a type of one cell -/
def one (P : Program) (t : TypeId) : Bool := match P.underlying t with
  | none | some (.struct _) | some (.array _ _) => false
  | _ => true

theorem run_loadVar1 {t : TypeId} (h1 : one P t = true) {ad : Addr} {v : Value} (hc : w.cell? ad = some v) : (loadVar t ad).run P w = .ok v w := by
  unfold one at h1
  cases hu : P.underlying t with
  | none => simp [hu] at h1
  | some dsc => cases dsc <;> first | (simp [hu] at h1; done) | simp [loadVar, isAgg, run_underlying hu, hc]

theorem run_loadVarS {t : TypeId} {fs : Array Field} (hu : P.underlying t = some (.struct fs)) {cs : List Value} (hs : (P.info? t).map (·.size) = some cs.length) {ad : Addr} (hc : ∀ j v, cs[j]? = some v → w.cell? (ad.add j) = some v) :
    (loadVar t ad).run P w = .ok (.agg cs.toArray) w := by
  simp [loadVar, isAgg, run_underlying hu, run_sizeOf hs, run_loadCells_list w ad cs hc]

/-- the cells of a type's zero value -/
def zeroCells (P : Program) (t : TypeId) : Option (List Value) := ((P.info? t).bind (·.zero)).map fun v => v.cells.toList

/-- a function of the program's own, with a body -/
def enters (P : Program) (f : FuncId) : Bool := match P.funcs[f]? with
  | some fn => !(fn.name == "runtime.NumGoroutine") && fn.body.isSome
  | none => false

theorem run_enters {f : FuncId} (h : enters P f = true) (args : Array Value) (w : World) : (callFunc f args).run P w = .ok (.enter f args) w := by
  unfold enters at h
  cases hf : P.funcs[f]? with
  | none => simp [hf] at h
  | some fn =>
    simp only [hf, Bool.and_eq_true, Bool.not_eq_true'] at h
    obtain ⟨h1, h2⟩ := h
    have h3 : ¬ fn.body = none := by cases hb : fn.body <;> simp_all
    have h4 : ¬ fn.name = "runtime.NumGoroutine" := by simpa using h1
    simp [callFunc, hf, h4, h3]
end
end Go.PF

/- Entering, leaving, exits. -/
namespace Go.PF
open Go.RowKit

def argEnv : List Value → Nat → Env
  | [], _ => []
  | v :: vs, i => (i, none, v) :: argEnv vs (i + 1)

theorem look_argEnv : ∀ (vs : List Value) (k i : Nat) (c : Option Bool) (v : Value), look (argEnv vs k) i = some (c, v) → c = none ∧ k ≤ i ∧ vs[i - k]? = some v
  | [], k, i, c, v, h => by simp [argEnv, look] at h
  | u :: vs, k, i, c, v, h => by
    simp only [argEnv, look] at h
    by_cases hi : k = i
    · subst hi
      rw [beq_self] at h
      simp only [Option.some.injEq, Prod.mk.injEq] at h
      obtain ⟨rfl, rfl⟩ := h
      simp
    · rw [beq_ne hi] at h
      obtain ⟨h1, h2, h3⟩ := look_argEnv vs (k + 1) i c v h
      refine ⟨h1, by omega, ?_⟩
      have : i - k = (i - (k + 1)) + 1 := by omega
      rw [this]; simpa using h3

section
variable {P : Program} {r : Option Nat} {Q : Exit → Act → World → Prop} {N : Nat} {ds : List Deferred} {E : Env} {w : World}

theorem fit_args {vs : List Value} (hle : vs.length ≤ N) : Fit N [] (argEnv vs 0) { tmps := vs.toArray ++ Array.replicate (N - vs.toArray.size) undef, defers := [] } := by
  refine ⟨by simp; omega, rfl, fun i c v h => ?_⟩
  obtain ⟨rfl, _, h3⟩ := look_argEnv vs 0 i c v h
  refine ⟨fun _ => ?_, fun h => absurd trivial h⟩
  have hlt : i < vs.length := by
    rcases Nat.lt_or_ge i vs.length with h | h
    · exact h
    · simp [List.getElem?_eq_none h] at h3
  simp only [Nat.sub_zero] at h3
  rw [List.getElem?_eq_getElem hlt] at h3
  simp only [Option.some.injEq] at h3
  simp [Array.getElem?_append, hlt, h3]

/-- A function's contract from its body. -/
theorem gives_of {f : FuncId} {fn : Func} {c : Code} {vs : List Value} {R : Value → World → Prop} (E0 : Env) (hf : P.funcs[f]? = some fn) (hb : fn.body = some c) (hn : fn.ntmps = N) (hle : Nat.ble vs.length N = true) (hE : argEnv vs 0 = E0)
    (h : CW P none (bodyPost P fn fun e w' => ∃ v, e = .returned v ∧ R v w') N [] c E0 w) : Gives P f vs.toArray w R := by
  unfold Gives
  have hle' : vs.length ≤ N := Nat.le_of_ble_eq_true hle
  refine (callsIn_wide (n := 0)).1 (callsIn_of_wp hf hb trivial ?_)
  rw [hn]
  exact h _ (hE ▸ fit_args hle')

/-- A function's contract from its body, where the body holds a range over a function. -/
theorem gives_ofM {f : FuncId} {fn : Func} {c : Code} {vs : List Value} {R : Value → World → Prop} (E0 : Env) (hf : P.funcs[f]? = some fn) (hb : fn.body = some c) (hn : fn.ntmps = N) (hle : Nat.ble vs.length N = true) (hE : argEnv vs 0 = E0)
    (h : CW P none (bodyPostM (FR none) 0 P fn fun e w' => ∃ v, e = .returned v ∧ R v w') N [] c E0 w) : Gives P f vs.toArray w R := by
  unfold Gives
  have hle' : vs.length ≤ N := Nat.le_of_ble_eq_true hle
  refine (callsIn_wide (n := 0)).1 (callsIn_of_wp_marks hf hb trivial ?_)
  rw [hn]
  exact h _ (hE ▸ fit_args hle')

theorem KW.then_ {y : Code} (h : CW P r Q N ds y E w) : KW N ds (Exit.then (y.wpIn (FR r) 0 P Q) Q .normal) E w := h
theorem KW.thenX {K : Act → World → Prop} {id : Nat} (h : KW N ds (Q (.exit id)) E w) : KW N ds (Exit.then K Q (.exit id)) E w := h
theorem KW.thenR {K : Act → World → Prop} (h : KW N ds (Q .ret) E w) : KW N ds (Exit.then K Q .ret) E w := h
theorem KW.blockN {id : Nat} (h : KW N ds (Q .normal) E w) : KW N ds (Exit.inBlock id Q .normal) E w := h
theorem KW.blockR {id : Nat} (h : KW N ds (Q .ret) E w) : KW N ds (Exit.inBlock id Q .ret) E w := h
theorem KW.blockX {id : Nat} (h : KW N ds (Q .normal) E w) : KW N ds (Exit.inBlock id Q (.exit id)) E w := fun a ha => by
  simp only [Exit.inBlock, if_true]; exact h a ha
theorem KW.blockY {id id' : Nat} (hne : Nat.beq id' id = false) (h : KW N ds (Q (.exit id')) E w) : KW N ds (Exit.inBlock id Q (.exit id')) E w := fun a ha => by
  have : id' ≠ id := fun e => by rw [e, beq_self] at hne; cases hne
  simp only [Exit.inBlock, if_neg this]; exact h a ha

theorem KW.round {α : Type} {F : α → Env} {J : α → World → Prop} {m : α → Nat} {x : α} (x' : α) (is : List Nat) (hp : PF.pick E is = some (F x')) (hJ : J x' w) (hm : m x' < m x) :
    KW N ds (Exit.then (fun a' w' => ∃ x', Fit N ds (F x') a' ∧ J x' w' ∧ m x' < m x) Q .normal) E w :=
  fun _ ha => ⟨x', ha.pick hp, hJ, hm⟩

/-- The loop, by slots. -/
theorem CW.loopS {α : Type} {c : Code} (F : α → Env) (J : α → World → Prop) (m : α → Nat) (x0 : α) (is : List Nat) (h0 : J x0 w) (hE : PF.pick E is = some (F x0))
    (round : ∀ x w, J x w → CW P r (Exit.then (fun a' w' => ∃ x', Fit N ds (F x') a' ∧ J x' w' ∧ m x' < m x) Q) N ds c (F x) w) : CW P r Q N ds (.loop c) E w :=
  CW.loop F J m x0 h0 (fun _ ha => ha.pick hE) round

theorem CW.condP {c : Operand} {x y : Code} {p : Prop} [Decidable p] (hc : ev E c = some (none, .bool (decide p))) (ht : p → CW P r Q N ds x E w) (hf : ¬ p → CW P r Q N ds y E w) : CW P r Q N ds (.cond c x y) E w :=
  CW.cond hc (fun h => ht (of_decide_eq_true h)) (fun h => hf (of_decide_eq_false h))

variable {fn : Func} {R : Value → World → Prop}

theorem ret0 (hres : fn.results = #[]) (hR : R (.tuple #[]) w) : KW N [] (bodyPost P fn (fun e w' => ∃ v, e = .returned v ∧ R v w') .ret) E w := fun _ ha =>
  bodyPost_ret (results_none hres _ _ _) ha.defers ⟨_, rfl, hR⟩
theorem end0 (hres : fn.results = #[]) (hR : R (.tuple #[]) w) : KW N [] (bodyPost P fn (fun e w' => ∃ v, e = .returned v ∧ R v w') .normal) E w := fun a ha =>
  (bodyPost_ret (R := fun e w' => ∃ v, e = .returned v ∧ R v w') (results_none hres a.tmps P w) ha.defers ⟨_, rfl, hR⟩ : bodyPost P fn _ .ret a w)
theorem ret1 {s : Nat} {v : Value} (hres : fn.results = #[.tmp s]) (hs : look E s = some (none, v)) (hR : R v w) : KW N [] (bodyPost P fn (fun e w' => ∃ v, e = .returned v ∧ R v w') .ret) E w := fun a ha =>
  bodyPost_ret (R := fun e w' => ∃ v, e = .returned v ∧ R v w') (results_tmp hres a.tmps P w) ha.defers ⟨_, rfl, by rw [(ha.slots s none v hs).1 trivial]; exact hR⟩
theorem ret2 {s t : Nat} {v u : Value} (hres : fn.results = #[.tmp s, .tmp t]) (hs : look E s = some (none, v)) (ht : look E t = some (none, u)) (hR : R (.tuple #[v, u]) w) :
    KW N [] (bodyPost P fn (fun e w' => ∃ v, e = .returned v ∧ R v w') .ret) E w := fun a ha =>
  bodyPost_ret (R := fun e w' => ∃ v, e = .returned v ∧ R v w') (results_tmp2 hres a.tmps P w) ha.defers ⟨_, rfl, by rw [(ha.slots s none v hs).1 trivial, (ha.slots t none u ht).1 trivial]; exact hR⟩
theorem retC {s : Nat} {t : TypeId} {ad : Addr} {v : Value} (hres : fn.results = #[.cell s t]) (h1 : one P t = true) (hs : look E s = some (none, .pointer (some ad))) (hc : w.cell? ad = some v) (hR : R v w) :
    KW N [] (bodyPost P fn (fun e w' => ∃ v, e = .returned v ∧ R v w') .ret) E w := fun a ha => by
  refine bodyPost_ret (v := v) ?_ ha.defers ⟨_, rfl, hR⟩
  have e : a.tmps.getD s undef = .pointer (some ad) := (ha.slots s none _ hs).1 trivial
  simp only [Array.getD_eq_getD_getElem?] at e
  simp [results, hres, e, asAddr, run_loadVar1 h1 hc]
end
end Go.PF

/- A region that draws its order: every operation yields something that stays true while the heap grows: then whatever order is drawn, all of it holds at the end. -/
namespace Go.PF
open Go.RowKit

/-- What is known of a slot in such a region: its value, or something that stays true. -/
inductive Ent where
  | ex (v : Value)
  | pr (φ : Value → World → Prop)
  | own (φ : Value → World → Prop) (S : Value → Nat → Prop)

def Ent.sat : Ent → Value → World → Prop
  | .ex v, u, _ => u = v
  | .pr φ, u, w => φ u w
  | .own φ _, u, w => φ u w

def Ent.mono : Ent → Prop
  | .ex _ => True
  | .pr φ => ∀ v w w', Below w.heap.size w w' → φ v w → φ v w'
  | .own φ _ => ∀ v w w', Below w.heap.size w w' → φ v w → φ v w'

/-- The blocks that a value owns. -/
def Ent.foot : Ent → Value → Nat → Prop
  | .own _ S, v, g => S v g
  | _, _, _ => False

/-- What stays true while the blocks of old and the own blocks are as they are. -/
def Ent.strong (w0 : World) : Ent → Prop
  | .ex _ => True
  | .pr φ => ∀ v w w', Below w0.heap.size w w' → φ v w → φ v w'
  | .own φ S => (∀ v w w', Below w0.heap.size w w' → (∀ g, S v g → w'.heap[g]? = w.heap[g]?) → φ v w → φ v w') ∧ ∀ v w, φ v w → ∀ g, S v g → w0.heap.size ≤ g ∧ g < w.heap.size

/-- How a drawn region is read: nothing is written in place; or only blocks made in the region are, through the one slot that owns them. -/
inductive Mode where
  | weak
  | own
  | cnt

theorem Ent.sat_mono {e : Ent} (hm : e.mono) {v : Value} {w w' : World} (hb : Below w.heap.size w w') (h : e.sat v w) : e.sat v w' := by
  cases e with
  | ex u => exact h
  | pr φ => exact hm v w w' hb h
  | own φ S => exact hm v w w' hb h

abbrev DE := List (Nat × Option Bool × Ent)

def dlook : DE → Nat → Option (Option Bool × Ent)
  | [], _ => none
  | (j, c, e) :: D, i => match Nat.beq j i with
    | true => some (c, e)
    | false => dlook D i

def dins (D : DE) (d : Option Tmp) (c : Option Bool) (e : Ent) : DE :=
  match d with
  | none => D
  | some d => (d, c, e) :: D

/-- One slot. -/
def slotOK (c : Option Bool) (e : Ent) (u : Value) (w : World) : Prop := (Cnd c → e.sat u w) ∧ (¬ Cnd c → u = undef)

/-- The slots of L. -/
structure FitL (N : Nat) (ds : List Deferred) (L : List Nat) (D : DE) (a : Act) (w : World) : Prop where
  size : a.tmps.size = N
  defers : a.defers = ds
  slots : ∀ i ∈ L, ∀ c e, dlook D i = some (c, e) → slotOK c e (a.tmps.getD i undef) w

structure FitD (N : Nat) (ds : List Deferred) (D : DE) (a : Act) (w : World) : Prop where
  size : a.tmps.size = N
  defers : a.defers = ds
  slots : ∀ i c e, dlook D i = some (c, e) → slotOK c e (a.tmps.getD i undef) w

def dgd (ops : List Oper) (D : DE) : Option (Nat × Bool) → Option (Option Bool)
  | none => some none
  | some (j, want) => match (ops[j]?).bind (·.dst) with
    | none => none
    | some d => match dlook D d with
      | some (none, .ex (.bool b)) => match want with
        | true => some (some b)
        | false => some (some (!b))
      | some (some c, .ex (.bool b)) => match want with
        | true => some (some (c && b))
        | false => some (some (c && !b))
      | _ => none

def guardDst (ops : List Oper) (o : Oper) : Option Nat := match o.guard with
  | some (g, _) => (ops[g]?).bind (·.dst)
  | none => none

theorem dwanted_of {N : Nat} {ds : List Deferred} {L : List Nat} {D : DE} {a : Act} {w : World} {ops : List Oper} {o : Oper} {G : Option Bool} (h : FitL N ds L D a w) (hL : ∀ d, guardDst ops o = some d → d ∈ L) (hg : dgd ops D o.guard = some G) :
    (Cnd G → Region.wanted o (yielded ops.toArray a.tmps) = true) ∧ (¬ Cnd G → Region.wanted o (yielded ops.toArray a.tmps) = false) := by
  unfold guardDst at hL
  unfold Region.wanted
  cases hgu : o.guard with
  | none => rw [hgu] at hg; simp [dgd] at hg; subst hg; simp [Cnd]
  | some p =>
    obtain ⟨j, want⟩ := p
    rw [hgu] at hg hL
    simp only [dgd] at hg
    cases hd : (ops[j]?).bind (·.dst) with
    | none => rw [hd] at hg; simp at hg
    | some d =>
      rw [hd] at hg
      have hdL : d ∈ L := hL d (by simpa using hd)
      simp only at hg
      simp only [yielded_eq, hd, Option.bind_some]
      split at hg
      · rename_i b hl
        have h1 : a.tmps.getD d undef = .bool b := (h.slots d hdL none (.ex (.bool b)) hl).1 trivial
        have h2 : a.tmps[d]? = some (.bool b) := by
          rcases Nat.lt_or_ge d a.tmps.size with hlt | hge
          · exact getElem?_getD hlt h1
          · simp [Array.getElem?_eq_none hge, undef] at h1
        rw [h2]
        cases want <;> simp at hg <;> subst hg <;> simp [Cnd, boolOf]
      · rename_i c b hl
        obtain ⟨h1, h1'⟩ := h.slots d hdL (some c) (.ex (.bool b)) hl
        cases c with
        | true =>
          have h1 : a.tmps.getD d undef = .bool b := h1 rfl
          have h2 : a.tmps[d]? = some (.bool b) := by
            rcases Nat.lt_or_ge d a.tmps.size with hlt | hge
            · exact getElem?_getD hlt h1
            · simp [Array.getElem?_eq_none hge, undef] at h1
          rw [h2]
          cases want <;> simp at hg <;> subst hg <;> simp [Cnd, boolOf]
        | false =>
          have h1' := h1' (by simp [Cnd])
          have h2 : ∀ b, a.tmps[d]? ≠ some (.bool b) := by
            intro b hb
            simp [hb, undef] at h1'
          rw [boolOf_ne h2]
          cases want <;> simp at hg <;> subst hg <;> simp [Cnd]
      · cases hg

/-- The operation yields 'e', in the world that it got or one that extends it. -/
def OpGives (P : Program) (o : Oper) (a : Act) (w : World) (e : Ent) : Prop :=
  (∃ v w', (execOp a.eval o).run P w = .ok (.value v) w' ∧ Below w.heap.size w w' ∧ e.sat v w') ∨
  (∃ f vs, (execOp a.eval o).run P w = .ok (.enter f vs) w ∧ Gives P f vs w fun v w' => Below w.heap.size w w' ∧ e.sat v w')

/-- One step of the lexical walk. -/
def DOne (P : Program) (N : Nat) (ds : List Deferred) (ops : List Oper) (w0 : World) (o : Oper) (D : DE) (G : Option Bool) (e : Ent) : Prop :=
  dgd ops D o.guard = some G ∧ okDst N o.dst = true ∧ noDefer o.op = true ∧ e.mono ∧
  (Cnd G → ∀ a w, Below w0.heap.size w0 w → FitL N ds (o.looksAt ops.toArray) D a w → OpGives P o a w e)

def hasN : List Nat → Nat → Bool
  | [], _ => false
  | j :: s, i => match Nat.beq j i with
    | true => true
    | false => hasN s i
def ddrop : DE → List Nat → DE
  | [], _ => []
  | (j, c, e) :: D, s => match hasN s j with
    | true => ddrop D s
    | false => (j, c, e) :: ddrop D s

/-- The blocks of the slots that are eaten. -/
def EatF (D : DE) (eats : List Nat) (a : Act) (g : Nat) : Prop := ∃ s c e, hasN eats s = true ∧ dlook D s = some (c, e) ∧ Cnd c ∧ e.foot (a.tmps.getD s undef) g
/-- A step that writes no block made in the region but E's. -/
def StepO (w0 w w' : World) (E : Nat → Prop) : Prop := Below w0.heap.size w w' ∧ ∀ b, w0.heap.size ≤ b → b < w.heap.size → ¬ E b → w'.heap[b]? = w.heap[b]?
def OpGivesO (P : Program) (w0 : World) (o : Oper) (a : Act) (w : World) (e : Ent) (E : Nat → Prop) : Prop :=
  (∃ v w', (execOp a.eval o).run P w = .ok (.value v) w' ∧ StepO w0 w w' E ∧ e.sat v w' ∧ ∀ g, e.foot v g → E g ∨ w.heap.size ≤ g) ∨
  (∃ f vs, (execOp a.eval o).run P w = .ok (.enter f vs) w ∧ Gives P f vs w fun v w' => StepO w0 w w' E ∧ e.sat v w' ∧ ∀ g, e.foot v g → E g ∨ w.heap.size ≤ g)
/-- Only this operation looks at what it eats. -/
def sole (ops : List Oper) (o : Oper) (eats : List Nat) : Bool := eats.all fun s => (o.looksAt ops.toArray).contains s && Nat.ble (ops.filter fun p => (p.looksAt ops.toArray).contains s).length 1
def DOneO (P : Program) (N : Nat) (ds : List Deferred) (ops : List Oper) (w0 : World) (o : Oper) (D : DE) (G : Option Bool) (e : Ent) (eats : List Nat) : Prop :=
  dgd ops D o.guard = some G ∧ okDst N o.dst = true ∧ noDefer o.op = true ∧ e.strong w0 ∧ sole ops o eats = true ∧ (∀ s, s ∈ eats → ∃ c φ S, dlook D s = some (c, .own φ S)) ∧
  (Cnd G → ∀ a w, Below w0.heap.size w0 w → FitL N ds (o.looksAt ops.toArray) D a w → OpGivesO P w0 o a w e (EatF D eats a))

/-- As OpGives, and nothing is drawn back. -/
def OpGivesC (P : Program) (o : Oper) (a : Act) (w : World) (e : Ent) : Prop :=
  (∃ v w', (execOp a.eval o).run P w = .ok (.value v) w' ∧ (Below w.heap.size w w' ∧ w.drawn ≤ w'.drawn) ∧ e.sat v w') ∨
  (∃ f vs, (execOp a.eval o).run P w = .ok (.enter f vs) w ∧ Gives P f vs w fun v w' => (Below w.heap.size w w' ∧ w.drawn ≤ w'.drawn) ∧ e.sat v w')
def DOneC (P : Program) (N : Nat) (ds : List Deferred) (ops : List Oper) (w0 : World) (o : Oper) (D : DE) (G : Option Bool) (e : Ent) : Prop :=
  dgd ops D o.guard = some G ∧ okDst N o.dst = true ∧ noDefer o.op = true ∧ e.mono ∧
  (Cnd G → ∀ a w, Below w0.heap.size w0 w → FitL N ds (o.looksAt ops.toArray) D a w → OpGivesC P o a w e)

/-- The lexical walk. -/
def DW (P : Program) (N : Nat) (ds : List Deferred) (m : Mode) (ops : List Oper) (w0 : World) (Fin : DE → Prop) : List Oper → DE → Prop
  | [], D => Fin D
  | o :: rest, D => match m with
    | .weak => ∃ G e, DOne P N ds ops w0 o D G e ∧ DW P N ds .weak ops w0 Fin rest (dins D o.dst G e)
    | .own => ∃ G e eats, DOneO P N ds ops w0 o D G e eats ∧ DW P N ds .own ops w0 Fin rest (dins (ddrop D eats) o.dst G e)
    | .cnt => ∃ G e, DOneC P N ds ops w0 o D G e ∧ DW P N ds .cnt ops w0 Fin rest (dins D o.dst G e)

theorem ddrop_nil : ∀ D : DE, ddrop D [] = D
  | [] => rfl
  | (j, c, e) :: D => by simp [ddrop, hasN, ddrop_nil D]

def lexOK (ops : List Oper) : Bool :=
  ops.zipIdx.all fun (o, i) =>
    (o.after.all fun e => !Region.binds .any e || Nat.blt e.on i) &&
    ops.zipIdx.all fun (p, k) => match p.dst with
      | none => true
      | some d => (Nat.beq k i || o.dst != some d) &&
        (!(o.looksAt ops.toArray).contains d ||
          (if Nat.blt k i then o.after.any (fun e => Region.binds .any e && Nat.beq e.on k) else (Nat.beq k i || p.after.any (fun e => Region.binds .any e && Nat.beq e.on i))))

theorem blt_iff {a b : Nat} : Nat.blt a b = true ↔ a < b := by
  unfold Nat.blt
  exact ⟨fun h => Nat.le_of_ble_eq_true h, fun h => Nat.ble_eq_true_of_le h⟩

section sound
variable {P : Program} {r : Option Nat} {Q : Exit → Act → World → Prop} {N : Nat} {ds : List Deferred} {ops : List Oper} {w0 : World}

theorem lexOK_spec (h : lexOK ops = true) {i k : Nat} {o p : Oper} (ho : ops[i]? = some o) (hp : ops[k]? = some p) :
    (∀ e ∈ o.after, Region.binds .any e = true → e.on < i) ∧ ∀ d, p.dst = some d → (k = i ∨ o.dst ≠ some d) ∧
      (d ∈ o.looksAt ops.toArray → (k < i → ∃ e ∈ o.after, Region.binds .any e = true ∧ e.on = k) ∧ (i ≤ k → k = i ∨ ∃ e ∈ p.after, Region.binds .any e = true ∧ e.on = i)) := by
  unfold lexOK at h
  rw [List.all_eq_true] at h
  have h1 := h (o, i) (by rw [List.mem_zipIdx_iff_getElem?]; simpa using ho)
  simp only [Bool.and_eq_true, List.all_eq_true] at h1
  obtain ⟨h1, h2⟩ := h1
  refine ⟨fun e he hbi => ?_, fun d hd => ?_⟩
  · rw [Array.all_eq_true'] at h1
    have := h1 e he
    rw [hbi] at this
    exact blt_iff.1 (by simpa using this)
  · have h3 := h2 (p, k) (by rw [List.mem_zipIdx_iff_getElem?]; simpa using hp)
    simp only [hd, Bool.and_eq_true, Bool.or_eq_true] at h3
    obtain ⟨h3, h4⟩ := h3
    refine ⟨?_, fun hm => ?_⟩
    · rcases h3 with h3 | h3
      · exact .inl (Nat.eq_of_beq_eq_true h3)
      · right; simpa using h3
    · rcases h4 with h4 | h4
      · simp at h4; exact absurd hm h4
      · refine ⟨fun hlt => ?_, fun hge => ?_⟩
        · have hb : Nat.blt k i = true := blt_iff.2 hlt
          rw [hb, if_pos rfl] at h4
          rw [Array.any_eq_true'] at h4
          obtain ⟨e, he, h5⟩ := h4
          simp only [Bool.and_eq_true] at h5
          exact ⟨e, he, h5.1, Nat.eq_of_beq_eq_true h5.2⟩
        · have hb : Nat.blt k i = false := by
            cases hq : Nat.blt k i with
            | false => rfl
            | true => exact absurd (blt_iff.1 hq) (by omega)
          rw [hb] at h4
          simp only [Bool.false_eq_true, if_false, Bool.or_eq_true] at h4
          rcases h4 with h4 | h4
          · exact .inl (Nat.eq_of_beq_eq_true h4)
          · rw [Array.any_eq_true'] at h4
            obtain ⟨e, he, h5⟩ := h4
            simp only [Bool.and_eq_true] at h5
            exact .inr ⟨e, he, h5.1, Nat.eq_of_beq_eq_true h5.2⟩

theorem looks_guard {o : Oper} {d : Nat} (h : guardDst ops o = some d) : d ∈ o.looksAt ops.toArray := by
  unfold guardDst at h
  unfold Oper.looksAt
  cases hg : o.guard with
  | none => rw [hg] at h; cases h
  | some p =>
    obtain ⟨g, b⟩ := p
    rw [hg] at h
    simp only [List.mem_append]
    right
    simp only [List.getElem?_toArray]
    simp at h ⊢
    exact h

def lift : Env → DE
  | [] => []
  | (i, c, v) :: E => (i, c, .ex v) :: lift E

theorem dlook_lift : ∀ (E : Env) (i : Nat), dlook (lift E) i = (look E i).map fun p => (p.1, Ent.ex p.2)
  | [], i => rfl
  | (j, c, v) :: E, i => by
    simp only [lift, dlook, look]
    cases Nat.beq j i with
    | true => rfl
    | false => exact dlook_lift E i

end sound

section steps
variable {P : Program} {N : Nat} {ds : List Deferred} {ops rest : List Oper} {w : World} {D : DE} {G : Option Bool} {Fin : DE → Prop}

def dev (D : DE) : Operand → Option (Option Bool × Ent)
  | .tmp t => dlook D t
  | .const v => some (none, .ex v)
  | .global g => some (none, .ex (.pointer (some ⟨g, 0, none⟩)))
  | .func f => some (none, .ex (.func (.func f) #[] #[]))

theorem mem_looks {o : Oper} {t : Nat} (h : Operand.tmp t ∈ o.op.operands.toList) : t ∈ o.looksAt ops.toArray := by
  unfold Oper.looksAt
  rw [List.mem_append]
  left
  rw [List.mem_filterMap]
  exact ⟨.tmp t, h, rfl⟩

theorem FitL.sat {L : List Nat} {a : Act} (h : FitL N ds L D a w) {x : Operand} {c : Option Bool} {e : Ent} (hx : dev D x = some (c, e)) (hL : ∀ t, x = .tmp t → t ∈ L) (hc : Cnd c) : e.sat (a.eval x) w := by
  cases x with
  | tmp t => exact (h.slots t (hL t rfl) c e hx).1 hc
  | const u => simp [dev] at hx; rw [← hx.2]; rfl
  | global g => simp [dev] at hx; rw [← hx.2]; rfl
  | func f => simp [dev] at hx; rw [← hx.2]; rfl

theorem FitL.evalL {L : List Nat} {a : Act} (h : FitL N ds L D a w) {x : Operand} {c : Option Bool} {v : Value} (hx : dev D x = some (c, .ex v)) (hL : ∀ t, x = .tmp t → t ∈ L) (hc : Cnd c) : a.eval x = v := h.sat hx hL hc

theorem FitL.eval {o : Oper} {a : Act} (h : FitL N ds (o.looksAt ops.toArray) D a w) {x : Operand} {c : Option Bool} {v : Value} (hx : dev D x = some (c, .ex v)) (hm : x ∈ o.op.operands.toList) (hc : Cnd c) : a.eval x = v :=
  h.evalL hx (fun _ ht => mem_looks (ht ▸ hm)) hc

theorem FitL.evalP {o : Oper} {a : Act} (h : FitL N ds (o.looksAt ops.toArray) D a w) {x : Operand} {c : Option Bool} {φ : Value → World → Prop} (hx : dev D x = some (c, .pr φ)) (hm : x ∈ o.op.operands.toList) (hc : Cnd c) : φ (a.eval x) w :=
  h.sat hx (fun _ ht => mem_looks (ht ▸ hm)) hc

theorem DW.nil {m : Mode} (h : Fin D) : DW P N ds m ops w Fin [] D := by cases m <;> exact h

theorem DW.val {m : Mode} {o : Oper} {v : Value} (hg : dgd ops D o.guard = some G) (hd : okDst N o.dst = true) (hn : noDefer o.op = true)
    (hrun : Cnd G → ∀ a w', Below w.heap.size w w' → FitL N ds (o.looksAt ops.toArray) D a w' → (execOp a.eval o).run P w' = .ok (.value v) w') (next : DW P N ds m ops w Fin rest (dins D o.dst G (.ex v))) : DW P N ds m ops w Fin (o :: rest) D := by
  cases m with
  | weak => exact ⟨G, .ex v, ⟨hg, hd, hn, trivial, fun hG a w' hb ha => .inl ⟨v, w', hrun hG a w' hb ha, Below.refl _ _, rfl⟩⟩, next⟩
  | own => exact ⟨G, .ex v, [], ⟨hg, hd, hn, trivial, rfl, fun s hs => by simp at hs, fun hG a w' hb ha => .inl ⟨v, w', hrun hG a w' hb ha, ⟨Below.refl _ _, fun _ _ _ _ => rfl⟩, rfl, fun _ h => h.elim⟩⟩, by rw [ddrop_nil]; exact next⟩
  | cnt => exact ⟨G, .ex v, ⟨hg, hd, hn, trivial, fun hG a w' hb ha => .inl ⟨v, w', hrun hG a w' hb ha, ⟨Below.refl _ _, Nat.le_refl _⟩, rfl⟩⟩, next⟩

/-- An operation that yields something that stays true, in an extension of the world. -/
theorem DW.gen {o : Oper} {e : Ent} (hg : dgd ops D o.guard = some G) (hd : okDst N o.dst = true) (hn : noDefer o.op = true) (hm : e.mono)
    (hrun : Cnd G → ∀ a w', Below w.heap.size w w' → FitL N ds (o.looksAt ops.toArray) D a w' → ∃ v w'', (execOp a.eval o).run P w' = .ok (.value v) w'' ∧ Below w'.heap.size w' w'' ∧ e.sat v w'') (next : DW P N ds .weak ops w Fin rest (dins D o.dst G e)) : DW P N ds .weak ops w Fin (o :: rest) D :=
  ⟨G, e, ⟨hg, hd, hn, hm, fun hG a w' hb ha => .inl (hrun hG a w' hb ha)⟩, next⟩

theorem DW.enter {o : Oper} {e : Ent} (hg : dgd ops D o.guard = some G) (hd : okDst N o.dst = true) (hn : noDefer o.op = true) (hm : e.mono)
    (hrun : Cnd G → ∀ a w', Below w.heap.size w w' → FitL N ds (o.looksAt ops.toArray) D a w' → ∃ f vs, (execOp a.eval o).run P w' = .ok (.enter f vs) w' ∧ Gives P f vs w' fun v w'' => Below w'.heap.size w' w'' ∧ e.sat v w'') (next : DW P N ds .weak ops w Fin rest (dins D o.dst G e)) : DW P N ds .weak ops w Fin (o :: rest) D :=
  ⟨G, e, ⟨hg, hd, hn, hm, fun hG a w' hb ha => .inr (hrun hG a w' hb ha)⟩, next⟩

/-- Back to an environment: the slots asked for that hold known values. -/
def dpick (D : DE) : List Nat → Option Env
  | [] => some []
  | i :: is => match dlook D i with
    | some (c, .ex v) => match dpick D is with
      | some E => some ((i, c, v) :: E)
      | none => none
    | _ => none

theorem look_dpick {D : DE} : ∀ {is : List Nat} {E : Env}, dpick D is = some E → ∀ i c v, look E i = some (c, v) → dlook D i = some (c, .ex v)
  | [], E, h, i, c, v, hl => by simp [dpick] at h; subst h; simp [look] at hl
  | j :: is, E, h, i, c, v, hl => by
    simp only [dpick] at h
    split at h
    · rename_i c' v' hj
      split at h
      · rename_i E' hE
        simp only [Option.some.injEq] at h
        subst h
        simp only [look] at hl
        by_cases hi : j = i
        · subst hi
          rw [beq_self] at hl
          simp only [Option.some.injEq, Prod.mk.injEq] at hl
          obtain ⟨rfl, rfl⟩ := hl
          exact hj
        · rw [beq_ne hi] at hl
          exact look_dpick hE i c v hl
      · cases h
    · cases h

theorem FitD.pick {E : Env} {is : List Nat} {a : Act} (h : FitD N ds D a w) (hp : dpick D is = some E) : Fit N ds E a :=
  ⟨h.size, h.defers, fun i c v hl => h.slots i c (.ex v) (look_dpick hp i c v hl)⟩

/-- The region's end: the slots asked for. -/
theorem DW.fin {K : Act → World → Prop} (is : List Nat) (E : Env) (hp : dpick D is = some E) (h : ∀ w', Below w.heap.size w w' → KW N ds K E w') : ∀ a w', Below w.heap.size w w' → FitD N ds D a w' → K a w' :=
  fun a w' hb ha => h w' hb a (ha.pick hp)

end steps
end Go.PF

/- One stepping rule an operation, over the environment: in the text's order (TW), in a drawn order (DW). Printed by mkops.py. -/
namespace Go.PF
open Go.RowKit

/-- an int64's sum that fits -/
theorem wrap_fits {z : Int} (h : -9223372036854775808 ≤ z ∧ z ≤ 9223372036854775807) : IntKind.i64.wrap z = z := by
  rw [IntKind.wrap_i64]; omega

theorem setRow_new (w : World) (zs cs : Array Value) (t : TypeId) : (w.alloc (.cells zs t)).setRow w.heap.size cs = w.alloc (.cells cs t) := by
  have h3 : ((w.alloc (.cells zs t)).setRow w.heap.size cs).heap = w.heap.push (.cells cs t) := by
    unfold World.setRow
    have e : (w.alloc (.cells zs t)).heap = w.heap.push (.cells zs t) := rfl
    simp only [e]
    apply Array.ext
    · simp
    · intro i h1 h2
      simp only [Array.getElem_modify]
      by_cases hi : w.heap.size = i
      · subst hi; simp
      · have : i < w.heap.size := by simp at h1; omega
        simp [hi, Array.getElem_push_lt this]
  have h4 : (w.alloc (.cells zs t)).setRow w.heap.size cs = { w with heap := ((w.alloc (.cells zs t)).setRow w.heap.size cs).heap } := rfl
  rw [h4, h3]
  rfl

section
variable {P : Program} {r : Option Nat} {Q : Exit → Act → World → Prop} {N : Nat} {ds : List Deferred} {ops rest : List Oper} {E : Env} {D : DE} {w : World} {G : Option Bool} {Fin : DE → Prop} {md : Mode}
variable {d : Option Tmp} {ty : TypeId} {pos : String} {af : Array Edge} {gu : Option (Nat × Bool)}
variable {x y z : Operand} {cx cy cz : Option Bool} {ρ : Operand → Value}

/-- the offset of a field that is not empty -/
def fieldOff (P : Program) (t : TypeId) (fi : Nat) : Option Nat := match P.underlying t with
  | some (.struct fs) => match fs[fi]? with
    | some f => match (P.info? f.type).map (·.size) with
      | some (_ + 1) => some f.offset
      | _ => none
    | none => none
  | _ => none

theorem run_fieldAt {t : TypeId} {fi off : Nat} {ad : Addr} (hf : fieldOff P t fi = some off) : (do let v ← Instr.fieldAt t (.pointer (some ad)) fi; pure (Next.value v) : Sem Next).run P w = .ok (.value (.pointer (some (ad.add off)))) w := by
  unfold fieldOff at hf
  split at hf
  · rename_i fs hu
    split at hf
    · rename_i f hfi
      split at hf
      · rename_i sz hs
        simp only [Option.some.injEq] at hf
        subst hf
        simp [Instr.fieldAt, run_underlying hu, hfi, Instr.sureAddr, fieldPlace, run_sizeOf hs]
      · cases hf
    · cases hf
  · cases hf

/-- a field of one cell, out of a struct's value -/
def fieldOf (P : Program) (t : TypeId) (fi : Nat) (cs : Array Value) : Option Value := match P.underlying t with
  | some (.struct fs) => match fs[fi]? with
    | some f => match one P f.type with
      | true => cs[f.offset]?
      | false => none
    | none => none
  | _ => none

theorem run_field {t : TypeId} {fi : Nat} {cs : Array Value} {v : Value} (hf : fieldOf P t fi cs = some v) : (do let v ← Instr.field t (.agg cs) fi; pure (Next.value v) : Sem Next).run P w = .ok (.value v) w := by
  unfold fieldOf at hf
  split at hf
  · rename_i fs hu
    split at hf
    · rename_i f hfi
      split at hf
      · rename_i h1
        have h2 : (isAgg f.type).run P w = .ok false w := by
          unfold one at h1
          cases hu' : P.underlying f.type with
          | none => simp [hu'] at h1
          | some dsc => cases dsc <;> first | (simp [hu'] at h1; done) | simp [isAgg, run_underlying hu']
        simp [Instr.field, run_underlying hu, hfi, asAgg, part, h2, hf]
      · cases hf
    · cases hf
  · cases hf

theorem X.lss {k : IntKind} {m n : Int} {t t' : TypeId}  (hx : ρ x = .int k m) (hy : ρ y = .int k n)  : (execOp ρ ⟨d, .binOp .lss t x y t', ty, pos, af, gu⟩).run P w = .ok (.value (.bool (decide (m < n)))) w := by simp only [execOp]; rw [hx, hy, eqGuard_lss, binOp_lss]; rfl
theorem TW.lss {k : IntKind} {m n : Int} {t t' : TypeId} (hg : gd ops E gu = some G) (hd : okDst N d = true)  (hx : ev E x = some (cx, .int k m)) (ix : Cnd G → Cnd cx) (hy : ev E y = some (cy, .int k n)) (iy : Cnd G → Cnd cy) 
    (next : TW P r Q N ds ops rest (ins E d G (.bool (decide (m < n)))) w) : TW P r Q N ds ops (⟨d, .binOp .lss t x y t', ty, pos, af, gu⟩ :: rest) E w :=
  TW.val hg hd rfl (fun hG _ ha => X.lss  (ha.eval hx (ix hG)) (ha.eval hy (iy hG)) ) next
theorem DW.lss {k : IntKind} {m n : Int} {t t' : TypeId} (hg : dgd ops D gu = some G) (hd : okDst N d = true)  (hx : dev D x = some (cx, .ex (.int k m))) (ix : Cnd G → Cnd cx) (hy : dev D y = some (cy, .ex (.int k n))) (iy : Cnd G → Cnd cy) 
    (next : DW P N ds md ops w Fin rest (dins D d G (.ex (.bool (decide (m < n)))))) : DW P N ds md ops w Fin (⟨d, .binOp .lss t x y t', ty, pos, af, gu⟩ :: rest) D :=
  DW.val hg hd rfl (fun hG _ _ _ ha => X.lss  (ha.eval (o := ⟨d, .binOp .lss t x y t', ty, pos, af, gu⟩) hx (by simp [Op.operands, Call.operands]) (ix hG)) (ha.eval (o := ⟨d, .binOp .lss t x y t', ty, pos, af, gu⟩) hy (by simp [Op.operands, Call.operands]) (iy hG)) ) next
theorem X.leq {k : IntKind} {m n : Int} {t t' : TypeId}  (hx : ρ x = .int k m) (hy : ρ y = .int k n)  : (execOp ρ ⟨d, .binOp .leq t x y t', ty, pos, af, gu⟩).run P w = .ok (.value (.bool (decide (m ≤ n)))) w := by simp only [execOp]; rw [hx, hy, eqGuard_leq, binOp_leq]; rfl
theorem TW.leq {k : IntKind} {m n : Int} {t t' : TypeId} (hg : gd ops E gu = some G) (hd : okDst N d = true)  (hx : ev E x = some (cx, .int k m)) (ix : Cnd G → Cnd cx) (hy : ev E y = some (cy, .int k n)) (iy : Cnd G → Cnd cy) 
    (next : TW P r Q N ds ops rest (ins E d G (.bool (decide (m ≤ n)))) w) : TW P r Q N ds ops (⟨d, .binOp .leq t x y t', ty, pos, af, gu⟩ :: rest) E w :=
  TW.val hg hd rfl (fun hG _ ha => X.leq  (ha.eval hx (ix hG)) (ha.eval hy (iy hG)) ) next
theorem X.gtr {k : IntKind} {m n : Int} {t t' : TypeId}  (hx : ρ x = .int k m) (hy : ρ y = .int k n)  : (execOp ρ ⟨d, .binOp .gtr t x y t', ty, pos, af, gu⟩).run P w = .ok (.value (.bool (decide (n < m)))) w := by simp only [execOp]; rw [hx, hy, eqGuard_gtr, binOp_gtr]; rfl
theorem TW.gtr {k : IntKind} {m n : Int} {t t' : TypeId} (hg : gd ops E gu = some G) (hd : okDst N d = true)  (hx : ev E x = some (cx, .int k m)) (ix : Cnd G → Cnd cx) (hy : ev E y = some (cy, .int k n)) (iy : Cnd G → Cnd cy) 
    (next : TW P r Q N ds ops rest (ins E d G (.bool (decide (n < m)))) w) : TW P r Q N ds ops (⟨d, .binOp .gtr t x y t', ty, pos, af, gu⟩ :: rest) E w :=
  TW.val hg hd rfl (fun hG _ ha => X.gtr  (ha.eval hx (ix hG)) (ha.eval hy (iy hG)) ) next
theorem DW.gtr {k : IntKind} {m n : Int} {t t' : TypeId} (hg : dgd ops D gu = some G) (hd : okDst N d = true)  (hx : dev D x = some (cx, .ex (.int k m))) (ix : Cnd G → Cnd cx) (hy : dev D y = some (cy, .ex (.int k n))) (iy : Cnd G → Cnd cy) 
    (next : DW P N ds md ops w Fin rest (dins D d G (.ex (.bool (decide (n < m)))))) : DW P N ds md ops w Fin (⟨d, .binOp .gtr t x y t', ty, pos, af, gu⟩ :: rest) D :=
  DW.val hg hd rfl (fun hG _ _ _ ha => X.gtr  (ha.eval (o := ⟨d, .binOp .gtr t x y t', ty, pos, af, gu⟩) hx (by simp [Op.operands, Call.operands]) (ix hG)) (ha.eval (o := ⟨d, .binOp .gtr t x y t', ty, pos, af, gu⟩) hy (by simp [Op.operands, Call.operands]) (iy hG)) ) next
theorem X.geq {k : IntKind} {m n : Int} {t t' : TypeId}  (hx : ρ x = .int k m) (hy : ρ y = .int k n)  : (execOp ρ ⟨d, .binOp .geq t x y t', ty, pos, af, gu⟩).run P w = .ok (.value (.bool (decide (n ≤ m)))) w := by simp only [execOp]; rw [hx, hy, eqGuard_geq, binOp_geq]; rfl
theorem TW.geq {k : IntKind} {m n : Int} {t t' : TypeId} (hg : gd ops E gu = some G) (hd : okDst N d = true)  (hx : ev E x = some (cx, .int k m)) (ix : Cnd G → Cnd cx) (hy : ev E y = some (cy, .int k n)) (iy : Cnd G → Cnd cy) 
    (next : TW P r Q N ds ops rest (ins E d G (.bool (decide (n ≤ m)))) w) : TW P r Q N ds ops (⟨d, .binOp .geq t x y t', ty, pos, af, gu⟩ :: rest) E w :=
  TW.val hg hd rfl (fun hG _ ha => X.geq  (ha.eval hx (ix hG)) (ha.eval hy (iy hG)) ) next
theorem DW.geq {k : IntKind} {m n : Int} {t t' : TypeId} (hg : dgd ops D gu = some G) (hd : okDst N d = true)  (hx : dev D x = some (cx, .ex (.int k m))) (ix : Cnd G → Cnd cx) (hy : dev D y = some (cy, .ex (.int k n))) (iy : Cnd G → Cnd cy) 
    (next : DW P N ds md ops w Fin rest (dins D d G (.ex (.bool (decide (n ≤ m)))))) : DW P N ds md ops w Fin (⟨d, .binOp .geq t x y t', ty, pos, af, gu⟩ :: rest) D :=
  DW.val hg hd rfl (fun hG _ _ _ ha => X.geq  (ha.eval (o := ⟨d, .binOp .geq t x y t', ty, pos, af, gu⟩) hx (by simp [Op.operands, Call.operands]) (ix hG)) (ha.eval (o := ⟨d, .binOp .geq t x y t', ty, pos, af, gu⟩) hy (by simp [Op.operands, Call.operands]) (iy hG)) ) next
theorem X.eql {k : IntKind} {m n : Int} {t t' : TypeId}  (hx : ρ x = .int k m) (hy : ρ y = .int k n)  : (execOp ρ ⟨d, .binOp .eql t x y t', ty, pos, af, gu⟩).run P w = .ok (.value (.bool (decide (m = n)))) w := by simp only [execOp]; rw [hx, hy, eqGuard_at_int, binOp_eql]; rfl
theorem TW.eql {k : IntKind} {m n : Int} {t t' : TypeId} (hg : gd ops E gu = some G) (hd : okDst N d = true)  (hx : ev E x = some (cx, .int k m)) (ix : Cnd G → Cnd cx) (hy : ev E y = some (cy, .int k n)) (iy : Cnd G → Cnd cy) 
    (next : TW P r Q N ds ops rest (ins E d G (.bool (decide (m = n)))) w) : TW P r Q N ds ops (⟨d, .binOp .eql t x y t', ty, pos, af, gu⟩ :: rest) E w :=
  TW.val hg hd rfl (fun hG _ ha => X.eql  (ha.eval hx (ix hG)) (ha.eval hy (iy hG)) ) next
theorem DW.eql {k : IntKind} {m n : Int} {t t' : TypeId} (hg : dgd ops D gu = some G) (hd : okDst N d = true)  (hx : dev D x = some (cx, .ex (.int k m))) (ix : Cnd G → Cnd cx) (hy : dev D y = some (cy, .ex (.int k n))) (iy : Cnd G → Cnd cy) 
    (next : DW P N ds md ops w Fin rest (dins D d G (.ex (.bool (decide (m = n)))))) : DW P N ds md ops w Fin (⟨d, .binOp .eql t x y t', ty, pos, af, gu⟩ :: rest) D :=
  DW.val hg hd rfl (fun hG _ _ _ ha => X.eql  (ha.eval (o := ⟨d, .binOp .eql t x y t', ty, pos, af, gu⟩) hx (by simp [Op.operands, Call.operands]) (ix hG)) (ha.eval (o := ⟨d, .binOp .eql t x y t', ty, pos, af, gu⟩) hy (by simp [Op.operands, Call.operands]) (iy hG)) ) next
theorem X.neq {k : IntKind} {m n : Int} {t t' : TypeId}  (hx : ρ x = .int k m) (hy : ρ y = .int k n)  : (execOp ρ ⟨d, .binOp .neq t x y t', ty, pos, af, gu⟩).run P w = .ok (.value (.bool (decide (m ≠ n)))) w := by 
    simp only [execOp]; rw [hx, hy, eqGuard_at_int, binOp_neq]
    have e : (m != n) = decide (m ≠ n) := by by_cases h : m = n <;> simp [h]
    rw [e]; rfl
theorem TW.neq {k : IntKind} {m n : Int} {t t' : TypeId} (hg : gd ops E gu = some G) (hd : okDst N d = true)  (hx : ev E x = some (cx, .int k m)) (ix : Cnd G → Cnd cx) (hy : ev E y = some (cy, .int k n)) (iy : Cnd G → Cnd cy) 
    (next : TW P r Q N ds ops rest (ins E d G (.bool (decide (m ≠ n)))) w) : TW P r Q N ds ops (⟨d, .binOp .neq t x y t', ty, pos, af, gu⟩ :: rest) E w :=
  TW.val hg hd rfl (fun hG _ ha => X.neq  (ha.eval hx (ix hG)) (ha.eval hy (iy hG)) ) next
theorem DW.neq {k : IntKind} {m n : Int} {t t' : TypeId} (hg : dgd ops D gu = some G) (hd : okDst N d = true)  (hx : dev D x = some (cx, .ex (.int k m))) (ix : Cnd G → Cnd cx) (hy : dev D y = some (cy, .ex (.int k n))) (iy : Cnd G → Cnd cy) 
    (next : DW P N ds md ops w Fin rest (dins D d G (.ex (.bool (decide (m ≠ n)))))) : DW P N ds md ops w Fin (⟨d, .binOp .neq t x y t', ty, pos, af, gu⟩ :: rest) D :=
  DW.val hg hd rfl (fun hG _ _ _ ha => X.neq  (ha.eval (o := ⟨d, .binOp .neq t x y t', ty, pos, af, gu⟩) hx (by simp [Op.operands, Call.operands]) (ix hG)) (ha.eval (o := ⟨d, .binOp .neq t x y t', ty, pos, af, gu⟩) hy (by simp [Op.operands, Call.operands]) (iy hG)) ) next
theorem X.add {m n : Int} {t t' : TypeId}  (hx : ρ x = .int .i64 m) (hy : ρ y = .int .i64 n) (hb : -9223372036854775808 ≤ m + n ∧ m + n ≤ 9223372036854775807) : (execOp ρ ⟨d, .binOp .add t x y t', ty, pos, af, gu⟩).run P w = .ok (.value (.int .i64 (m + n))) w := by 
    simp only [execOp]; rw [hx, hy, eqGuard_add, binOp_add]
    show Result.ok (Next.value (Value.int .i64 (IntKind.i64.wrap (m + n)))) w = _
    rw [wrap_fits hb]
theorem TW.add {m n : Int} {t t' : TypeId} (hg : gd ops E gu = some G) (hd : okDst N d = true)  (hx : ev E x = some (cx, .int .i64 m)) (ix : Cnd G → Cnd cx) (hy : ev E y = some (cy, .int .i64 n)) (iy : Cnd G → Cnd cy) (hb : Cnd G → -9223372036854775808 ≤ m + n ∧ m + n ≤ 9223372036854775807)
    (next : TW P r Q N ds ops rest (ins E d G (.int .i64 (m + n))) w) : TW P r Q N ds ops (⟨d, .binOp .add t x y t', ty, pos, af, gu⟩ :: rest) E w :=
  TW.val hg hd rfl (fun hG _ ha => X.add  (ha.eval hx (ix hG)) (ha.eval hy (iy hG)) (hb hG)) next
theorem DW.add {m n : Int} {t t' : TypeId} (hg : dgd ops D gu = some G) (hd : okDst N d = true)  (hx : dev D x = some (cx, .ex (.int .i64 m))) (ix : Cnd G → Cnd cx) (hy : dev D y = some (cy, .ex (.int .i64 n))) (iy : Cnd G → Cnd cy) (hb : Cnd G → -9223372036854775808 ≤ m + n ∧ m + n ≤ 9223372036854775807)
    (next : DW P N ds md ops w Fin rest (dins D d G (.ex (.int .i64 (m + n))))) : DW P N ds md ops w Fin (⟨d, .binOp .add t x y t', ty, pos, af, gu⟩ :: rest) D :=
  DW.val hg hd rfl (fun hG _ _ _ ha => X.add  (ha.eval (o := ⟨d, .binOp .add t x y t', ty, pos, af, gu⟩) hx (by simp [Op.operands, Call.operands]) (ix hG)) (ha.eval (o := ⟨d, .binOp .add t x y t', ty, pos, af, gu⟩) hy (by simp [Op.operands, Call.operands]) (iy hG)) (hb hG)) next
theorem X.sub {m n : Int} {t t' : TypeId}  (hx : ρ x = .int .i64 m) (hy : ρ y = .int .i64 n) (hb : -9223372036854775808 ≤ m - n ∧ m - n ≤ 9223372036854775807) : (execOp ρ ⟨d, .binOp .sub t x y t', ty, pos, af, gu⟩).run P w = .ok (.value (.int .i64 (m - n))) w := by 
    simp only [execOp]; rw [hx, hy, eqGuard_sub, binOp_sub]
    show Result.ok (Next.value (Value.int .i64 (IntKind.i64.wrap (m - n)))) w = _
    rw [wrap_fits hb]
theorem TW.sub {m n : Int} {t t' : TypeId} (hg : gd ops E gu = some G) (hd : okDst N d = true)  (hx : ev E x = some (cx, .int .i64 m)) (ix : Cnd G → Cnd cx) (hy : ev E y = some (cy, .int .i64 n)) (iy : Cnd G → Cnd cy) (hb : Cnd G → -9223372036854775808 ≤ m - n ∧ m - n ≤ 9223372036854775807)
    (next : TW P r Q N ds ops rest (ins E d G (.int .i64 (m - n))) w) : TW P r Q N ds ops (⟨d, .binOp .sub t x y t', ty, pos, af, gu⟩ :: rest) E w :=
  TW.val hg hd rfl (fun hG _ ha => X.sub  (ha.eval hx (ix hG)) (ha.eval hy (iy hG)) (hb hG)) next
theorem DW.sub {m n : Int} {t t' : TypeId} (hg : dgd ops D gu = some G) (hd : okDst N d = true)  (hx : dev D x = some (cx, .ex (.int .i64 m))) (ix : Cnd G → Cnd cx) (hy : dev D y = some (cy, .ex (.int .i64 n))) (iy : Cnd G → Cnd cy) (hb : Cnd G → -9223372036854775808 ≤ m - n ∧ m - n ≤ 9223372036854775807)
    (next : DW P N ds md ops w Fin rest (dins D d G (.ex (.int .i64 (m - n))))) : DW P N ds md ops w Fin (⟨d, .binOp .sub t x y t', ty, pos, af, gu⟩ :: rest) D :=
  DW.val hg hd rfl (fun hG _ _ _ ha => X.sub  (ha.eval (o := ⟨d, .binOp .sub t x y t', ty, pos, af, gu⟩) hx (by simp [Op.operands, Call.operands]) (ix hG)) (ha.eval (o := ⟨d, .binOp .sub t x y t', ty, pos, af, gu⟩) hy (by simp [Op.operands, Call.operands]) (iy hG)) (hb hG)) next
theorem X.not {b : Bool} {t : TypeId}  (hx : ρ x = .bool b)  : (execOp ρ ⟨d, .unOp .not t x, ty, pos, af, gu⟩).run P w = .ok (.value (.bool (!b))) w := by simp only [execOp]; rw [hx]; rfl
theorem TW.not {b : Bool} {t : TypeId} (hg : gd ops E gu = some G) (hd : okDst N d = true)  (hx : ev E x = some (cx, .bool b)) (ix : Cnd G → Cnd cx) 
    (next : TW P r Q N ds ops rest (ins E d G (.bool (!b))) w) : TW P r Q N ds ops (⟨d, .unOp .not t x, ty, pos, af, gu⟩ :: rest) E w :=
  TW.val hg hd rfl (fun hG _ ha => X.not  (ha.eval hx (ix hG)) ) next
theorem X.eqlB {b b' : Bool} {t t' : TypeId} (ht : P.underlying t = some .bool) (hx : ρ x = .bool b) (hy : ρ y = .bool b')  : (execOp ρ ⟨d, .binOp .eql t x y t', ty, pos, af, gu⟩).run P w = .ok (.value (.bool (b == b'))) w := by simp only [execOp]; rw [hx, hy, eqGuard_at_bool]; simp [run_eql_bool w t b b' ht]
theorem DW.eqlB {b b' : Bool} {t t' : TypeId} (hg : dgd ops D gu = some G) (hd : okDst N d = true) (ht : P.underlying t = some .bool) (hx : dev D x = some (cx, .ex (.bool b))) (ix : Cnd G → Cnd cx) (hy : dev D y = some (cy, .ex (.bool b'))) (iy : Cnd G → Cnd cy) 
    (next : DW P N ds md ops w Fin rest (dins D d G (.ex (.bool (b == b'))))) : DW P N ds md ops w Fin (⟨d, .binOp .eql t x y t', ty, pos, af, gu⟩ :: rest) D :=
  DW.val hg hd rfl (fun hG _ _ _ ha => X.eqlB ht (ha.eval (o := ⟨d, .binOp .eql t x y t', ty, pos, af, gu⟩) hx (by simp [Op.operands, Call.operands]) (ix hG)) (ha.eval (o := ⟨d, .binOp .eql t x y t', ty, pos, af, gu⟩) hy (by simp [Op.operands, Call.operands]) (iy hG)) ) next
theorem X.eqlS {s s' : ByteArray} {t t' : TypeId}  (hx : ρ x = .string s) (hy : ρ y = .string s')  : (execOp ρ ⟨d, .binOp .eql t x y t', ty, pos, af, gu⟩).run P w = .ok (.value (.bool (s.toList == s'.toList))) w := by simp only [execOp]; rw [hx, hy, eqGuard_at_string, binOp_string_eql]; rfl
theorem TW.eqlS {s s' : ByteArray} {t t' : TypeId} (hg : gd ops E gu = some G) (hd : okDst N d = true)  (hx : ev E x = some (cx, .string s)) (ix : Cnd G → Cnd cx) (hy : ev E y = some (cy, .string s')) (iy : Cnd G → Cnd cy) 
    (next : TW P r Q N ds ops rest (ins E d G (.bool (s.toList == s'.toList))) w) : TW P r Q N ds ops (⟨d, .binOp .eql t x y t', ty, pos, af, gu⟩ :: rest) E w :=
  TW.val hg hd rfl (fun hG _ ha => X.eqlS  (ha.eval hx (ix hG)) (ha.eval hy (iy hG)) ) next
theorem X.neqS {s s' : ByteArray} {t t' : TypeId}  (hx : ρ x = .string s) (hy : ρ y = .string s')  : (execOp ρ ⟨d, .binOp .neq t x y t', ty, pos, af, gu⟩).run P w = .ok (.value (.bool (!(s.toList == s'.toList)))) w := by simp only [execOp]; rw [hx, hy, eqGuard_at_string, binOp_string_neq]; rfl
theorem TW.neqS {s s' : ByteArray} {t t' : TypeId} (hg : gd ops E gu = some G) (hd : okDst N d = true)  (hx : ev E x = some (cx, .string s)) (ix : Cnd G → Cnd cx) (hy : ev E y = some (cy, .string s')) (iy : Cnd G → Cnd cy) 
    (next : TW P r Q N ds ops rest (ins E d G (.bool (!(s.toList == s'.toList)))) w) : TW P r Q N ds ops (⟨d, .binOp .neq t x y t', ty, pos, af, gu⟩ :: rest) E w :=
  TW.val hg hd rfl (fun hG _ ha => X.neqS  (ha.eval hx (ix hG)) (ha.eval hy (iy hG)) ) next
theorem X.lenSlice {A : Option Addr} {l c : Nat} {t e : TypeId} (ht : P.underlying t = some (.slice e)) (hx : ρ x = .slice A l c)  : (execOp ρ ⟨d, .call ⟨.builtin .len, #[x], #[t]⟩, ty, pos, af, gu⟩).run P w = .ok (.value (.int .i64 (l : Int))) w := by simp [execOp, resolve, invoke, builtin, hx, Builtin.len_, run_underlying ht, goInt]
theorem TW.lenSlice {A : Option Addr} {l c : Nat} {t e : TypeId} (hg : gd ops E gu = some G) (hd : okDst N d = true) (ht : P.underlying t = some (.slice e)) (hx : ev E x = some (cx, .slice A l c)) (ix : Cnd G → Cnd cx) 
    (next : TW P r Q N ds ops rest (ins E d G (.int .i64 (l : Int))) w) : TW P r Q N ds ops (⟨d, .call ⟨.builtin .len, #[x], #[t]⟩, ty, pos, af, gu⟩ :: rest) E w :=
  TW.val hg hd rfl (fun hG _ ha => X.lenSlice ht (ha.eval hx (ix hG)) ) next
theorem DW.lenSlice {A : Option Addr} {l c : Nat} {t e : TypeId} (hg : dgd ops D gu = some G) (hd : okDst N d = true) (ht : P.underlying t = some (.slice e)) (hx : dev D x = some (cx, .ex (.slice A l c))) (ix : Cnd G → Cnd cx) 
    (next : DW P N ds md ops w Fin rest (dins D d G (.ex (.int .i64 (l : Int))))) : DW P N ds md ops w Fin (⟨d, .call ⟨.builtin .len, #[x], #[t]⟩, ty, pos, af, gu⟩ :: rest) D :=
  DW.val hg hd rfl (fun hG _ _ _ ha => X.lenSlice ht (ha.eval (o := ⟨d, .call ⟨.builtin .len, #[x], #[t]⟩, ty, pos, af, gu⟩) hx (by simp [Op.operands, Call.operands]) (ix hG)) ) next
theorem X.lenString {s : ByteArray} {t : TypeId} (ht : P.underlying t = some .string) (hx : ρ x = .string s)  : (execOp ρ ⟨d, .call ⟨.builtin .len, #[x], #[t]⟩, ty, pos, af, gu⟩).run P w = .ok (.value (.int .i64 (s.size : Int))) w := by simp [execOp, resolve, invoke, builtin, hx, Builtin.len_, run_underlying ht, goInt]
theorem TW.lenString {s : ByteArray} {t : TypeId} (hg : gd ops E gu = some G) (hd : okDst N d = true) (ht : P.underlying t = some .string) (hx : ev E x = some (cx, .string s)) (ix : Cnd G → Cnd cx) 
    (next : TW P r Q N ds ops rest (ins E d G (.int .i64 (s.size : Int))) w) : TW P r Q N ds ops (⟨d, .call ⟨.builtin .len, #[x], #[t]⟩, ty, pos, af, gu⟩ :: rest) E w :=
  TW.val hg hd rfl (fun hG _ ha => X.lenString ht (ha.eval hx (ix hG)) ) next
theorem X.indexAddr {ad : Addr} {l c sz : Nat} {t e : TypeId} {k : IntKind} {i : Int} (ht : P.underlying t = some (.slice e)) (hs : (P.info? e).map (·.size) = some sz) (hx : ρ x = .slice (some ad) l c) (hy : ρ y = .int k i) (hi : 0 ≤ i ∧ i < (l : Int)) : (execOp ρ ⟨d, .indexAddr t x y, ty, pos, af, gu⟩).run P w = .ok (.value (.pointer (some (ad.add (i.toNat * sz))))) w := by simp only [execOp]; rw [hx, hy]; simp [Instr.indexAt, run_underlying ht, asIntOf, hi, run_sizeOf hs]
theorem TW.indexAddr {ad : Addr} {l c sz : Nat} {t e : TypeId} {k : IntKind} {i : Int} (hg : gd ops E gu = some G) (hd : okDst N d = true) (ht : P.underlying t = some (.slice e)) (hs : (P.info? e).map (·.size) = some sz) (hx : ev E x = some (cx, .slice (some ad) l c)) (ix : Cnd G → Cnd cx) (hy : ev E y = some (cy, .int k i)) (iy : Cnd G → Cnd cy) (hi : Cnd G → 0 ≤ i ∧ i < (l : Int))
    (next : TW P r Q N ds ops rest (ins E d G (.pointer (some (ad.add (i.toNat * sz))))) w) : TW P r Q N ds ops (⟨d, .indexAddr t x y, ty, pos, af, gu⟩ :: rest) E w :=
  TW.val hg hd rfl (fun hG _ ha => X.indexAddr ht hs (ha.eval hx (ix hG)) (ha.eval hy (iy hG)) (hi hG)) next
theorem DW.indexAddr {ad : Addr} {l c sz : Nat} {t e : TypeId} {k : IntKind} {i : Int} (hg : dgd ops D gu = some G) (hd : okDst N d = true) (ht : P.underlying t = some (.slice e)) (hs : (P.info? e).map (·.size) = some sz) (hx : dev D x = some (cx, .ex (.slice (some ad) l c))) (ix : Cnd G → Cnd cx) (hy : dev D y = some (cy, .ex (.int k i))) (iy : Cnd G → Cnd cy) (hi : Cnd G → 0 ≤ i ∧ i < (l : Int))
    (next : DW P N ds md ops w Fin rest (dins D d G (.ex (.pointer (some (ad.add (i.toNat * sz))))))) : DW P N ds md ops w Fin (⟨d, .indexAddr t x y, ty, pos, af, gu⟩ :: rest) D :=
  DW.val hg hd rfl (fun hG _ _ _ ha => X.indexAddr ht hs (ha.eval (o := ⟨d, .indexAddr t x y, ty, pos, af, gu⟩) hx (by simp [Op.operands, Call.operands]) (ix hG)) (ha.eval (o := ⟨d, .indexAddr t x y, ty, pos, af, gu⟩) hy (by simp [Op.operands, Call.operands]) (iy hG)) (hi hG)) next
theorem X.fieldAddr {ad : Addr} {off fi : Nat} {t : TypeId} (hf : fieldOff P t fi = some off) (hx : ρ x = .pointer (some ad))  : (execOp ρ ⟨d, .fieldAddr t x fi, ty, pos, af, gu⟩).run P w = .ok (.value (.pointer (some (ad.add off)))) w := by simp only [execOp]; rw [hx]; exact run_fieldAt hf
theorem TW.fieldAddr {ad : Addr} {off fi : Nat} {t : TypeId} (hg : gd ops E gu = some G) (hd : okDst N d = true) (hf : fieldOff P t fi = some off) (hx : ev E x = some (cx, .pointer (some ad))) (ix : Cnd G → Cnd cx) 
    (next : TW P r Q N ds ops rest (ins E d G (.pointer (some (ad.add off)))) w) : TW P r Q N ds ops (⟨d, .fieldAddr t x fi, ty, pos, af, gu⟩ :: rest) E w :=
  TW.val hg hd rfl (fun hG _ ha => X.fieldAddr hf (ha.eval hx (ix hG)) ) next
theorem DW.fieldAddr {ad : Addr} {off fi : Nat} {t : TypeId} (hg : dgd ops D gu = some G) (hd : okDst N d = true) (hf : fieldOff P t fi = some off) (hx : dev D x = some (cx, .ex (.pointer (some ad)))) (ix : Cnd G → Cnd cx) 
    (next : DW P N ds md ops w Fin rest (dins D d G (.ex (.pointer (some (ad.add off)))))) : DW P N ds md ops w Fin (⟨d, .fieldAddr t x fi, ty, pos, af, gu⟩ :: rest) D :=
  DW.val hg hd rfl (fun hG _ _ _ ha => X.fieldAddr hf (ha.eval (o := ⟨d, .fieldAddr t x fi, ty, pos, af, gu⟩) hx (by simp [Op.operands, Call.operands]) (ix hG)) ) next
theorem X.move {vx : Value}  (hx : ρ x = vx)  : (execOp ρ ⟨d, .move x, ty, pos, af, gu⟩).run P w = .ok (.value (vx)) w := by simp only [execOp]; rw [hx]; rfl
theorem TW.move {vx : Value} (hg : gd ops E gu = some G) (hd : okDst N d = true)  (hx : ev E x = some (cx, vx)) (ix : Cnd G → Cnd cx) 
    (next : TW P r Q N ds ops rest (ins E d G (vx)) w) : TW P r Q N ds ops (⟨d, .move x, ty, pos, af, gu⟩ :: rest) E w :=
  TW.val hg hd rfl (fun hG _ ha => X.move  (ha.eval hx (ix hG)) ) next
theorem DW.move {vx : Value} (hg : dgd ops D gu = some G) (hd : okDst N d = true)  (hx : dev D x = some (cx, .ex (vx))) (ix : Cnd G → Cnd cx) 
    (next : DW P N ds md ops w Fin rest (dins D d G (.ex (vx)))) : DW P N ds md ops w Fin (⟨d, .move x, ty, pos, af, gu⟩ :: rest) D :=
  DW.val hg hd rfl (fun hG _ _ _ ha => X.move  (ha.eval (o := ⟨d, .move x, ty, pos, af, gu⟩) hx (by simp [Op.operands, Call.operands]) (ix hG)) ) next
theorem X.assign {vx : Value}  (hx : ρ x = vx)  : (execOp ρ ⟨d, .assign x, ty, pos, af, gu⟩).run P w = .ok (.value (vx)) w := by simp only [execOp]; rw [hx]; rfl
theorem TW.assign {vx : Value} (hg : gd ops E gu = some G) (hd : okDst N d = true)  (hx : ev E x = some (cx, vx)) (ix : Cnd G → Cnd cx) 
    (next : TW P r Q N ds ops rest (ins E d G (vx)) w) : TW P r Q N ds ops (⟨d, .assign x, ty, pos, af, gu⟩ :: rest) E w :=
  TW.val hg hd rfl (fun hG _ ha => X.assign  (ha.eval hx (ix hG)) ) next
theorem DW.assign {vx : Value} (hg : dgd ops D gu = some G) (hd : okDst N d = true)  (hx : dev D x = some (cx, .ex (vx))) (ix : Cnd G → Cnd cx) 
    (next : DW P N ds md ops w Fin rest (dins D d G (.ex (vx)))) : DW P N ds md ops w Fin (⟨d, .assign x, ty, pos, af, gu⟩ :: rest) D :=
  DW.val hg hd rfl (fun hG _ _ _ ha => X.assign  (ha.eval (o := ⟨d, .assign x, ty, pos, af, gu⟩) hx (by simp [Op.operands, Call.operands]) (ix hG)) ) next
theorem X.extract {vs : Array Value} {v : Value} {i : Nat} (hv : vs[i]? = some v) (hx : ρ x = .tuple vs)  : (execOp ρ ⟨d, .extract x i, ty, pos, af, gu⟩).run P w = .ok (.value (v)) w := by simp only [execOp]; rw [hx]; simp [Instr.extract, hv]
theorem TW.extract {vs : Array Value} {v : Value} {i : Nat} (hg : gd ops E gu = some G) (hd : okDst N d = true) (hv : vs[i]? = some v) (hx : ev E x = some (cx, .tuple vs)) (ix : Cnd G → Cnd cx) 
    (next : TW P r Q N ds ops rest (ins E d G (v)) w) : TW P r Q N ds ops (⟨d, .extract x i, ty, pos, af, gu⟩ :: rest) E w :=
  TW.val hg hd rfl (fun hG _ ha => X.extract hv (ha.eval hx (ix hG)) ) next
/-! ### loads -/
theorem X.load {t : TypeId} {ad : Addr} {v : Value} (h1 : one P t = true) (hx : ρ x = .pointer (some ad)) (hc : w.cell? ad = some v) : (execOp ρ ⟨d, .load t x, ty, pos, af, gu⟩).run P w = .ok (.value v) w := by
  simp only [execOp]; rw [hx]; simp [Instr.loadAt, Instr.sureAddr, run_loadVar1 h1 hc]
theorem TW.load {t : TypeId} {ad : Addr} {v : Value} (hg : gd ops E gu = some G) (hd : okDst N d = true) (h1 : one P t = true) (hx : ev E x = some (cx, .pointer (some ad))) (ix : Cnd G → Cnd cx) (hc : Cnd G → w.cell? ad = some v)
    (next : TW P r Q N ds ops rest (ins E d G v) w) : TW P r Q N ds ops (⟨d, .load t x, ty, pos, af, gu⟩ :: rest) E w :=
  TW.val hg hd rfl (fun hG _ ha => X.load h1 (ha.eval hx (ix hG)) (hc hG)) next
theorem DW.load {t : TypeId} {ad : Addr} {v : Value} (hg : dgd ops D gu = some G) (hd : okDst N d = true) (h1 : one P t = true) (hx : dev D x = some (cx, .ex (.pointer (some ad)))) (ix : Cnd G → Cnd cx) (hc : Cnd G → w.cell? ad = some v)
    (next : DW P N ds md ops w Fin rest (dins D d G (.ex v))) : DW P N ds md ops w Fin (⟨d, .load t x, ty, pos, af, gu⟩ :: rest) D :=
  DW.val hg hd rfl (fun hG _ _ hb ha => X.load h1 (ha.eval (o := ⟨d, .load t x, ty, pos, af, gu⟩) hx (by simp [Op.operands]) (ix hG)) ((hb.cell (block_lt_of_cell (hc hG))).trans (hc hG))) next
theorem X.loadS {t : TypeId} {ad : Addr} {fs : Array Field} {cs : List Value} (hu : P.underlying t = some (.struct fs)) (hs : (P.info? t).map (·.size) = some cs.length) (hx : ρ x = .pointer (some ad)) (hc : ∀ j v, cs[j]? = some v → w.cell? (ad.add j) = some v) :
    (execOp ρ ⟨d, .load t x, ty, pos, af, gu⟩).run P w = .ok (.value (.agg cs.toArray)) w := by
  simp only [execOp]; rw [hx]; simp [Instr.loadAt, Instr.sureAddr, run_loadVarS hu hs hc]
theorem TW.loadS {t : TypeId} {ad : Addr} {fs : Array Field} {n : Nat} (cs : List Value) (hg : gd ops E gu = some G) (hd : okDst N d = true) (hu : P.underlying t = some (.struct fs)) (hs : (P.info? t).map (·.size) = some n)
    (hx : ev E x = some (cx, .pointer (some ad))) (ix : Cnd G → Cnd cx) (hc : Cnd G → ∀ j v, cs[j]? = some v → w.cell? (ad.add j) = some v) (hl : cs.length = n)
    (next : TW P r Q N ds ops rest (ins E d G (.agg cs.toArray)) w) : TW P r Q N ds ops (⟨d, .load t x, ty, pos, af, gu⟩ :: rest) E w :=
  TW.val hg hd rfl (fun hG _ ha => X.loadS hu (hl ▸ hs) (ha.eval hx (ix hG)) (hc hG)) next
theorem DW.loadS {t : TypeId} {ad : Addr} {fs : Array Field} {n : Nat} (cs : List Value) (hg : dgd ops D gu = some G) (hd : okDst N d = true) (hu : P.underlying t = some (.struct fs)) (hs : (P.info? t).map (·.size) = some n)
    (hx : dev D x = some (cx, .ex (.pointer (some ad)))) (ix : Cnd G → Cnd cx) (hc : Cnd G → ∀ j v, cs[j]? = some v → w.cell? (ad.add j) = some v) (hl : cs.length = n)
    (next : DW P N ds md ops w Fin rest (dins D d G (.ex (.agg cs.toArray)))) : DW P N ds md ops w Fin (⟨d, .load t x, ty, pos, af, gu⟩ :: rest) D :=
  DW.val hg hd rfl (fun hG _ _ hb ha => X.loadS hu (hl ▸ hs) (ha.eval (o := ⟨d, .load t x, ty, pos, af, gu⟩) hx (by simp [Op.operands]) (ix hG)) (fun j v hj => (hb.cell (block_lt_of_cell (hc hG j v hj))).trans (hc hG j v hj))) next

/-! ### pick: '||', '&&' -/
theorem X.pick {vy vz v : Value} {b : Bool} (hx : ρ x = .bool b) (hy : b = true → ρ y = vy ∧ vy = v) (hz : b = false → ρ z = vz ∧ vz = v) : (execOp ρ ⟨d, .pick x y z, ty, pos, af, gu⟩).run P w = .ok (.value v) w := by
  simp only [execOp]; rw [hx]
  cases b with
  | true => obtain ⟨h, e⟩ := hy rfl; rw [h, e]; simp [asBool]
  | false => obtain ⟨h, e⟩ := hz rfl; rw [h, e]; simp [asBool]
theorem TW.pick {vy vz v : Value} {b : Bool} (hg : gd ops E gu = some G) (hd : okDst N d = true) (hx : ev E x = some (cx, .bool b)) (ix : Cnd G → Cnd cx)
    (hy : ev E y = some (cy, vy)) (hz : ev E z = some (cz, vz)) (h1 : Cnd G → b = true → Cnd cy ∧ vy = v) (h2 : Cnd G → b = false → Cnd cz ∧ vz = v)
    (next : TW P r Q N ds ops rest (ins E d G v) w) : TW P r Q N ds ops (⟨d, .pick x y z, ty, pos, af, gu⟩ :: rest) E w :=
  TW.val hg hd rfl (fun hG _ ha => X.pick (ha.eval hx (ix hG)) (fun hb => ⟨ha.eval hy (h1 hG hb).1, (h1 hG hb).2⟩) (fun hb => ⟨ha.eval hz (h2 hG hb).1, (h2 hG hb).2⟩)) next
theorem DW.pick {vy vz v : Value} {b : Bool} (hg : dgd ops D gu = some G) (hd : okDst N d = true) (hx : dev D x = some (cx, .ex (.bool b))) (ix : Cnd G → Cnd cx)
    (hy : dev D y = some (cy, .ex vy)) (hz : dev D z = some (cz, .ex vz)) (h1 : Cnd G → b = true → Cnd cy ∧ vy = v) (h2 : Cnd G → b = false → Cnd cz ∧ vz = v)
    (next : DW P N ds md ops w Fin rest (dins D d G (.ex v))) : DW P N ds md ops w Fin (⟨d, .pick x y z, ty, pos, af, gu⟩ :: rest) D :=
  DW.val hg hd rfl (fun hG _ _ _ ha => X.pick (ha.eval (o := ⟨d, .pick x y z, ty, pos, af, gu⟩) hx (by simp [Op.operands]) (ix hG)) (fun hb => ⟨ha.eval (o := ⟨d, .pick x y z, ty, pos, af, gu⟩) hy (by simp [Op.operands]) (h1 hG hb).1, (h1 hG hb).2⟩)
    (fun hb => ⟨ha.eval (o := ⟨d, .pick x y z, ty, pos, af, gu⟩) hz (by simp [Op.operands]) (h2 hG hb).1, (h2 hG hb).2⟩)) next
theorem TW.pickOr {b b' : Bool} (hg : gd ops E gu = some G) (hd : okDst N d = true) (hx : ev E x = some (cx, .bool b)) (ix : Cnd G → Cnd cx) (hz : ev E z = some (cz, .bool b')) (iz : Cnd G → b = false → Cnd cz)
    (next : TW P r Q N ds ops rest (ins E d G (.bool (b || b'))) w) : TW P r Q N ds ops (⟨d, .pick x (.const (.bool true)) z, ty, pos, af, gu⟩ :: rest) E w :=
  TW.pick hg hd hx ix rfl hz (fun _ hb => ⟨trivial, by rw [hb]; rfl⟩) (fun hG hb => ⟨iz hG hb, by rw [hb]; rfl⟩) next
theorem TW.pickAnd {b b' : Bool} (hg : gd ops E gu = some G) (hd : okDst N d = true) (hx : ev E x = some (cx, .bool b)) (ix : Cnd G → Cnd cx) (hy : ev E y = some (cy, .bool b')) (iy : Cnd G → b = true → Cnd cy)
    (next : TW P r Q N ds ops rest (ins E d G (.bool (b && b'))) w) : TW P r Q N ds ops (⟨d, .pick x y (.const (.bool false)), ty, pos, af, gu⟩ :: rest) E w :=
  TW.pick hg hd hx ix hy rfl (fun hG hb => ⟨iy hG hb, by rw [hb]; rfl⟩) (fun _ hb => ⟨trivial, by rw [hb]; rfl⟩) next
theorem DW.pickOr {b b' : Bool} (hg : dgd ops D gu = some G) (hd : okDst N d = true) (hx : dev D x = some (cx, .ex (.bool b))) (ix : Cnd G → Cnd cx) (hz : dev D z = some (cz, .ex (.bool b'))) (iz : Cnd G → b = false → Cnd cz)
    (next : DW P N ds md ops w Fin rest (dins D d G (.ex (.bool (b || b'))))) : DW P N ds md ops w Fin (⟨d, .pick x (.const (.bool true)) z, ty, pos, af, gu⟩ :: rest) D :=
  DW.pick hg hd hx ix rfl hz (fun _ hb => ⟨trivial, by rw [hb]; rfl⟩) (fun hG hb => ⟨iz hG hb, by rw [hb]; rfl⟩) next
theorem DW.pickAnd {b b' : Bool} (hg : dgd ops D gu = some G) (hd : okDst N d = true) (hx : dev D x = some (cx, .ex (.bool b))) (ix : Cnd G → Cnd cx) (hy : dev D y = some (cy, .ex (.bool b'))) (iy : Cnd G → b = true → Cnd cy)
    (next : DW P N ds md ops w Fin rest (dins D d G (.ex (.bool (b && b'))))) : DW P N ds md ops w Fin (⟨d, .pick x y (.const (.bool false)), ty, pos, af, gu⟩ :: rest) D :=
  DW.pick hg hd hx ix hy rfl (fun hG hb => ⟨iy hG hb, by rw [hb]; rfl⟩) (fun _ hb => ⟨trivial, by rw [hb]; rfl⟩) next

/-! ### operands that are lists -/
/-- Under G the operands xs are the values vs. -/
def Args (N : Nat) (ds : List Deferred) (E : Env) (G : Option Bool) (xs : List Operand) (vs : List Value) : Prop := ∀ a, Fit N ds E a → Cnd G → xs.map a.eval = vs
theorem Args.nil : Args N ds E G [] [] := fun _ _ _ => rfl
theorem Args.cons {xs : List Operand} {v : Value} {vs : List Value} (hx : ev E x = some (cx, v)) (ix : Cnd G → Cnd cx) (h : Args N ds E G xs vs) : Args N ds E G (x :: xs) (v :: vs) := fun a ha hG => by
  rw [List.map_cons, ha.eval hx (ix hG), h a ha hG]
/-- The same in a drawn order. -/
def DArgs (L : List Nat) (N : Nat) (ds : List Deferred) (D : DE) (G : Option Bool) (xs : List Operand) (vs : List Value) : Prop := (∀ t, Operand.tmp t ∈ xs → t ∈ L) → ∀ a w, FitL N ds L D a w → Cnd G → xs.map a.eval = vs
theorem DArgs.nil {L : List Nat} : DArgs L N ds D G [] [] := fun _ _ _ _ _ => rfl
theorem DArgs.cons {L : List Nat} {xs : List Operand} {v : Value} {vs : List Value} (hx : dev D x = some (cx, .ex v)) (ix : Cnd G → Cnd cx) (h : DArgs L N ds D G xs vs) : DArgs L N ds D G (x :: xs) (v :: vs) := fun hL a w ha hG => by
  rw [List.map_cons, h (fun t ht => hL t (by simp [ht])) a w ha hG, ha.evalL hx (fun t ht => hL t (by simp [ht])) (ix hG)]

theorem X.call {f : Operand} {k : FuncId} {cap : List Value} {xs : List Operand} {vs : List Value} {ts : Array TypeId} (he : enters P k = true) (hf : ρ f = .func (.func k) #[] cap.toArray) (hv : xs.map ρ = vs) :
    (execOp ρ ⟨d, .call ⟨.value f, xs.toArray, ts⟩, ty, pos, af, gu⟩).run P w = .ok (.enter k (vs ++ cap).toArray) w := by
  have h1 := run_enters (P := P) he
  simp [execOp, resolve, hf, hv, Deferred.ofValue, invoke, h1]

/-- A call, a plain function's or a closure's. -/
theorem TW.call {f : Operand} {k : FuncId} {cap : List Value} {cf : Option Bool} {xs : List Operand} {vs : List Value} {ts : Array TypeId} {R : Value → World → Prop} (hg : gd ops E gu = some G) (hd : okDst N d = true) (he : enters P k = true)
    (hf : ev E f = some (cf, .func (.func k) #[] cap.toArray)) (jf : Cnd G → Cnd cf) (hv : Args N ds E G xs vs) (hc : Cnd G → Gives P k (vs ++ cap).toArray w R)
    (next : ∀ v w', (Cnd G → R v w') → (¬ Cnd G → w' = w) → TW P r Q N ds ops rest (ins E d G v) w') : TW P r Q N ds ops (⟨d, .call ⟨.value f, xs.toArray, ts⟩, ty, pos, af, gu⟩ :: rest) E w :=
  TW.enter hg hd rfl (fun hG a ha => X.call he (ha.eval hf (jf hG)) (hv a ha hG)) hc next
theorem TW.call0 {f : Operand} {k : FuncId} {cap : List Value} {xs : List Operand} {vs : List Value} {ts : Array TypeId} {R : Value → World → Prop} (hg : gu = none) (hd : okDst N d = true) (he : enters P k = true)
    (hf : ev E f = some (none, .func (.func k) #[] cap.toArray)) (hv : Args N ds E none xs vs) (hc : Gives P k (vs ++ cap).toArray w R)
    (next : ∀ v w', R v w' → TW P r Q N ds ops rest (ins E d none v) w') : TW P r Q N ds ops (⟨d, .call ⟨.value f, xs.toArray, ts⟩, ty, pos, af, gu⟩ :: rest) E w :=
  TW.call (G := none) (by rw [hg]; rfl) hd he hf ct hv (fun _ => hc) (fun v w' h _ => next v w' (h trivial))
/-- A call with known arguments in a drawn order. -/
theorem DW.call {f : Operand} {k : FuncId} {cap : List Value} {cf : Option Bool} {xs : List Operand} {vs : List Value} {ts : Array TypeId} (e : Ent) (hm : e.mono) (hg : dgd ops D gu = some G) (hd : okDst N d = true) (he : enters P k = true)
    (hf : dev D f = some (cf, .ex (.func (.func k) #[] cap.toArray))) (jf : Cnd G → Cnd cf) (hv : DArgs (Oper.looksAt ops.toArray ⟨d, .call ⟨.value f, xs.toArray, ts⟩, ty, pos, af, gu⟩) N ds D G xs vs)
    (hc : Cnd G → ∀ w', Below w.heap.size w w' → Gives P k (vs ++ cap).toArray w' fun v w'' => Below w'.heap.size w' w'' ∧ e.sat v w'')
    (next : DW P N ds .weak ops w Fin rest (dins D d G e)) : DW P N ds .weak ops w Fin (⟨d, .call ⟨.value f, xs.toArray, ts⟩, ty, pos, af, gu⟩ :: rest) D :=
  DW.enter (o := ⟨d, .call ⟨.value f, xs.toArray, ts⟩, ty, pos, af, gu⟩) hg hd rfl hm (fun hG a w' hb ha => ⟨_, _, X.call he (ha.eval (o := ⟨d, .call ⟨.value f, xs.toArray, ts⟩, ty, pos, af, gu⟩) hf (by simp [Op.operands, Call.operands]) (jf hG))
    (hv (fun t ht => mem_looks (by simp [Op.operands, Call.operands, ht])) a w' ha hG), hc hG w' hb⟩) next

theorem X.makeFunc {fn : Fn} {cap : List Operand} {vs : List Value} (hv : cap.map ρ = vs) : (execOp ρ ⟨d, .makeFunc fn #[] cap.toArray, ty, pos, af, gu⟩).run P w = .ok (.value (.func fn #[] vs.toArray)) w := by
  simp [execOp, Instr.makeFunc, hv]
theorem TW.makeFunc {fn : Fn} {cap : List Operand} {vs : List Value} (hg : gd ops E gu = some G) (hd : okDst N d = true) (hv : Args N ds E G cap vs)
    (next : TW P r Q N ds ops rest (ins E d G (.func fn #[] vs.toArray)) w) : TW P r Q N ds ops (⟨d, .makeFunc fn #[] cap.toArray, ty, pos, af, gu⟩ :: rest) E w :=
  TW.val hg hd rfl (fun hG a ha => X.makeFunc (hv a ha hG)) next
/-! ### memory made, memory written: the text's order -/
theorem TW.box {t : TypeId} {vx : Value} {cs : List Value} (hg : gu = none) (hd : okDst N d = true) (hx : ev E x = some (none, vx)) (hv : vx.cells = cs.toArray)
    (next : ∀ g w', Fresh w w' g t cs → TW P r Q N ds ops rest (ins E d none (.pointer (some ⟨g, 0, none⟩))) w') : TW P r Q N ds ops (⟨d, .box t x, ty, pos, af, gu⟩ :: rest) E w :=
  TW.eff (w' := w.alloc (.cells cs.toArray t)) hg hd rfl (fun a ha => by
    simp only [execOp]; rw [ha.eval hx trivial, ← hv]; rfl) (next _ _ (Fresh.mk' w t cs))
theorem TW.alloc {t : TypeId} {cs : List Value} (hg : gu = none) (hd : okDst N d = true) (hz : zeroCells P t = some cs)
    (next : ∀ g w', Fresh w w' g t cs → TW P r Q N ds ops rest (ins E d none (.pointer (some ⟨g, 0, none⟩))) w') : TW P r Q N ds ops (⟨d, .alloc t, ty, pos, af, gu⟩ :: rest) E w :=
  TW.eff (w' := w.alloc (.cells cs.toArray t)) hg hd rfl (fun a ha => by
    unfold zeroCells at hz
    cases hi : P.info? t with
    | none => simp [hi] at hz
    | some i =>
      cases hzz : i.zero with
      | none => simp [hi, hzz] at hz
      | some zv =>
        simp [hi, hzz] at hz
        subst hz
        simp [execOp, Instr.alloc, zeroValue, typeInfo, hi, hzz, newVar, newRow]) (next _ _ (Fresh.mk' w t cs))
theorem TW.store1 {t : TypeId} {ad : Addr} {old vy : Value} (hg : gu = none) (h1 : (P.info? t).map (·.size) = some 1) (hx : ev E x = some (none, .pointer (some ad))) (hy : ev E y = some (none, vy)) (hc : w.cell? ad = some old) (hf : w.frozen? ad = false)
    (ho : vy.oneCell' = true) (next : TW P r Q N ds ops rest E (w.setCell ad vy)) : TW P r Q N ds ops (⟨none, .store t x y, ty, pos, af, gu⟩ :: rest) E w :=
  TW.eff0 hg rfl rfl (fun a ha => by
    simp only [execOp]; rw [ha.eval hx trivial, ha.eval hy trivial]
    have e : vy.cells = #[vy] := by cases vy <;> first | rfl | simp [Value.oneCell'] at ho
    simp [Instr.storeAt, Instr.sureAddr, storeVar, run_sizeOf h1, e, storeCells, run_store P w ad vy .plain ho, hc, hf, Addr.add]) next
/-- a struct stored into the block that was just made for it -/
theorem TW.storeBlk {t t1 : TypeId} {g : Nat} {old cs : List Value} (hg : gu = none) (hx : ev E x = some (none, .pointer (some ⟨g, 0, none⟩))) (hy : ev E y = some (none, .agg cs.toArray)) (hb : Blk w g t1 old) (hs : (P.info? t).map (·.size) = some cs.length) (hl : old.length = cs.length)
    (h1 : cs.all (·.oneCell') = true) (next : TW P r Q N ds ops rest E (w.setRow g cs.toArray)) : TW P r Q N ds ops (⟨none, .store t x y, ty, pos, af, gu⟩ :: rest) E w :=
  TW.eff0 hg rfl rfl (fun a ha => by
    simp only [execOp]; rw [ha.eval hx trivial, ha.eval hy trivial]
    have h := run_storeVar_row (P := P) w g t1 t old.toArray cs.toArray hb (by simpa using hs) (by simpa using hl) (by simpa using h1)
    simp [Instr.storeAt, Instr.sureAddr, h]) next
/-- 'v := x', v a struct that lies in memory: made and filled -/
theorem TW.newVar {t : TypeId} {dd : Nat} {zs cs : List Value} {ty' : TypeId} {pos' : String} {af' : Array Edge} (hd : okDst N (some dd) = true) (hz : zeroCells P t = some zs) (hy : ev ((dd, none, .pointer (some ⟨w.heap.size, 0, none⟩)) :: E) y = some (none, .agg cs.toArray)) (hs : (P.info? t).map (·.size) = some cs.length) (hl : zs.length = cs.length)
    (h1 : cs.all (·.oneCell') = true) (next : ∀ g w', Fresh w w' g t cs → TW P r Q N ds ops rest ((dd, none, .pointer (some ⟨g, 0, none⟩)) :: E) w') :
    TW P r Q N ds ops (⟨some dd, .alloc t, ty, pos, af, none⟩ :: ⟨none, .store t (.tmp dd) y, ty', pos', af', none⟩ :: rest) E w := by
  intro a ha
  unfold wpListIn
  rw [if_pos (by simp [Region.wanted])]
  refine ⟨fun _ _ => trivial, ?_⟩
  have hrun : (execOp a.eval ⟨some dd, .alloc t, ty, pos, af, none⟩).run P w = .ok (.value (.pointer (some ⟨w.heap.size, 0, none⟩))) (w.alloc (.cells zs.toArray t)) := by
    unfold zeroCells at hz
    cases hi : P.info? t with
    | none => simp [hi] at hz
    | some i =>
      cases hzz : i.zero with
      | none => simp [hi, hzz] at hz
      | some zv =>
        simp [hi, hzz] at hz
        subst hz
        simp [execOp, Instr.alloc, zeroValue, typeInfo, hi, hzz, Go.newVar, newRow]
  rw [semAt_of rfl, hrun]
  have key : TW P r Q N ds ops (⟨none, .store t (.tmp dd) y, ty', pos', af', none⟩ :: rest) ((dd, none, .pointer (some ⟨w.heap.size, 0, none⟩)) :: E) (w.alloc (.cells zs.toArray t)) := by
    refine TW.storeBlk (old := zs) rfl (by simp [ev, look]) hy (Blk.new w t zs) hs hl h1 ?_
    rw [setRow_new w zs.toArray cs.toArray t]
    exact next _ _ (Fresh.mk' w t cs)
  exact key _ (ha.put (d := some dd) hd (fun _ => rfl) (fun h => absurd trivial h))
end
end Go.PF

/- Data in memory: which cells stand for which Lean value. -/
namespace Go.PF
open Go.RowKit

/-- Cells of F's blocks have not turned from w to w'. -/
def Kept (F : Nat → Prop) (w w' : World) : Prop := ∀ (p : Addr) (v : Value), F p.block → w.cell? p = some v → w'.cell? p = some v

theorem Kept.of_below {F : Nat → Prop} {w w' : World} (h : Below w.heap.size w w') : Kept F w w' := fun p _ _ hc => (h.cell (block_lt_of_cell hc)).trans hc
theorem Kept.of_blocks {F : Nat → Prop} {w w' : World} (h : ∀ b, F b → b < w.heap.size → w'.heap[b]? = w.heap[b]?) : Kept F w w' := fun p _ hp hc => (World.cell?_of_block (w := w) (h p.block hp (block_lt_of_cell hc))).trans hc
theorem Kept.cell {F : Nat → Prop} {w w' : World} (h : Kept F w w') {p : Addr} {v : Value} (hp : F p.block) (hc : w.cell? p = some v) : w'.cell? p = some v := h p v hp hc

theorem add_block (a : Addr) (n : Nat) : (a.add n).block = a.block := by unfold Addr.add; split <;> rfl

/-- A Go type whose values are read as Lean's α: how many cells, and which cells stand for which value (F: the blocks that it may name). -/
structure Ty (α : Type) where
  n : Nat
  rep : (Nat → Prop) → World → List Value → α → Prop
  len : ∀ F w cs x, rep F w cs x → cs.length = n
  mono : ∀ F w w' cs x, Kept F w w' → rep F w cs x → rep F w' cs x
  wider : ∀ (F F' : Nat → Prop) w cs x, (∀ b, F b → F' b) → rep F w cs x → rep F' w cs x

def I64 (x : Int) : Prop := -9223372036854775808 ≤ x ∧ x ≤ 9223372036854775807

def intT : Ty Int where
  n := 1
  rep := fun _ _ cs x => cs = [.int .i64 x] ∧ I64 x
  len := fun _ _ _ _ h => by rw [h.1]; rfl
  mono := fun _ _ _ _ _ _ h => h
  wider := fun _ _ _ _ _ _ h => h

def boolT : Ty Bool where
  n := 1
  rep := fun _ _ cs x => cs = [.bool x]
  len := fun _ _ _ _ h => by rw [h]; rfl
  mono := fun _ _ _ _ _ _ h => h
  wider := fun _ _ _ _ _ _ h => h

def strT : Ty ByteArray where
  n := 1
  rep := fun _ _ cs x => cs = [.string x] ∧ x.size ≤ 9223372036854775807
  len := fun _ _ _ _ h => by rw [h.1]; rfl
  mono := fun _ _ _ _ _ _ h => h
  wider := fun _ _ _ _ _ _ h => h

variable {α : Type}

/-- A slice value that reads as the list l. -/
def SL (T : Ty α) (F : Nat → Prop) (w : World) (v : Value) (l : List α) : Prop :=
  ∃ A cap, v = .slice A l.length cap ∧ l.length ≤ cap ∧ l.length ≤ 9223372036854775807 ∧
    ∀ i x, l[i]? = some x → ∃ ad cs, A = some ad ∧ F ad.block ∧ (∀ j u, cs[j]? = some u → w.cell? ((ad.add (i * T.n)).add j) = some u) ∧ T.rep F w cs x

theorem SL.mono {T : Ty α} {F : Nat → Prop} {w w' : World} {v : Value} {l : List α} (h : SL T F w v l) (hk : Kept F w w') : SL T F w' v l := by
  obtain ⟨A, cap, hv, h1, h2, h3⟩ := h
  refine ⟨A, cap, hv, h1, h2, fun i x hx => ?_⟩
  obtain ⟨ad, cs, ha, hF, hc, hr⟩ := h3 i x hx
  exact ⟨ad, cs, ha, hF, fun j u hu => hk.cell (by rw [add_block, add_block]; exact hF) (hc j u hu), T.mono _ _ _ _ _ hk hr⟩

theorem SL.below {T : Ty α} {F : Nat → Prop} {w w' : World} {v : Value} {l : List α} (h : SL T F w v l) (hb : Below w.heap.size w w') : SL T F w' v l := h.mono (.of_below hb)

theorem SL.wider {T : Ty α} {F F' : Nat → Prop} {w : World} {v : Value} {l : List α} (h : SL T F w v l) (hF : ∀ b, F b → F' b) : SL T F' w v l := by
  obtain ⟨A, cap, hv, h1, h2, h3⟩ := h
  refine ⟨A, cap, hv, h1, h2, fun i x hx => ?_⟩
  obtain ⟨ad, cs, ha, hb, hc, hr⟩ := h3 i x hx
  exact ⟨ad, cs, ha, hF _ hb, hc, T.wider _ _ _ _ _ hF hr⟩

theorem SL.nil (T : Ty α) (F : Nat → Prop) (w : World) : SL T F w (.slice none 0 0) [] := ⟨none, 0, rfl, Nat.le_refl _, by simp, fun i x h => by simp at h⟩

def sliceT (T : Ty α) : Ty (List α) where
  n := 1
  rep := fun F w cs l => ∃ v, cs = [v] ∧ SL T F w v l
  len := fun _ _ _ _ h => by obtain ⟨v, h, _⟩ := h; rw [h]; rfl
  mono := fun _ _ _ _ _ hk h => by obtain ⟨v, h, hs⟩ := h; exact ⟨v, h, hs.mono hk⟩
  wider := fun _ _ _ _ _ hF h => by obtain ⟨v, h, hs⟩ := h; exact ⟨v, h, hs.wider hF⟩

/-- An int of a slice of ints. -/
theorem SL.int {F : Nat → Prop} {w : World} {A : Option Addr} {n cap : Nat} {l : List Int} (h : SL intT F w (.slice A n cap) l) {i : Nat} {x : Int} (hx : l[i]? = some x) :
    ∃ ad, A = some ad ∧ w.cell? (ad.add (i * 1)) = some (.int .i64 x) ∧ I64 x := by
  obtain ⟨A', cap', hv, _, _, h3⟩ := h
  simp only [Value.slice.injEq] at hv
  obtain ⟨rfl, _, rfl⟩ := hv
  obtain ⟨ad, cs, ha, _, hc, hr, hi⟩ := h3 i x hx
  exact ⟨ad, ha, by have := hc 0 (.int .i64 x) (by rw [hr]; rfl); simpa [intT, Addr.add] using this, hi⟩

theorem SL.len {T : Ty α} {F : Nat → Prop} {w : World} {A : Option Addr} {n cap : Nat} {l : List α} (h : SL T F w (.slice A n cap) l) : n = l.length ∧ l.length ≤ cap ∧ l.length ≤ 9223372036854775807 := by
  obtain ⟨A', cap', hv, h1, h2, _⟩ := h
  simp only [Value.slice.injEq] at hv
  obtain ⟨rfl, rfl, rfl⟩ := hv
  exact ⟨rfl, h1, h2⟩

end Go.PF

/- Literals, append, maps. -/
namespace Go.PF
open Go.RowKit

section
variable {P : Program} {r : Option Nat} {Q : Exit → Act → World → Prop} {N : Nat} {ds : List Deferred} {ops rest : List Oper} {E : Env} {D : DE} {w : World} {G : Option Bool} {Fin : DE → Prop} {md : Mode}
variable {d : Option Tmp} {ty : TypeId} {pos : String} {af : Array Edge} {gu : Option (Nat × Bool)}
variable {x y z : Operand} {cx cy cz : Option Bool} {ρ : Operand → Value}

/-! ### '[]T{..}', every place written -/
def number {α : Type} (l : List α) : List (Nat × α) := (l.zipIdx 0).map fun p => (p.2, p.1)

theorem map_number {α β : Type} (f : α → β) (l : List α) : (number l).map (fun p => (p.1, f p.2)) = number (l.map f) := by
  simp [number, List.zipIdx_map, Function.comp_def]

/-- the size of a type's values, which is not 0, and that a zero value is at hand -/
def elemOK (P : Program) (t e : TypeId) (sz : Nat) : Bool := match P.underlying t, P.info? e with
  | some (.slice e'), some i => match i.zero with
    | some zv => Nat.beq e' e && Nat.beq i.size sz && Nat.beq zv.cells.size sz && Nat.blt 0 sz
    | none => false
  | _, _ => false

theorem elemOK_spec {t e : TypeId} {sz : Nat} (h : elemOK P t e sz = true) : ∃ i zv, P.underlying t = some (.slice e) ∧ P.info? e = some i ∧ i.zero = some zv ∧ i.size = sz ∧ zv.cells.size = sz ∧ 0 < sz := by
  unfold elemOK at h
  split at h
  · rename_i e' i hu hi
    split at h
    · rename_i zv hz
      simp only [Bool.and_eq_true] at h
      obtain ⟨⟨⟨h1, h2⟩, h3⟩, h4⟩ := h
      have := Nat.eq_of_beq_eq_true h1
      subst this
      exact ⟨i, zv, hu, hi, hz, Nat.eq_of_beq_eq_true h2, Nat.eq_of_beq_eq_true h3, blt_iff.1 h4⟩
    · cases h
  · cases h

theorem run_buildSlice_dense {t e : TypeId} {sz : Nat} (he : elemOK P t e sz = true) {vs : List Value} (hv : ∀ v ∈ vs, v.cells.size = sz) (hsm : vs.length * sz ≤ 16777216) (hpos : 0 < vs.length) (w : World) :
    (Instr.buildSlice t vs.length (number vs).toArray).run P w = .ok (.slice (some ⟨w.heap.size, 0, none⟩) vs.length vs.length) (w.alloc (.cells (vs.flatMap fun v => v.cells.toList).toArray e)) := by
  obtain ⟨i, zv, hu, hi, hz, rfl, hzs, hs⟩ := elemOK_spec he
  have hp : 0 < vs.length * i.size := Nat.mul_pos hpos hs
  refine run_buildSlice w t e vs.length _ _ i zv hu hi hz (by simp only [Nat.reducePow]; omega) (by omega) ?_
  simp only [number]
  exact Great.fill_whole hs vs _ hv (by simp)

theorem X.buildSlice {t e : TypeId} {sz len : Nat} {parts : Array (Nat × Operand)} {xs : List Operand} {vs : List Value} (hp : parts.toList = number xs) (hl : len = vs.length) (he : elemOK P t e sz = true) (hx : xs.map ρ = vs) (hv : ∀ v ∈ vs, v.cells.size = sz) (hsm : vs.length * sz ≤ 16777216) (hpos : 0 < vs.length) :
    (execOp ρ ⟨d, .buildSlice t len parts, ty, pos, af, gu⟩).run P w = .ok (.value (.slice (some ⟨w.heap.size, 0, none⟩) vs.length vs.length)) (w.alloc (.cells (vs.flatMap fun v => v.cells.toList).toArray e)) := by
  subst hl
  have e1 : parts.map (fun (i, x) => (i, ρ x)) = (number vs).toArray := by
    apply Array.toList_inj.1
    rw [Array.toList_map, hp, ← hx, ← map_number]
  simp only [execOp]
  rw [e1]
  simp [run_buildSlice_dense he hv hsm hpos w]

theorem TW.buildSlice {t : TypeId} (e : TypeId) {sz len : Nat} {parts : Array (Nat × Operand)} (xs : List Operand) {vs cs : List Value} (hg : gu = none) (hd : okDst N d = true) (hp : parts.toList = number xs) (he : elemOK P t e sz = true) (hx : Args N ds E none xs vs) (hl : len = vs.length)
    (hv : vs.all (fun v => Nat.beq v.cells.size sz) = true) (hsm : Nat.ble (vs.length * sz) 16777216 = true) (hpos : Nat.blt 0 vs.length = true) (hcs : vs.flatMap (fun v => v.cells.toList) = cs)
    (next : ∀ g w', Fresh w w' g e cs → TW P r Q N ds ops rest (ins E d none (.slice (some ⟨g, 0, none⟩) len len)) w') : TW P r Q N ds ops (⟨d, .buildSlice t len parts, ty, pos, af, gu⟩ :: rest) E w := by
  subst hl
  have hv' : ∀ v ∈ vs, v.cells.size = sz := fun v hm => Nat.eq_of_beq_eq_true (List.all_eq_true.1 hv v hm)
  refine TW.eff hg hd rfl (fun a ha => X.buildSlice hp rfl he (hx a ha trivial) hv' (Nat.le_of_ble_eq_true hsm) (blt_iff.1 hpos)) ?_
  rw [hcs]
  exact next _ _ (Fresh.mk' w e cs)

/-- '[]T{}' -/
theorem TW.buildSlice0 {t : TypeId} (e : TypeId) {sz : Nat} (hg : gu = none) (hd : okDst N d = true) (he : elemOK P t e sz = true)
    (next : ∀ g w', Fresh w w' g e [] → TW P r Q N ds ops rest (ins E d none (.slice (some ⟨g, 0, none⟩) 0 0)) w') : TW P r Q N ds ops (⟨d, .buildSlice t 0 #[], ty, pos, af, gu⟩ :: rest) E w := by
  obtain ⟨i, zv, hu, hi, hz, rfl, hzs, hs⟩ := elemOK_spec he
  refine TW.eff (v := .slice (some ⟨w.heap.size, 0, none⟩) 0 0) (w' := w.alloc (.cells [].toArray e)) hg hd rfl (fun a ha => ?_) (next _ _ (Fresh.mk' w e []))
  simp [execOp, Instr.buildSlice, run_underlying hu, sizeOf, typeInfo, hi, Instr.fill, newRow, Array.range_zero']

/-- a literal made in a drawn order: some block holds just this -/
def Lies (e : TypeId) (len : Nat) (cs : List Value) (v : Value) (w : World) : Prop := ∃ g, v = .slice (some ⟨g, 0, none⟩) len len ∧ Blk w g e cs
theorem Lies.mono (e : TypeId) (len : Nat) (cs : List Value) : Ent.mono (.pr (Lies e len cs)) := fun _ _ _ hb ⟨g, hv, hB⟩ => ⟨g, hv, hB.next hb⟩

theorem DW.buildSlice {t : TypeId} (e : TypeId) {sz len : Nat} {parts : Array (Nat × Operand)} (xs : List Operand) {vs cs : List Value} (hg : dgd ops D gu = some G) (hd : okDst N d = true) (hp : parts.toList = number xs) (he : elemOK P t e sz = true)
    (hx : DArgs (Oper.looksAt ops.toArray ⟨d, .buildSlice t len parts, ty, pos, af, gu⟩) N ds D G xs vs) (hl : len = vs.length)
    (hv : vs.all (fun v => Nat.beq v.cells.size sz) = true) (hsm : Nat.ble (vs.length * sz) 16777216 = true) (hpos : Nat.blt 0 vs.length = true) (hcs : vs.flatMap (fun v => v.cells.toList) = cs)
    (next : DW P N ds .weak ops w Fin rest (dins D d G (.pr (Lies e len cs)))) : DW P N ds .weak ops w Fin (⟨d, .buildSlice t len parts, ty, pos, af, gu⟩ :: rest) D := by
  subst hl
  have hv' : ∀ v ∈ vs, v.cells.size = sz := fun v hm => Nat.eq_of_beq_eq_true (List.all_eq_true.1 hv v hm)
  refine DW.gen hg hd rfl (Lies.mono e _ cs) (fun hG a w' hb ha => ?_) next
  refine ⟨_, _, X.buildSlice hp rfl he (hx (fun t ht => mem_looks ?_) a w' ha hG) hv' (Nat.le_of_ble_eq_true hsm) (blt_iff.1 hpos), (Below.refl _ _).alloc (Nat.le_refl _) _, w'.heap.size, rfl, ?_⟩
  · have : (t, Operand.tmp t) = (t, Operand.tmp t) := rfl
    simp only [Op.operands]
    rw [hp]
    simp only [number, List.map_map]
    rw [List.mem_map]
    obtain ⟨j, hj, he⟩ := List.getElem_of_mem ht
    exact ⟨(Operand.tmp t, j), by rw [List.mem_zipIdx_iff_getElem?]; simp [he.symm], rfl⟩
  · rw [hcs]; exact Blk.new w' e cs

/-! ### 'T{..}' -/
theorem X.build {t : TypeId} {parts : Array (Nat × Operand)} {is : List Nat} {xs : List Operand} {vs : List Value} {cs : List Value} (hp : parts.toList = is.zip xs) (hx : xs.map ρ = vs) (hb : P.built t (is.zip vs) = some cs.toArray) :
    (execOp ρ ⟨d, .build t parts, ty, pos, af, gu⟩).run P w = .ok (.value (.agg cs.toArray)) w := by
  have e1 : (parts.map fun (i, x) => (i, ρ x)).toList = is.zip vs := by
    rw [Array.toList_map, hp, ← hx]
    clear hp hb hx
    induction is generalizing xs with
    | nil => simp
    | cons i is ih => cases xs with
      | nil => simp
      | cons x xs => simp [ih]
  simp only [execOp]
  simp [run_build w t _ cs.toArray (by rw [e1]; exact hb)]
theorem TW.build {t : TypeId} {parts : Array (Nat × Operand)} (is : List Nat) (xs : List Operand) {vs : List Value} (cs : List Value) (hg : gd ops E gu = some G) (hd : okDst N d = true) (hp : parts.toList = is.zip xs) (hx : Args N ds E G xs vs) (hb : P.built t (is.zip vs) = some cs.toArray)
    (next : TW P r Q N ds ops rest (ins E d G (.agg cs.toArray)) w) : TW P r Q N ds ops (⟨d, .build t parts, ty, pos, af, gu⟩ :: rest) E w :=
  TW.val hg hd rfl (fun hG a ha => X.build hp (hx a ha hG) hb) next
theorem mem_parts {parts : Array (Nat × Operand)} {is : List Nat} {xs : List Operand} (hp : parts.toList = is.zip xs) (hle : Nat.ble xs.length is.length = true) {t : Nat} (h : Operand.tmp t ∈ xs) : Operand.tmp t ∈ ((parts.toList.map (·.2)).toArray).toList := by
  have hle' := Nat.le_of_ble_eq_true hle
  rw [hp]
  simp only [List.map_snd_zip hle']
  exact h
/-! ### append -/
/-- the element's type, for append -/
def growOK (P : Program) (t e : TypeId) (sz bytes : Nat) : Bool := match P.underlying t, P.info? e with
  | some (.slice e'), some i => match i.zero with
    | some zv => Nat.beq e' e && Nat.beq i.size sz && Nat.beq i.bytes bytes && Nat.beq zv.cells.size sz && Nat.blt 0 sz
    | none => false
  | _, _ => false
theorem growOK_spec {t e : TypeId} {sz bytes : Nat} (h : growOK P t e sz bytes = true) : ∃ i zv, P.underlying t = some (.slice e) ∧ P.info? e = some i ∧ i.zero = some zv ∧ i.size = sz ∧ i.bytes = bytes ∧ zv.cells.size = sz ∧ 0 < sz := by
  unfold growOK at h
  split at h
  · rename_i e' i hu hi
    split at h
    · rename_i zv hz
      simp only [Bool.and_eq_true] at h
      obtain ⟨⟨⟨⟨h1, h2⟩, h5⟩, h3⟩, h4⟩ := h
      have := Nat.eq_of_beq_eq_true h1
      subst this
      exact ⟨i, zv, hu, hi, hz, Nat.eq_of_beq_eq_true h2, Nat.eq_of_beq_eq_true h5, Nat.eq_of_beq_eq_true h3, blt_iff.1 h4⟩
    · cases h
  · cases h

/-- A slice that the call owns: nil, or the head of a row known up to its length; its block may grow and move. -/
def OwnS (w : World) (e : TypeId) (sz : Nat) (v : Value) (n : Nat) (xs : List Value) : Prop := w.ownsRow 0 e sz v n xs

theorem OwnS.nil (w : World) (e : TypeId) (sz : Nat) : OwnS w e sz (.slice none 0 0) 0 [] := ⟨by simp, .inl ⟨rfl, rfl⟩⟩
theorem OwnS.kept {w w' : World} {e : TypeId} {sz n : Nat} {v : Value} {xs : List Value} (h : OwnS w e sz v n xs) (hk : ∀ g, v.ownBlock = some g → w'.heap[g]? = w.heap[g]?) : OwnS w' e sz v n xs := by
  refine ⟨h.1, ?_⟩
  rcases h.2 with h2 | ⟨g, cap, cur, hv, hg, hh, hr⟩
  · exact .inl h2
  · exact .inr ⟨g, cap, cur, hv, hg, by rw [hk g (by rw [hv]; rfl)]; exact hh, hr⟩
theorem OwnS.lt {w : World} {e : TypeId} {sz n : Nat} {v : Value} {xs : List Value} (h : OwnS w e sz v n xs) {g : Nat} (hg : v.ownBlock = some g) : g < w.heap.size := by
  rcases h.2 with ⟨rfl, _⟩ | ⟨g', cap, cur, hv, _, hh, _⟩
  · simp [Value.ownBlock] at hg
  · rw [hv] at hg
    simp [Value.ownBlock] at hg
    subst hg
    exact (Array.getElem?_eq_some_iff.1 hh).1
theorem OwnS.below {w w' : World} {e : TypeId} {sz n : Nat} {v : Value} {xs : List Value} (h : OwnS w e sz v n xs) (hb : Below w.heap.size w w') : OwnS w' e sz v n xs := h.kept fun _ hg => hb.block _ (h.lt hg)
theorem OwnS.form {w : World} {e : TypeId} {sz n : Nat} {v : Value} {xs : List Value} (h : OwnS w e sz v n xs) : ∃ A cap, v = .slice A n cap ∧ n ≤ cap ∧ xs.length = n * sz ∧
    (∀ j u, xs[j]? = some u → ∃ g, A = some ⟨g, 0, none⟩ ∧ v.ownBlock = some g ∧ w.cell? ⟨g, j, none⟩ = some u ∧ w.frozen? ⟨g, j, none⟩ = false) := by
  rcases h.2 with ⟨rfl, rfl⟩ | ⟨g, cap, cur, hv, hg, hh, h1, h2, h3, h4⟩
  · refine ⟨none, 0, rfl, Nat.le_refl _, h.1, fun j u hj => ?_⟩
    have : xs = [] := List.eq_nil_of_length_eq_zero (by simpa using h.1)
    rw [this] at hj
    simp at hj
  · refine ⟨some ⟨g, 0, none⟩, cap, hv, h1, h.1, fun j u hj => ⟨g, rfl, by rw [hv]; rfl, ?_, ?_⟩⟩
    · rw [← h4] at hj
      rw [List.getElem?_take] at hj
      split at hj
      · simp [World.cell?, hh]; simpa using hj
      · cases hj
    · simp [World.frozen?, hh]

/-- 'append(s, x...)', s the call's own, x any slice whose cells are known -/
theorem append_run {t e : TypeId} {sz bytes n m c : Nat} {v : Value} {xs : List Value} {A : Option Addr} {news : List Value} (ho : growOK P t e sz bytes = true) (hown : OwnS w e sz v n xs) (hl : news.length = m * sz) (hn : ∀ j u, news[j]? = some u → ∃ ad, A = some ad ∧ w.cell? (ad.add j) = some u) (h1 : ∀ u ∈ news, u.oneCell' = true)
    (hb : (n + m) * bytes ≤ 140737488355328) (hb0 : 1 ≤ bytes) : ∃ v' w', (Builtin.append_ #[t, t] ty #[v, .slice A m c]).run P w = .ok v' w' ∧ OwnS w' e sz v' (n + m) (xs ++ news) ∧ w.grownBy w' v.ownBlock ∧ (v'.ownBlock = v.ownBlock ∨ v'.ownBlock = some w.heap.size) := by
  obtain ⟨i, zv, hu, hi, hz, h2, h3, h4, h5⟩ := growOK_spec ho
  have h63 : n + m ≤ maxLen := by
    have : n + m ≤ (n + m) * bytes := Nat.le_mul_of_pos_right _ hb0
    simp only [maxLen]; omega
  rcases A with _ | ad
  · have hnil : news = [] := by
      cases news with
      | nil => rfl
      | cons u us => obtain ⟨ad, h, _⟩ := hn 0 u rfl; cases h
    subst hnil
    have hm : m = 0 := by
      rcases Nat.eq_zero_or_pos m with h | h
      · exact h
      · have := Nat.mul_pos h h5; simp at hl; omega
    subst hm
    refine ⟨v, w, ?_, by simpa [OwnS] using hown, ⟨rfl, rfl, rfl, Nat.le_refl _, fun _ _ _ => rfl⟩, .inl rfl⟩
    rcases hown.2 with ⟨rfl, rfl⟩ | ⟨g, cap, cur, rfl, _, _, hnc, _⟩
    · simp [Builtin.append_, run_underlying hu, sizeOf, typeInfo, hi, Builtin.lenOf, Builtin.firstCells]
    · simp [Builtin.append_, run_underlying hu, sizeOf, typeInfo, hi, Builtin.lenOf, Builtin.firstCells, hnc, storeCells]
  · obtain ⟨v', w', a1, a2, a3, _, a5⟩ := run_append_own_at (P := P) w 0 t ty e i zv sz bytes hu hi hz h2 h3 h4 h5 v n xs hown ad m c news hl (fun j u hj => by
      obtain ⟨ad', e1, e2⟩ := hn j u hj
      simp only [Option.some.injEq] at e1
      subst e1; exact e2) h1 h63 hb (Nat.zero_le _)
    exact ⟨v', w', a1, a2, a3, a5⟩
theorem TW.append {t e : TypeId} {sz bytes n m c : Nat} {s : Operand} {v : Value} {xs : List Value} {A : Option Addr} (news : List Value) (hg : gu = none) (hd : okDst N d = true) (ho : growOK P t e sz bytes = true)
    (hs : ev E s = some (none, v)) (hown : OwnS w e sz v n xs) (hx : ev E x = some (none, .slice A m c)) (hl : news.length = m * sz) (hn : ∀ j u, news[j]? = some u → ∃ ad, A = some ad ∧ w.cell? (ad.add j) = some u) (h1 : ∀ u ∈ news, u.oneCell' = true)
    (hb : (n + m) * bytes ≤ 140737488355328) (hb0 : 1 ≤ bytes)
    (next : ∀ v' w', OwnS w' e sz v' (n + m) (xs ++ news) → w.grownBy w' v.ownBlock → (v'.ownBlock = v.ownBlock ∨ v'.ownBlock = some w.heap.size) → TW P r Q N ds ops rest (ins E d none v') w') :
    TW P r Q N ds ops (⟨d, .call ⟨.builtin .append, #[s, x], #[t, t]⟩, ty, pos, af, gu⟩ :: rest) E w := by
  obtain ⟨v', w', a1, a2, a3, a5⟩ := append_run (ty := ty) (c := c) ho hown hl hn h1 hb hb0
  refine TW.eff (v := v') (w' := w') hg hd rfl (fun a ha => ?_) (next v' w' a2 a3 a5)
  simp only [execOp, resolve, invoke, builtin, Sem.run_bind, Sem.run_pure, Result.andThen_ok, List.map_toArray, List.map_cons, List.map_nil, ha.eval hs trivial, ha.eval hx trivial, a1]

/-! ### maps -/
theorem run_checkKey_string {kt : TypeId} (h : P.underlying kt = some .string) (e : Bool) (n : Nat) (a : ByteArray) (w : World) : (Instr.checkKey e (n + 1) kt (.string a)).run P w = .ok () w := by
  simp [Instr.checkKey, run_underlying h]
theorem run_checkKey_int {kt : TypeId} {k : IntKind} (h : P.underlying kt = some (.int k)) (e : Bool) (n : Nat) (a : Int) (w : World) : (Instr.checkKey e (n + 1) kt (.int k a)).run P w = .ok () w := by
  simp [Instr.checkKey, run_underlying h]

/-- A key's type: int, string. -/
structure Key (P : Program) (kt : TypeId) (κ : Type) where
  enc : κ → Value
  eqb : κ → κ → Bool
  kd : TypeDesc
  und : P.underlying kt = some kd
  same : ∀ a b, Instr.sameNow kd (enc a) (enc b) = some (eqb a b)
  bits : ∀ a b, eqb a b = true → Instr.sameBits 10000 (enc b) (enc a) = true
  ok : ∀ (e : Bool) (a : κ) (w : World), (Instr.checkKey e 10000 kt (enc a)).run P w = .ok () w

def strKey (P : Program) (kt : TypeId) (h : P.underlying kt = some .string) : Key P kt ByteArray where
  enc := .string
  eqb := fun a b => a.toList == b.toList
  kd := .string
  und := h
  same := fun a b => by show some (a == b) = _; rw [beq_toListBytes]
  bits := fun a b h => by show (b == a) = true; rw [beq_toListBytes, beq_iff_eq] at *; exact h.symm
  ok := fun e a w => run_checkKey_string h e 9999 a w

def intKey (P : Program) (kt : TypeId) (k : IntKind) (h : P.underlying kt = some (.int k)) : Key P kt Int where
  enc := .int k
  eqb := fun a b => a == b
  kd := .int k
  und := h
  same := fun a b => by simp [Instr.sameNow]
  bits := fun a b h => by
    have : a = b := by simpa using h
    subst this; simp [Instr.sameBits]
  ok := fun e a w => run_checkKey_int h e 9999 a w

variable {κ : Type} {kt : TypeId}

/-- Block b is a map with these entries, in the order of their birth. -/
def MapIs (K : Key P kt κ) (w : World) (b : Nat) (m : List (κ × Value)) : Prop := ∃ es clock, w.heap[b]? = some (.map es clock) ∧ es.toList.map (fun e => (e.key, e.val)) = m.map fun p => (K.enc p.1, p.2)

def mget (K : Key P kt κ) (m : List (κ × Value)) (k : κ) : Option Value := match m with
  | [] => none
  | (k', v) :: m => if K.eqb k k' then some v else mget K m k
def mput (K : Key P kt κ) (m : List (κ × Value)) (k : κ) (v : Value) : List (κ × Value) := match m with
  | [] => [(k, v)]
  | (k', v') :: m => if K.eqb k k' then (k, v) :: m else (k', v') :: mput K m k v

theorem MapIs.lt {K : Key P kt κ} {b : Nat} {m : List (κ × Value)} (h : MapIs K w b m) : b < w.heap.size := by
  obtain ⟨es, cl, hh, _⟩ := h; exact (Array.getElem?_eq_some_iff.1 hh).1
theorem MapIs.kept {K : Key P kt κ} {b : Nat} {m : List (κ × Value)} {w' : World} (h : MapIs K w b m) (hk : w'.heap[b]? = w.heap[b]?) : MapIs K w' b m := by
  obtain ⟨es, cl, hh, hm⟩ := h; exact ⟨es, cl, hk.trans hh, hm⟩
theorem MapIs.below {K : Key P kt κ} {b : Nat} {m : List (κ × Value)} {w' : World} (h : MapIs K w b m) (hb : Below w.heap.size w w') : MapIs K w' b m := h.kept (hb.block b h.lt)

theorem findNow_map (K : Key P kt κ) (k : κ) : ∀ (m : List (κ × Value)) (es : List MapEntry) (i : Nat), es.map (fun e => (e.key, e.val)) = m.map (fun p => (K.enc p.1, p.2)) →
    ∃ r, Instr.findNow K.kd (K.enc k) es i = some r ∧ r.map (·.2) = mget K m k ∧ (r = none → ∀ p ∈ m, K.eqb k p.1 = false) ∧
      ∀ j u, r = some (j, u) → ∃ j', j = i + j' ∧ j' < m.length ∧ (∀ h : j' < m.length, K.eqb k (m[j'].1) = true) ∧ ∀ v : Value, mput K m k v = (m.take j') ++ (k, v) :: m.drop (j' + 1)
  | [], es, i, h => by
    have : es = [] := by simpa using h
    subst this
    exact ⟨none, rfl, rfl, (fun _ p hp => by simp at hp), (fun j u h => by cases h)⟩
  | (k', v') :: m, [], i, h => by simp at h
  | (k', v') :: m, e :: es, i, h => by
    simp only [List.map_cons, List.cons.injEq, Prod.mk.injEq] at h
    obtain ⟨⟨h1, h2⟩, h3⟩ := h
    simp only [Instr.findNow]
    rw [h1, K.same k k']
    cases hb : K.eqb k k' with
    | true =>
      refine ⟨some (i, e.val), rfl, by simp [mget, hb, h2], (fun h => by cases h), fun j u hj => ?_⟩
      simp only [Option.some.injEq, Prod.mk.injEq] at hj
      obtain ⟨rfl, rfl⟩ := hj
      exact ⟨0, rfl, by simp, fun _ => by simpa using hb, fun v => by simp [mput, hb]⟩
    | false =>
      obtain ⟨r, hr, hg, hn, hs⟩ := findNow_map K k m es (i + 1) h3
      refine ⟨r, hr, by simp [mget, hb, hg], fun h p hp => ?_, fun j u hj => ?_⟩
      · simp at hp
        rcases hp with rfl | hp
        · exact hb
        · exact hn h p hp
      · obtain ⟨j', h1, h2, h3, h4⟩ := hs j u hj
        exact ⟨j' + 1, by omega, by simp; omega, fun hlt => by simpa using h3 h2, fun v => by simp [mput, hb, h4 v]⟩

theorem mput_new (K : Key P kt κ) {m : List (κ × Value)} {k : κ} (v : Value) (h : ∀ p ∈ m, K.eqb k p.1 = false) : mput K m k v = m ++ [(k, v)] := by
  induction m with
  | nil => rfl
  | cons p m ih => obtain ⟨k', v'⟩ := p; simp [mput, h (k', v') (by simp), ih (fun q hq => h q (by simp [hq]))]

theorem run_lookup (K : Key P kt κ) {t et : TypeId} (ht : P.underlying t = some (.map kt et)) {zv : Value} (hz : (P.info? et).bind (·.zero) = some zv) {b : Nat} {m : List (κ × Value)} (hm : MapIs K w b m) (k : κ) :
    (Instr.lookup t (.map (some b)) (K.enc k) false).run P w = .ok ((mget K m k).getD zv) w := by
  obtain ⟨es, cl, hh, he⟩ := hm
  obtain ⟨rr, hr, hg, _⟩ := findNow_map K k m es.toList 0 he
  cases hi : P.info? et with
  | none => simp [hi] at hz
  | some i =>
    simp [hi] at hz
    have hobj : (getObj b).run P w = .ok (.map es cl) w := by simp [getObj, Sem.run, hh]
    cases rr with
    | none =>
      simp at hg
      simp [Instr.lookup, run_underlying ht, hobj, K.ok, Instr.findKey, run_underlying K.und, hr, zeroValue, typeInfo, hi, hz, ← hg]
    | some p =>
      obtain ⟨j, u⟩ := p
      simp at hg
      simp [Instr.lookup, run_underlying ht, hobj, K.ok, Instr.findKey, run_underlying K.und, hr, ← hg]

/-! ### structs of plain fields, compared -/
def eqV : Value → Value → Bool
  | .int _ a, .int _ b => a == b
  | .bool a, .bool b => a == b
  | .string a, .string b => a.toList == b.toList
  | _, _ => false
def fitV : TypeDesc → Value → Bool
  | .int k, .int k' _ => decide (k = k')
  | .bool, .bool _ => true
  | .string, .string _ => true
  | _, _ => false
def eqVs : List Value → List Value → Bool
  | [], [] => true
  | x :: xs, y :: ys => eqV x y && eqVs xs ys
  | _, _ => false
def flatFs (P : Program) : List Field → Nat → List Value → List Value → Bool
  | [], _, [], [] => true
  | f :: fs, i, x :: xs, y :: ys => match P.underlying f.type with
    | some dsc => Nat.beq f.offset i && (f.name != "_") && fitV dsc x && fitV dsc y && flatFs P fs (i + 1) xs ys
    | none => false
  | _, _, _, _ => false

theorem run_eqFields_flat (n : Nat) (X Y : Array Value) : ∀ (fs : List Field) (i : Nat) (xs ys : List Value), flatFs P fs i xs ys = true → (∀ j v, xs[j]? = some v → X[i + j]? = some v) → (∀ j v, ys[j]? = some v → Y[i + j]? = some v) →
    (Op.eqFields (n + 1) X Y fs).run P w = .ok (eqVs xs ys) w
  | [], i, xs, ys, h, _, _ => by
    cases xs <;> cases ys <;> simp [flatFs] at h
    simp [Op.eqFields, eqVs]
  | f :: fs, i, [], ys, h, _, _ => by simp [flatFs] at h
  | f :: fs, i, x :: xs, [], h, _, _ => by simp [flatFs] at h
  | f :: fs, i, x :: xs, y :: ys, h, hX, hY => by
    simp only [flatFs] at h
    split at h
    · rename_i dsc hu
      simp only [Bool.and_eq_true] at h
      obtain ⟨⟨⟨⟨h1, h2⟩, h3⟩, h4⟩, h5⟩ := h
      have ho : f.offset = i := Nat.eq_of_beq_eq_true h1
      have hname : f.name ≠ "_" := by simpa using h2
      have ih := run_eqFields_flat n X Y fs (i + 1) xs ys h5 (fun j v hj => by have := hX (j + 1) v (by simpa using hj); rwa [show i + (j + 1) = i + 1 + j by omega] at this)
        (fun j v hj => by have := hY (j + 1) v (by simpa using hj); rwa [show i + (j + 1) = i + 1 + j by omega] at this)
      have hx0 : X[f.offset]? = some x := by rw [ho]; exact hX 0 x rfl
      have hy0 : Y[f.offset]? = some y := by rw [ho]; exact hY 0 y rfl
      have hagg : (isAgg f.type).run P w = .ok false w := by
        cases dsc <;> first | (simp [fitV] at h3; done) | simp [isAgg, run_underlying hu]
      have hp1 : (part f.type X f.offset).run P w = .ok x w := by simp [part, hagg, hx0]
      have hp2 : (part f.type Y f.offset).run P w = .ok y w := by simp [part, hagg, hy0]
      have heq : (Op.equalIn (n + 1) f.type x y).run P w = .ok (eqV x y) w := by
        cases dsc <;> cases x <;> first | (simp [fitV] at h3; done) | skip
        all_goals cases y <;> first | (simp [fitV] at h4; done) | skip
        · exact run_equalIn_bool w n _ _ _ hu
        · rename_i k k1 a1 k2 a2
          have e1 : k = k1 := of_decide_eq_true h3
          have e2 : k = k2 := of_decide_eq_true h4
          subst e1; subst e2
          exact run_equalIn_int w n _ _ _ _ _ hu
        · exact run_equalIn_string w n _ _ _ hu
      simp only [Op.eqFields, Sem.run_bind, Sem.run_ite, if_pos hname, hp1, hp2, heq, Result.andThen_ok]
      cases hb : eqV x y with
      | false => simp [eqVs, hb]
      | true => simp [eqVs, hb, ih]
    · cases h

def flatT (P : Program) (t : TypeId) (xs ys : List Value) : Bool := match P.underlying t with
  | some (.struct fs) => !P.stoodInHeld t && !P.eqGuardType P.depth t && flatFs P fs.toList 0 xs ys
  | _ => false

theorem run_equalIn_flat {t : TypeId} {xs ys : List Value} (h : flatT P t xs ys = true) : (Op.equalIn 10000 t (.agg xs.toArray) (.agg ys.toArray)).run P w = .ok (eqVs xs ys) w ∧ P.eqGuardType P.depth t = false := by
  unfold flatT at h
  split at h
  · rename_i fs hu
    simp only [Bool.and_eq_true, Bool.not_eq_true'] at h
    obtain ⟨⟨h1, h2⟩, h3⟩ := h
    have hfo : P.fieldsOf t = fs := by simp [Program.fieldsOf, hu]
    refine ⟨?_, h2⟩
    rw [show (10000 : Nat) = 9999 + 1 from rfl, run_equalIn_struct w 9999 t _ _ (by rw [hfo]; exact hu) h1, hfo]
    exact run_eqFields_flat 9998 _ _ fs.toList 0 xs ys h3 (fun j v hj => by simpa using hj) (fun j v hj => by simpa using hj)
  · cases h

/-- A call whose result is known: guarded or not. -/
theorem TW.callF {f : Operand} {k : FuncId} {cap : List Value} {cf : Option Bool} {xs : List Operand} {vs : List Value} {ts : Array TypeId} {u : Value} (hg : gd ops E gu = some G) (hd : okDst N d = true) (he : enters P k = true)
    (hf : ev E f = some (cf, .func (.func k) #[] cap.toArray)) (jf : Cnd G → Cnd cf) (hv : Args N ds E G xs vs) (hc : Cnd G → Gives P k (vs ++ cap).toArray w fun v w' => Below w.heap.size w w' ∧ v = u)
    (next : ∀ w', Below w.heap.size w w' → TW P r Q N ds ops rest (ins E d G u) w') : TW P r Q N ds ops (⟨d, .call ⟨.value f, xs.toArray, ts⟩, ty, pos, af, gu⟩ :: rest) E w := by
  intro a ha
  obtain ⟨h1, h2⟩ := wanted_of (o := ⟨d, .call ⟨.value f, xs.toArray, ts⟩, ty, pos, af, gu⟩) ha hg
  unfold wpListIn
  by_cases hcG : Cnd G
  · rw [if_pos (h1 hcG)]
    refine ⟨fun _ _ => trivial, ?_⟩
    rw [semAt_of rfl, X.call he (ha.eval hf (jf hcG)) (hv a ha hcG)]
    refine ⟨fun h => by simp [Fence.wide] at h, ?_⟩
    refine CallsIn.mono (callsIn_of (hc hcG)) ?_
    rintro e w' ⟨v, rfl, hb, rfl⟩
    exact next w' hb _ (ha.put hd (fun _ => rfl) (fun h => absurd hcG h))
  · rw [if_neg (by rw [h2 hcG]; simp)]
    exact ⟨fun _ _ => trivial, next w (Below.refl _ _) _ (ha.put hd (fun h => absurd h hcG) (fun _ => rfl))⟩
end
end Go.PF

/- A range over a function: the loop's statement, its rounds, the iterator's contract. -/
namespace Go.PF
open Go.RowKit

/-- Blocks that hold a loop's record, deferred calls, a walk. -/
def ctl : Obj → Bool
  | .loop _ | .deferred _ | .mapIter .. | .stringIter .. => true
  | _ => false

/-- w' extends w; of the blocks from n on, those that are ctl may have turned. -/
structure ExtF (n : Nat) (w w' : World) : Prop where
  os : w'.os = w.os
  tape : w'.tape = w.tape
  output : w'.output = w.output
  size : w.heap.size ≤ w'.heap.size
  block : ∀ (k : Nat) (o : Obj), w.heap[k]? = some o → (k < n ∨ ctl o = false) → w'.heap[k]? = some o

theorem ExtF.refl (n : Nat) (w : World) : ExtF n w w := ⟨rfl, rfl, rfl, Nat.le_refl _, fun _ _ h _ => h⟩
theorem ExtF.trans {n : Nat} {a b c : World} (h : ExtF n a b) (k : ExtF n b c) : ExtF n a c :=
  ⟨k.os.trans h.os, k.tape.trans h.tape, k.output.trans h.output, Nat.le_trans h.size k.size, fun i o ho hc => k.block i o (h.block i o ho hc) hc⟩
theorem ExtF.less {n n' : Nat} {a b : World} (h : ExtF n' a b) (hn : n ≤ n') : ExtF n a b :=
  ⟨h.os, h.tape, h.output, h.size, fun i o ho hc => h.block i o ho (hc.imp (fun h => by omega) id)⟩
theorem ExtF.of_below {n : Nat} {a b : World} (h : Below a.heap.size a b) : ExtF n a b :=
  ⟨h.os, h.tape, h.output, h.size, fun i o ho _ => (h.block i (Array.getElem?_eq_some_iff.1 ho).1).trans ho⟩
theorem ExtF.putObj {n l : Nat} {w : World} {o o' : Obj} (h : w.heap[l]? = some o) (hc : ctl o = true) (hn : n ≤ l) : ExtF n w (w.putObj l o') := by
  refine ⟨rfl, rfl, rfl, by simp [World.putObj], fun k p hp hk => ?_⟩
  by_cases e : l = k
  · subst e
    rw [h] at hp
    simp only [Option.some.injEq] at hp
    subst hp
    rcases hk with hk | hk
    · omega
    · rw [hc] at hk; cases hk
  · exact (World.putObj_heap_other (by omega)).trans hp
theorem ExtF.below {n : Nat} {w0 w w' : World} (h : Below n w0 w) (k : ExtF n w w') (hn : n ≤ w0.heap.size) : Below n w0 w' :=
  ⟨k.os.trans h.os, k.tape.trans h.tape, k.output.trans h.output, Nat.le_trans h.size k.size, fun i hi => by
    have hb := h.block i hi
    have hlt : i < w0.heap.size := by omega
    have e : w0.heap[i]? = some w0.heap[i] := Array.getElem?_eq_getElem hlt
    rw [e] at hb ⊢
    exact k.block i _ hb (.inl hi)⟩
theorem ExtF.kept {n : Nat} {F : Nat → Prop} {w w' : World} (k : ExtF n w w') : Kept F w w' := fun p v _ hc => by
  unfold World.cell? at hc ⊢
  split at hc
  · rename_i c e fr hb
    rw [k.block _ _ hb (.inr rfl)]
    exact hc
  · cases hc
theorem Blk.ext {n : Nat} {w w' : World} {g : Nat} {t : TypeId} {cs : List Value} (h : Blk w g t cs) (k : ExtF n w w') : Blk w' g t cs := k.block g _ h (.inr rfl)
theorem SL.ext {α : Type} {T : Ty α} {n : Nat} {F : Nat → Prop} {w w' : World} {v : Value} {l : List α} (h : SL T F w v l) (k : ExtF n w w') : SL T F w' v l := h.mono k.kept
theorem OwnS.ext {m : Nat} {w w' : World} {e : TypeId} {sz n : Nat} {v : Value} {xs : List Value} (h : OwnS w e sz v n xs) (k : ExtF m w w') : OwnS w' e sz v n xs := by
  refine ⟨h.1, ?_⟩
  rcases h.2 with h2 | ⟨g, cap, cur, hv, hg, hh, hr⟩
  · exact .inl h2
  · exact .inr ⟨g, cap, cur, hv, hg, k.block g _ hh (.inr rfl), hr⟩
theorem MapIs.ext {P : Program} {kt : TypeId} {κ : Type} {K : Key P kt κ} {n : Nat} {w w' : World} {b : Nat} {m : List (κ × Value)} (h : MapIs K w b m) (k : ExtF n w w') : MapIs K w' b m := by
  obtain ⟨es, cl, hh, he⟩ := h
  exact ⟨es, cl, k.block b _ hh (.inr rfl), he⟩

/-- Calling yield of loop l: it says true or false, and R holds of that and of the world. -/
def Yields (P : Program) (l : Nat) (args : Array Value) (W : World) (R : Bool → World → Prop) : Prop :=
  ∃ fn tmps assign body, (Instr.yield l args).run P W = .ok (.round l fn tmps assign body) W ∧ RoundIn (FR none) 0 P l fn tmps assign body W (fun e W' => ∃ b, e = .returned (.bool b) ∧ R b W')

theorem Yields.mono {P : Program} {l : Nat} {args : Array Value} {W : World} {R R' : Bool → World → Prop} (h : Yields P l args W R) (hr : ∀ b W', R b W' → R' b W') : Yields P l args W R' := by
  obtain ⟨fn, tmps, assign, body, h1, h2⟩ := h
  exact ⟨fn, tmps, assign, body, h1, h2.mono fun e W' ⟨b, he, hR⟩ => ⟨b, he, hr b W' hR⟩⟩

/-- What one round may do: M: the blocks that the loop's body may write. -/
structure Rnd {α : Type} (l : Nat) (J Jx : List α → (Nat → Prop) → World → Prop) (pre : List α) (M : Nat → Prop) (W : World) (b : Bool) (W' : World) : Prop where
  size : W.heap.size ≤ W'.heap.size
  kept : ∀ k, k < W.heap.size → ¬ M k → k ≠ l → W'.heap[k]? = W.heap[k]?
  yes : b = true → ∃ M', J pre M' W' ∧ ∀ k, M' k → (M k ∨ W.heap.size ≤ k) ∧ k < W'.heap.size
  no : b = false → ∃ M', Jx pre M' W'

/-- An iterator: called with whatever yield, it hands over a list of which 'Done' holds, or stops where a round said so. 'own': the blocks that it reads. -/
def IterOK {α : Type} (P : Program) (gf : FuncId) (cap : List Value) (enc : α → List Value) (Pos : List α → α → Prop) (Done : List α → Prop) (own : Nat → Prop) (w0 : World) : Prop :=
  ∀ (l : Nat) (J Jx : List α → (Nat → Prop) → World → Prop) (W : World) (M : Nat → Prop),
    (∀ k, own k → k < w0.heap.size → W.heap[k]? = w0.heap[k]?) → w0.heap.size ≤ W.heap.size → l < W.heap.size → (∀ k, own k → ¬ M k ∧ k ≠ l) → (∀ k, M k → k < W.heap.size) →
    (∀ pre M W1 W2, J pre M W1 → ExtF W.heap.size W1 W2 → J pre M W2) → (∀ pre M W1 W2, Jx pre M W1 → ExtF W.heap.size W1 W2 → Jx pre M W2) →
    (∀ pre x M W1, J pre M W1 → Pos pre x → (∀ k, M k → k < W1.heap.size) → l < W1.heap.size → Yields P l (enc x).toArray W1 (Rnd l J Jx (pre ++ [x]) M W1)) →
    J [] M W →
    Gives P gf (.func (.yield l) #[] #[] :: cap).toArray W fun _ W' => (∃ xs M', Done xs ∧ J xs M' W') ∨ (∃ pre M', Jx pre M' W')

section
variable {P : Program} {r : Option Nat} {Q : Exit → Act → World → Prop} {N : Nat} {ds : List Deferred} {ops rest : List Oper} {E : Env} {w : World} {G : Option Bool}
variable {d : Option Tmp} {ty : TypeId} {pos : String} {af : Array Edge} {gu : Option (Nat × Bool)}

/-- A call of yield. -/
theorem TW.yield {f : Operand} {l : Nat} {xs : List Operand} {vs : List Value} {ts : Array TypeId} {R : Bool → World → Prop} (hg : gu = none) (hd : okDst N d = true) (hf : ev E f = some (none, .func (.yield l) #[] #[])) (hv : Args N ds E none xs vs)
    (hy : Yields P l vs.toArray w R) (next : ∀ b w', R b w' → TW P r Q N ds ops rest (ins E d none (.bool b)) w') : TW P r Q N ds ops (⟨d, .call ⟨.value f, xs.toArray, ts⟩, ty, pos, af, gu⟩ :: rest) E w := by
  intro a ha
  obtain ⟨fn, tmps, assign, body, h1, h2⟩ := hy
  unfold wpListIn
  rw [if_pos (by simp [Region.wanted, hg])]
  refine ⟨fun _ _ => trivial, ?_⟩
  have hrun : (execOp a.eval ⟨d, .call ⟨.value f, xs.toArray, ts⟩, ty, pos, af, gu⟩).run P w = .ok (.round l fn tmps assign body) w := by
    simp [execOp, resolve, ha.eval hf trivial, hv a ha trivial, Deferred.ofValue, invoke, h1]
  rw [semAt_of rfl, hrun]
  refine ⟨fun h => by simp [Fence.wide] at h, ?_⟩
  have h3 : RoundIn (FR r) (0 - 1) P l fn tmps assign body w (fun e W' => ∃ b, e = .returned (.bool b) ∧ R b W') := h2
  refine h3.mono ?_
  rintro e W' ⟨b, rfl, hR⟩
  exact next b W' hR _ (ha.put hd (fun _ => rfl) (fun h => absurd trivial h))

/-- yield's parameters, in the round's frame -/
def insP (E : Env) : List Tmp → List Value → Env
  | t :: ts, v :: vs => insP ((t, none, v) :: E) ts vs
  | _, _ => E

theorem fit_insP : ∀ (ts : List Tmp) (vs : List Value) (E : Env) (tmps : Array Value), Fit N [] E { tmps := tmps, defers := [] } → ts.all (fun t => Nat.blt t N) = true →
    Fit N [] (insP E ts vs) { tmps := (ts.zip vs).foldl (fun t (p, v) => t.setIfInBounds p v) tmps, defers := [] }
  | [], vs, E, tmps, h, _ => by simpa [insP] using h
  | t :: ts, [], E, tmps, h, _ => by simpa [insP] using h
  | t :: ts, v :: vs, E, tmps, h, ht => by
    simp only [List.all_cons, Bool.and_eq_true] at ht
    simp only [insP, List.zip_cons_cons, List.foldl_cons]
    exact fit_insP ts vs _ _ (h.put (d := some t) (c := none) (v := v) (u := v) ht.1 (fun _ => rfl) (fun h => absurd trivial h)) ht.2

/-- The record of a loop. -/
def RecIs (N : Nat) (E : Env) (ps : List Tmp) (assign body : Code) (D : Nat) (W : World) (L : Nat) (st : LoopState) (pe : Option Code) : Prop :=
  ∃ fn tmps, Fit N [] E { tmps := tmps, defers := [] } ∧ W.heap[L]? = some (.loop { state := st, pending := pe, fn := fn, tmps := tmps, params := ps.toArray, assign := assign, body := body, defers := D })

/-- What a round's body must come to. -/
def rndPost (P : Program) (L : Nat) (R : Bool → World → Prop) : Exit → Act → World → Prop := roundPost P L (fun e W' => ∃ b, e = .returned (.bool b) ∧ R b W')

theorem Yields.of_round {ps : List Tmp} {assign body : Code} {D L : Nat} {W : World} {vs : List Value} {R : Bool → World → Prop} (hr : RecIs N E ps assign body D W L .ready none) (hl : vs.length = ps.length) (hps : ps.all (fun t => Nat.blt t N) = true)
    (h : CW P (some L) (Exit.then (fun a1 W1 => ∃ W2, (Instr.beginRound L).run P W1 = .ok () W2 ∧ body.wpIn (FR (some L)) 0 P (rndPost P L R) a1 W2) (fun _ _ _ => False)) N [] assign (insP E ps vs) W) : Yields P L vs.toArray W R := by
  obtain ⟨fn, tmps, hf, hh⟩ := hr
  refine ⟨fn, _, assign, body, run_yield hh (by simpa using hl), ?_⟩
  refine roundIn_of_wpIn trivial ?_
  have := h _ (fit_insP ps vs E tmps hf hps)
  have e : (ps.toArray.zip vs.toArray).foldl (fun tmps (t, a) => tmps.setIfInBounds t a) tmps = (ps.zip vs).foldl (fun t (p, v) => t.setIfInBounds p v) tmps := by simp
  rw [e]
  exact this

/-- the assignment of the loop's variables is over: the round begins -/
theorem KW.begin {ps : List Tmp} {assign body : Code} {D L : Nat} {W : World} {E' : Env} {R : Bool → World → Prop} (hr : RecIs N E ps assign body D W L .ready none)
    (h : ∀ W2, ExtF L W W2 → W2.heap.size = W.heap.size → (∀ k, k ≠ L → W2.heap[k]? = W.heap[k]?) → RecIs N E ps assign body D W2 L .busy none → CW P (some L) (rndPost P L R) N [] body E' W2) :
    KW N [] (Exit.then (fun a1 W1 => ∃ W2, (Instr.beginRound L).run P W1 = .ok () W2 ∧ body.wpIn (FR (some L)) 0 P (rndPost P L R) a1 W2) (fun _ _ _ => False) .normal) E' W := by
  intro a ha
  obtain ⟨fn, tmps, hf, hh⟩ := hr
  refine ⟨_, run_beginRound hh rfl, ?_⟩
  have hlt : L < W.heap.size := (Array.getElem?_eq_some_iff.1 hh).1
  exact h _ (ExtF.putObj hh rfl (Nat.le_refl _)) (by simp [World.putObj]) (fun k hk => World.putObj_heap_other hk) ⟨fn, tmps, hf, World.putObj_heap_same hlt⟩ a ha

theorem KW.endN {ps : List Tmp} {assign body : Code} {D L : Nat} {W : World} {E' : Env} {R : Bool → World → Prop} {st : LoopState} {pe : Option Code} (hr : RecIs N E ps assign body D W L st pe)
    (h : ∀ W2, ExtF L W W2 → W2.heap.size = W.heap.size → (∀ k, k ≠ L → W2.heap[k]? = W.heap[k]?) → RecIs N E ps assign body D W2 L .ready none → R true W2) : KW N [] (rndPost P L R .normal) E' W := by
  intro a _
  obtain ⟨fn, tmps, hf, hh⟩ := hr
  have hlt : L < W.heap.size := (Array.getElem?_eq_some_iff.1 hh).1
  exact ⟨_, _, run_endRound none hh, true, rfl, h _ (ExtF.putObj hh rfl (Nat.le_refl _)) (by simp [World.putObj]) (fun k hk => World.putObj_heap_other hk) ⟨fn, tmps, hf, World.putObj_heap_same hlt⟩⟩
theorem KW.endR {ps : List Tmp} {assign body : Code} {D L : Nat} {W : World} {E' : Env} {R : Bool → World → Prop} {st : LoopState} {pe : Option Code} (hr : RecIs N E ps assign body D W L st pe)
    (h : ∀ W2, ExtF L W W2 → W2.heap.size = W.heap.size → (∀ k, k ≠ L → W2.heap[k]? = W.heap[k]?) → RecIs N E ps assign body D W2 L .done (some .ret) → R false W2) : KW N [] (rndPost P L R .ret) E' W := by
  intro a _
  obtain ⟨fn, tmps, hf, hh⟩ := hr
  have hlt : L < W.heap.size := (Array.getElem?_eq_some_iff.1 hh).1
  exact ⟨_, _, run_endRound (some .ret) hh, false, rfl, h _ (ExtF.putObj hh rfl (Nat.le_refl _)) (by simp [World.putObj]) (fun k hk => World.putObj_heap_other hk) ⟨fn, tmps, hf, World.putObj_heap_same hlt⟩⟩
theorem KW.endX {ps : List Tmp} {assign body : Code} {D L id : Nat} {W : World} {E' : Env} {R : Bool → World → Prop} {st : LoopState} {pe : Option Code} (hr : RecIs N E ps assign body D W L st pe)
    (h : ∀ W2, ExtF L W W2 → W2.heap.size = W.heap.size → (∀ k, k ≠ L → W2.heap[k]? = W.heap[k]?) → RecIs N E ps assign body D W2 L .done (some (.exit id)) → R false W2) : KW N [] (rndPost P L R (.exit id)) E' W := by
  intro a _
  obtain ⟨fn, tmps, hf, hh⟩ := hr
  have hlt : L < W.heap.size := (Array.getElem?_eq_some_iff.1 hh).1
  exact ⟨_, _, run_endRound (some (.exit id)) hh, false, rfl, h _ (ExtF.putObj hh rfl (Nat.le_refl _)) (by simp [World.putObj]) (fun k hk => World.putObj_heap_other hk) ⟨fn, tmps, hf, World.putObj_heap_same hlt⟩⟩

theorem RecIs.ext {ps : List Tmp} {assign body : Code} {D L : Nat} {W W' : World} {st : LoopState} {pe : Option Code} {n : Nat} (hr : RecIs N E ps assign body D W L st pe) (h : ExtF n W W') (hn : L < n) : RecIs N E ps assign body D W' L st pe := by
  obtain ⟨fn, tmps, hf, hh⟩ := hr
  exact ⟨fn, tmps, hf, h.block L _ hh (.inl hn)⟩
theorem RecIs.kept {ps : List Tmp} {assign body : Code} {D L : Nat} {W W' : World} {st : LoopState} {pe : Option Code} (hr : RecIs N E ps assign body D W L st pe) (h : W'.heap[L]? = W.heap[L]?) : RecIs N E ps assign body D W' L st pe := by
  obtain ⟨fn, tmps, hf, hh⟩ := hr
  exact ⟨fn, tmps, hf, h.trans hh⟩
theorem RecIs.lt {ps : List Tmp} {assign body : Code} {D L : Nat} {W : World} {st : LoopState} {pe : Option Code} (hr : RecIs N E ps assign body D W L st pe) : L < W.heap.size := by
  obtain ⟨fn, tmps, hf, hh⟩ := hr
  exact (Array.getElem?_eq_some_iff.1 hh).1

/-- **The statement**, outside of any round. J: what holds between two rounds; Jx: what holds where a round has left by c. -/
theorem CW.range {α : Type} {g : Operand} {ps : List Tmp} {assign body : Code} {gf : FuncId} {cap : List Value} {enc : α → List Value} {Pos : List α → α → Prop} {Done : List α → Prop} {own : Nat → Prop}
    (hg : ev E g = some (none, .func (.func gf) #[] cap.toArray)) (he : enters P gf = true) (hit : IterOK P gf cap enc Pos Done own w) (hps : ps.all (fun t => Nat.blt t N) = true) (hlen : ∀ x, (enc x).length = ps.length)
    (J : List α → (Nat → Prop) → World → Prop) (Jx : Code → List α → (Nat → Prop) → World → Prop) (M : Nat → Prop) (hM : ∀ k, M k → k < w.heap.size ∧ ¬ own k) (hown : ∀ k, own k → k < w.heap.size)
    (hJ : ∀ pre M W1 W2, J pre M W1 → ExtF w.heap.size W1 W2 → J pre M W2) (hJx : ∀ c pre M W1 W2, Jx c pre M W1 → ExtF w.heap.size W1 W2 → Jx c pre M W2) (h0 : J [] M w)
    (round : ∀ D L pre x M W, w.heap.size ≤ D → D < L → J pre M W → Pos pre x → (∀ k, M k → k < W.heap.size) → ¬ M L → ¬ M D → RecIs N E ps assign body D W L .ready none →
      CW P (some L) (Exit.then (fun a1 W1 => ∃ W2, (Instr.beginRound L).run P W1 = .ok () W2 ∧
        body.wpIn (FR (some L)) 0 P (rndPost P L (Rnd L (fun pre M' W' => J pre M' W' ∧ ¬ M' L ∧ ¬ M' D ∧ RecIs N E ps assign body D W' L .ready none) (fun pre M' W' => ∃ c, Jx c pre M' W' ∧ RecIs N E ps assign body D W' L .done (some c)) (pre ++ [x]) M W)) a1 W2) (fun _ _ _ => False)) N [] assign (insP E ps (enc x)) W)
    (done : ∀ D xs M W, w.heap.size ≤ D → Done xs → J xs M W → W.heap[D]? = some (.deferred (some [])) → KW N ({ target := .collected D, args := #[] } :: ds) (Q .normal) E W)
    (stop : ∀ D c pre M W, w.heap.size ≤ D → Jx c pre M W → W.heap[D]? = some (.deferred (some [])) → CW P none Q N ({ target := .collected D, args := #[] } :: ds) c E W) :
    CW P none Q N ds (.rangeFunc g ps.toArray assign body) E w := by
  intro a ha
  refine wpIn_rangeFunc fun fn _ => ?_
  obtain ⟨W1, hW1⟩ : ∃ W1, (w.alloc (.deferred (some []))).alloc (.loop { state := .ready, pending := none, fn := fn, tmps := a.tmps, params := ps.toArray, assign := assign, body := body, defers := w.heap.size }) = W1 := ⟨_, rfl⟩
  have hsz : W1.heap.size = w.heap.size + 2 := by rw [← hW1]; simp
  have hL1 : W1.heap[w.heap.size + 1]? = some (.loop { state := .ready, pending := none, fn := fn, tmps := a.tmps, params := ps.toArray, assign := assign, body := body, defers := w.heap.size }) := by
    rw [← hW1]; have := World.alloc_heap_new (w.alloc (.deferred (some []))) (.loop { state := .ready, pending := none, fn := fn, tmps := a.tmps, params := ps.toArray, assign := assign, body := body, defers := w.heap.size }); rwa [World.size_alloc] at this
  have hD1 : W1.heap[w.heap.size]? = some (.deferred (some [])) := by
    rw [← hW1]; exact (Below.heap_alloc _ _ _ (by simp)).trans (World.alloc_heap_new w _)
  have hb1 : Below w.heap.size w W1 := by
    rw [← hW1]; exact ((Below.refl _ w).alloc (Nat.le_refl _) _).alloc (by simp) _
  have hrec : RecIs N E ps assign body w.heap.size W1 (w.heap.size + 1) .ready none := ⟨fn, a.tmps, ⟨ha.size, rfl, ha.slots⟩, hL1⟩
  let J' : List α → (Nat → Prop) → World → Prop := fun pre M W => (J pre M W ∧ ¬ M (w.heap.size + 1) ∧ ¬ M w.heap.size ∧ RecIs N E ps assign body w.heap.size W (w.heap.size + 1) .ready none) ∧ W.heap[w.heap.size]? = some (.deferred (some []))
  let Jx' : List α → (Nat → Prop) → World → Prop := fun pre M W => (∃ c, Jx c pre M W ∧ RecIs N E ps assign body w.heap.size W (w.heap.size + 1) .done (some c)) ∧ W.heap[w.heap.size]? = some (.deferred (some []))
  have hM' : ∀ k, M k → k < w.heap.size := fun k hk => (hM k hk).1
  have hgives := hit (w.heap.size + 1) J' Jx' W1 M (fun k hk hlt => hb1.block k hlt) (by omega) (by omega)
    (fun k hk => ⟨fun hm => (hM k hm).2 hk, by have := hown k hk; omega⟩) (fun k hk => by have := hM' k hk; omega)
    (fun pre M Wa Wb ⟨⟨h1, h2, h3, h4⟩, h5⟩ hx => ⟨⟨hJ _ _ _ _ h1 (hx.less (by omega)), h2, h3, h4.ext hx (by omega)⟩, hx.block _ _ h5 (.inl (by omega))⟩)
    (fun pre M Wa Wb ⟨⟨c, h1, h2⟩, h5⟩ hx => ⟨⟨c, hJx _ _ _ _ _ h1 (hx.less (by omega)), h2.ext hx (by omega)⟩, hx.block _ _ h5 (.inl (by omega))⟩)
    (fun pre x M2 Wa ⟨⟨h1, h2, h3, h4⟩, h5⟩ hpos hMlt hlt => by
      have hy := Yields.of_round (P := P) (R := Rnd (w.heap.size + 1) (fun pre M' W' => J pre M' W' ∧ ¬ M' (w.heap.size + 1) ∧ ¬ M' w.heap.size ∧ RecIs N E ps assign body w.heap.size W' (w.heap.size + 1) .ready none) (fun pre M' W' => ∃ c, Jx c pre M' W' ∧ RecIs N E ps assign body w.heap.size W' (w.heap.size + 1) .done (some c)) (pre ++ [x]) M2 Wa) (vs := enc x) h4 (hlen x) hps
        (round w.heap.size (w.heap.size + 1) pre x M2 Wa (Nat.le_refl _) (by omega) h1 hpos hMlt h2 h3 h4)
      refine hy.mono fun b W' hR => ⟨hR.size, hR.kept, fun hb => ?_, fun hb => ?_⟩
      · obtain ⟨M', hj, hm⟩ := hR.yes hb
        exact ⟨M', ⟨hj, (hR.kept _ (by omega) h3 (by omega)).trans h5⟩, hm⟩
      · obtain ⟨M', hj⟩ := hR.no hb
        exact ⟨M', hj, (hR.kept _ (by omega) h3 (by omega)).trans h5⟩)
    ⟨⟨hJ _ _ _ _ h0 (.of_below hb1), fun hm => by have := hM' _ hm; omega, fun hm => by have := hM' _ hm; omega, hrec⟩, hD1⟩
  refine ⟨w.heap.size + 1, [{ target := .collected w.heap.size, args := #[] }], W1, { target := .fn (.func gf) cap.toArray, args := #[.func (.yield (w.heap.size + 1)) #[] #[]] }, W1, gf,
    (.func (.yield (w.heap.size + 1)) #[] #[] :: cap).toArray, W1, ?_, ?_, fun _ _ => trivial, ?_, fun h => by simp [Fence.wide] at h, ?_⟩
  · rw [← hW1]; exact run_enterLoop_outer _ _ _ _ _
  · simp only [resolve, ha.eval hg trivial]
    simp [Deferred.ofValue, Act.eval]
  · simp [invoke, run_enters he]
  · refine CallsIn.mono (callsIn_of hgives) ?_
    rintro e W2 ⟨v, rfl, hR⟩
    rcases hR with ⟨xs, M', hdone, ⟨h1, h2, h3, fn', tmps', hf', hh'⟩, h5⟩ | ⟨pre, M', ⟨c, h1, fn', tmps', hf', hh'⟩, h5⟩
    · have hlt : w.heap.size + 1 < W2.heap.size := (Array.getElem?_eq_some_iff.1 hh').1
      refine ⟨_, _, run_endLoop hh' (by simp), ?_⟩
      refine done w.heap.size xs M' _ (Nat.le_refl _) hdone (hJ _ _ _ _ h1 (ExtF.putObj hh' rfl (by omega))) ((World.putObj_heap_other (by omega)).trans h5) _ ⟨ha.size, by simp [ha.defers], ha.slots⟩
    · have hlt : w.heap.size + 1 < W2.heap.size := (Array.getElem?_eq_some_iff.1 hh').1
      refine ⟨_, _, run_endLoop hh' (by simp), ?_⟩
      exact stop w.heap.size c pre M' _ (Nat.le_refl _) (hJx _ _ _ _ _ h1 (ExtF.putObj hh' rfl (by omega))) ((World.putObj_heap_other (by omega)).trans h5) _ ⟨ha.size, by simp [ha.defers], ha.slots⟩

variable {fn : Func} {R : Value → World → Prop}
/-- Leaving a function with loops' marks. -/
theorem retM {D : Nat} {v : Value} (hres : ∀ (a : Act) (W : World), Fit N ({ target := .collected D, args := #[] } :: []) E a → W = w.putObj D (.deferred none) → (results fn a.tmps).run P W = .ok v W) (hD : w.heap[D]? = some (.deferred (some [])))
    (hR : R v (w.putObj D (.deferred none))) (e : Exit) (he : e = .ret ∨ e = .normal) : KW N ({ target := .collected D, args := #[] } :: []) (bodyPostM (FR none) 0 P fn (fun e w' => ∃ v, e = .returned v ∧ R v w') e) E w := by
  intro a ha
  have key : LeavesInM (FR none) 0 P fn a.tmps (fun e w' => ∃ v, e = .returned v ∧ R v w') a.defers .returning w := by
    rw [ha.defers]
    refine ⟨by simp, .inl ⟨D, _, rfl, run_takeDeferred hD, ?_⟩⟩
    exact ⟨v, hres a _ ha rfl, v, rfl, hR⟩
  rcases he with rfl | rfl
  · exact key
  · exact key
/-- Leaving before any loop. -/
theorem ret1M0 {s : Nat} {v : Value} (hres : fn.results = #[.tmp s]) (hs : look E s = some (none, v)) (hR : R v w) : KW N [] (bodyPostM (FR none) 0 P fn (fun e w' => ∃ v, e = .returned v ∧ R v w') .ret) E w := by
  intro a ha
  have key : LeavesInM (FR none) 0 P fn a.tmps (fun e w' => ∃ v, e = .returned v ∧ R v w') a.defers .returning w := by
    rw [ha.defers]
    exact ⟨v, by rw [results_tmp hres a.tmps P w, (ha.slots s none v hs).1 trivial], v, rfl, hR⟩
  exact key
theorem ret1M {D s : Nat} {v : Value} (hres : fn.results = #[.tmp s]) (hs : look E s = some (none, v)) (hD : w.heap[D]? = some (.deferred (some []))) (hR : R v (w.putObj D (.deferred none))) :
    KW N ({ target := .collected D, args := #[] } :: []) (bodyPostM (FR none) 0 P fn (fun e w' => ∃ v, e = .returned v ∧ R v w') .ret) E w :=
  retM (fun a W ha _ => by rw [results_tmp hres a.tmps P W, (ha.slots s none v hs).1 trivial]) hD hR .ret (.inl rfl)
theorem retCM {D s : Nat} {t : TypeId} {g : Nat} {v : Value} (hres : fn.results = #[.cell s t]) (h1 : one P t = true) (hs : look E s = some (none, .pointer (some ⟨g, 0, none⟩))) (hB : Blk w g t [v]) (hD : w.heap[D]? = some (.deferred (some []))) (hR : R v (w.putObj D (.deferred none))) :
    KW N ({ target := .collected D, args := #[] } :: []) (bodyPostM (FR none) 0 P fn (fun e w' => ∃ v, e = .returned v ∧ R v w') .ret) E w := by
  refine retM (fun a W ha hW => ?_) hD hR .ret (.inl rfl)
  have e : a.tmps.getD s undef = .pointer (some ⟨g, 0, none⟩) := (ha.slots s none _ hs).1 trivial
  have hne : g ≠ D := fun e => by subst e; unfold Blk at hB; rw [hD] at hB; cases hB
  have hc : W.cell? ⟨g, 0, none⟩ = some v := by
    rw [hW]
    have : Blk (w.putObj D (.deferred none)) g t [v] := (World.putObj_heap_other hne).trans hB
    exact this.cell 0
  simp only [Array.getD_eq_getD_getElem?] at e
  simp [results, hres, e, asAddr, run_loadVar1 h1 hc]
end
end Go.PF

/- Between slices that read as lists and rows that the call owns. -/
namespace Go.PF
open Go.RowKit
variable {α : Type}

theorem add_add (a : Addr) (i j : Nat) : (a.add i).add j = a.add (i + j) := by
  unfold Addr.add
  by_cases hi : i = 0 <;> by_cases hj : j = 0 <;> simp [hi, hj, Nat.add_assoc]

theorem flat_at (f : α → List Value) (n : Nat) : ∀ (l : List α), (∀ x ∈ l, (f x).length = n) → ∀ (i j : Nat) (x : α), l[i]? = some x → j < n → (l.flatMap f)[i * n + j]? = (f x)[j]?
  | [], _, i, j, x, hx, _ => by simp at hx
  | y :: l, h, 0, j, x, hx, hj => by
    simp at hx
    subst hx
    rw [List.flatMap_cons, List.getElem?_append_left (by rw [h y (by simp)]; omega)]
    simp
  | y :: l, h, i + 1, j, x, hx, hj => by
    simp at hx
    rw [List.flatMap_cons, List.getElem?_append_right (by rw [h y (by simp), Nat.succ_mul]; omega), h y (by simp)]
    have : (i + 1) * n + j - n = i * n + j := by rw [Nat.succ_mul]; omega
    rw [this]
    exact flat_at f n l (fun z hz => h z (by simp [hz])) i j x hx hj

theorem flat_len (f : α → List Value) (n : Nat) : ∀ (l : List α), (∀ x ∈ l, (f x).length = n) → (l.flatMap f).length = l.length * n
  | [], _ => by simp
  | y :: l, h => by
    rw [List.flatMap_cons, List.length_append, h y (by simp), flat_len f n l (fun z hz => h z (by simp [hz])), List.length_cons, Nat.succ_mul]
    omega

theorem flat_inv (f : α → List Value) (n : Nat) (hn : 0 < n) (l : List α) (h : ∀ x ∈ l, (f x).length = n) (j : Nat) (u : Value) (hj : (l.flatMap f)[j]? = some u) : ∃ x, l[j / n]? = some x ∧ (f x)[j % n]? = some u := by
  have hlt : j < l.length * n := by rw [← flat_len f n l h]; exact (List.getElem?_eq_some_iff.1 hj).1
  have hd : j / n < l.length := (Nat.div_lt_iff_lt_mul hn).2 hlt
  refine ⟨l[j / n], List.getElem?_eq_getElem hd, ?_⟩
  rw [← flat_at f n l h (j / n) (j % n) l[j / n] (List.getElem?_eq_getElem hd) (Nat.mod_lt _ hn)]
  rw [← hj]
  congr 1
  rw [Nat.mul_comm]
  exact Nat.div_add_mod j n

/-- An owned row read as a list. -/
theorem OwnS.toSL {T : Ty α} {F : Nat → Prop} {w : World} {e : TypeId} {v : Value} {l : List α} (f : α → List Value) (hf : ∀ x ∈ l, T.rep F w (f x) x) (h : OwnS w e T.n v l.length (l.flatMap f)) (hF : ∀ g, v.ownBlock = some g → F g) (hn : l.length ≤ 9223372036854775807) : SL T F w v l := by
  obtain ⟨A, cap, hv, h1, h2, h3⟩ := h.form
  refine ⟨A, cap, hv, h1, hn, fun i x hx => ?_⟩
  have hmem : x ∈ l := List.mem_of_getElem? hx
  have hlen : ∀ y ∈ l, (f y).length = T.n := fun y hy => T.len _ _ _ _ (hf y hy)
  have hrep := hf x hmem
  rcases Nat.eq_zero_or_pos T.n with h0 | h0
  · -- no cells at all
    have hil : i < l.length := (List.getElem?_eq_some_iff.1 hx).1
    rcases h.2 with ⟨rfl, hl⟩ | ⟨g, cap', cur, hv', _, _, _⟩
    · omega
    · rw [hv'] at hv
      simp only [Value.slice.injEq] at hv
      obtain ⟨rfl, _, _⟩ := hv
      refine ⟨⟨g, 0, none⟩, f x, rfl, hF g (by rw [hv']; rfl), fun j u hj => ?_, hrep⟩
      have : (f x).length = 0 := by rw [hlen x hmem, h0]
      rw [List.eq_nil_of_length_eq_zero this] at hj
      simp at hj
  · obtain ⟨u0, hu0⟩ : ∃ u, (f x)[0]? = some u := ⟨_, List.getElem?_eq_getElem (by rw [hlen x hmem]; exact h0)⟩
    have h00 := flat_at f T.n l hlen i 0 x hx h0
    rw [hu0] at h00
    obtain ⟨g, hA, hown, _⟩ := h3 _ _ h00
    refine ⟨⟨g, 0, none⟩, f x, hA, hF g hown, fun j u hj => ?_, hrep⟩
    have hjn : j < T.n := by rw [← hlen x hmem]; exact (List.getElem?_eq_some_iff.1 hj).1
    obtain ⟨g', hA', _, hc, _⟩ := h3 (i * T.n + j) u (by rw [flat_at f T.n l hlen i j x hx hjn]; exact hj)
    rw [hA] at hA'
    simp only [Option.some.injEq, Addr.mk.injEq] at hA'
    obtain ⟨rfl, _, _⟩ := hA'
    rw [add_add]
    have e1 : Addr.add ⟨g, 0, none⟩ (i * T.n + j) = ⟨g, i * T.n + j, none⟩ := by unfold Addr.add; split <;> simp_all
    rw [e1]
    exact hc

/-- The cells of a slice whose elements' cells are known. -/
theorem SL.cells {T : Ty α} {F : Nat → Prop} {w : World} {A : Option Addr} {n cap : Nat} {l : List α} (f : α → List Value) (hf : ∀ F w cs x, T.rep F w cs x → cs = f x) (h0 : 0 < T.n) (h : SL T F w (.slice A n cap) l) (hlen : ∀ x ∈ l, (f x).length = T.n) :
    ∀ j u, (l.flatMap f)[j]? = some u → ∃ ad, A = some ad ∧ w.cell? (ad.add j) = some u := by
  intro j u hj
  obtain ⟨A', cap', hv, _, _, h3⟩ := h
  simp only [Value.slice.injEq] at hv
  obtain ⟨rfl, _, rfl⟩ := hv
  obtain ⟨x, hx, hu⟩ := flat_inv f T.n h0 l hlen j u hj
  obtain ⟨ad, cs, ha, _, hc, hr⟩ := h3 _ x hx
  rw [hf _ _ _ _ hr] at hc
  refine ⟨ad, ha, ?_⟩
  have := hc (j % T.n) u hu
  rw [add_add, Nat.mul_comm, Nat.div_add_mod] at this
  exact this

theorem flat_int (l : List Int) : l.flatMap (fun x => [Value.int .i64 x]) = l.map (Value.int .i64) := by
  induction l with
  | nil => rfl
  | cons x l ih => simp [ih]

theorem OwnS.toInts {F : Nat → Prop} {w : World} {e : TypeId} {v : Value} {l : List Int} (h : OwnS w e 1 v l.length (l.map (Value.int .i64))) (hi : ∀ x ∈ l, I64 x) (hF : ∀ g, v.ownBlock = some g → F g) (hn : l.length ≤ 9223372036854775807) : SL intT F w v l :=
  OwnS.toSL (T := intT) (fun x => [Value.int .i64 x]) (fun x hx => ⟨rfl, hi x hx⟩) (by rw [flat_int]; exact h) hF hn

/-- A literal just made is owned. -/
theorem OwnS.of_blk {w : World} {g : Nat} {e : TypeId} {cs : List Value} {n sz : Nat} (h : Blk w g e cs) (hl : cs.length = n * sz) (hn : n ≤ 9223372036854775807) : OwnS w e sz (.slice (some ⟨g, 0, none⟩) n n) n cs :=
  ⟨hl, .inr ⟨g, n, cs.toArray, rfl, Nat.zero_le _, h, Nat.le_refl _, by simp only [maxLen]; omega, by simp [hl], by simp [← hl]⟩⟩

theorem grown_below {w w' : World} {v : Value} (hg : w.grownBy w' v.ownBlock) {w0 : World} (hb : Below w0.heap.size w0 w) (hv : ∀ g, v.ownBlock = some g → w0.heap.size ≤ g) : Below w0.heap.size w0 w' := hb.grown hg hb.size hv

/-- What is new in an append: where the row lies now. -/
theorem new_own {w : World} {v v' : Value} {n0 : Nat} (h : v'.ownBlock = v.ownBlock ∨ v'.ownBlock = some w.heap.size) (hv : ∀ g, v.ownBlock = some g → n0 ≤ g) (hn : n0 ≤ w.heap.size) : ∀ g, v'.ownBlock = some g → n0 ≤ g := by
  intro g hg
  rcases h with h | h
  · exact hv g (h ▸ hg)
  · rw [h] at hg; simp only [Option.some.injEq] at hg; omega

/-! ### stores into an owned row -/
theorem addr0 (g j : Nat) : Addr.add ⟨g, 0, none⟩ j = ⟨g, j, none⟩ := by unfold Addr.add; split <;> simp_all

theorem OwnS.set {w : World} {e : TypeId} {sz n : Nat} {v : Value} {xs : List Value} {g : Nat} (h : OwnS w e sz v n xs) (hg : v.ownBlock = some g) {j : Nat} (hj : j < xs.length) (u : Value) : OwnS (w.setCell ⟨g, j, none⟩ u) e sz v n (xs.set j u) := by
  refine ⟨by simp [h.1], ?_⟩
  rcases h.2 with ⟨rfl, _⟩ | ⟨g', cap, cur, hv, hb, hh, h1, h2, h3, h4⟩
  · simp [Value.ownBlock] at hg
  · rw [hv] at hg
    simp [Value.ownBlock] at hg
    subst hg
    refine .inr ⟨g', cap, cur.setIfInBounds j u, hv, hb, ?_, h1, h2, by simp [h3], ?_⟩
    · simp [World.setCell, Array.getElem?_modify, hh]
    · rw [← h4]
      simp [List.take_set]

theorem grown_setCell (w : World) (g j : Nat) (u : Value) : w.grownBy (w.setCell ⟨g, j, none⟩ u) (some g) :=
  ⟨rfl, rfl, rfl, by simp [World.setCell], fun k hk hne => Below.heap_setCell w ⟨g, j, none⟩ u k (fun e => hne (by rw [e]))⟩

theorem grown_trans {a b c : World} {row : Option Nat} (h : a.grownBy b row) (k : b.grownBy c row) : a.grownBy c row :=
  ⟨k.os.trans h.os, k.tape.trans h.tape, k.output.trans h.output, Nat.le_trans h.size k.size, fun i hi hne => (k.block i (Nat.lt_of_lt_of_le hi h.size) hne).trans (h.block i hi hne)⟩

def splice (xs : List Value) (o : Nat) (cs : List Value) : List Value := xs.take o ++ cs ++ xs.drop (o + cs.length)

theorem splice_cons (xs : List Value) (o : Nat) (c : Value) (cs : List Value) (h : o < xs.length) : splice (xs.set o c) (o + 1) cs = splice xs o (c :: cs) := by
  unfold splice
  have e1 : (xs.set o c).take (o + 1) = xs.take o ++ [c] := by
    rw [List.take_add_one, List.take_set_of_le (Nat.le_refl _)]
    simp [h]
  have e2 : (xs.set o c).drop (o + 1 + cs.length) = xs.drop (o + (c :: cs).length) := by
    rw [List.drop_set_of_lt (by omega)]
    congr 1
    simp; omega
  rw [e1, e2]
  simp

theorem run_storeCells_own {P : Program} {e : TypeId} {sz n : Nat} {v : Value} {g : Nat} (hg : v.ownBlock = some g) : ∀ (cs : List Value) (w : World) (xs : List Value) (o k : Nat), OwnS w e sz v n xs → o + k + cs.length ≤ xs.length → (∀ c ∈ cs, c.oneCell' = true) →
    ∃ w', (storeCells ⟨g, o, none⟩ cs k).run P w = .ok () w' ∧ OwnS w' e sz v n (splice xs (o + k) cs) ∧ w.grownBy w' (some g) ∧ w'.heap.size = w.heap.size
  | [], w, xs, o, k, h, hl, _ => ⟨w, by simp [storeCells], by simpa [splice] using h, ⟨rfl, rfl, rfl, Nat.le_refl _, fun _ _ _ => rfl⟩, rfl⟩
  | c :: cs, w, xs, o, k, h, hl, h1 => by
    simp only [List.length_cons] at hl
    have hlt : o + k < xs.length := by omega
    have hlx := h.1
    obtain ⟨A, cap, hv, _, _, hc⟩ := h.form
    obtain ⟨g', hA, hown, hcell, hfr⟩ := hc (o + k) xs[o + k] (List.getElem?_eq_getElem hlt)
    rw [hg] at hown
    simp only [Option.some.injEq] at hown
    subst hown
    have e1 : Addr.add ⟨g, o, none⟩ k = ⟨g, o + k, none⟩ := by unfold Addr.add; split <;> simp_all
    have hst : (store (Addr.add ⟨g, o, none⟩ k) c).run P w = .ok () (w.setCell ⟨g, o + k, none⟩ c) := by
      rw [e1, run_store P w _ c .plain (h1 c (by simp))]
      simp [hcell, hfr]
    obtain ⟨w', hr, ho, hgw, hsz⟩ := run_storeCells_own (P := P) hg cs (w.setCell ⟨g, o + k, none⟩ c) (xs.set (o + k) c) o (k + 1) (h.set hg hlt c) (by simp; omega) (fun c' hc' => h1 c' (by simp [hc']))
    refine ⟨w', ?_, ?_, grown_trans (grown_setCell w g (o + k) c) hgw, by rw [hsz]; simp⟩
    · simp only [storeCells, Sem.run_bind, hst, Result.andThen_ok, hr]
    · rw [show o + (k + 1) = (o + k) + 1 by omega, splice_cons xs (o + k) c cs hlt] at ho
      exact ho

section
variable {P : Program} {r : Option Nat} {Q : Exit → Act → World → Prop} {N : Nat} {ds : List Deferred} {ops rest : List Oper} {E : Env} {w : World}
variable {ty : TypeId} {pos : String} {af : Array Edge} {gu : Option (Nat × Bool)} {x y : Operand}

/-- 's[i] = v', s the call's own, v a struct -/
theorem TW.storeOwnS {t e : TypeId} {sz n c g i m : Nat} {xs cs : List Value} (hg : gu = none) (hs : (P.info? t).map (·.size) = some m) (hx : ev E x = some (none, .pointer (some (Addr.add ⟨g, 0, none⟩ (i * sz))))) (hy : ev E y = some (none, .agg cs.toArray)) (hown : OwnS w e sz (.slice (some ⟨g, 0, none⟩) n c) n xs)
    (hi : i < n) (hm : cs.length = m) (hmz : m = sz) (h1 : cs.all (·.oneCell') = true)
    (next : ∀ w', OwnS w' e sz (.slice (some ⟨g, 0, none⟩) n c) n (splice xs (i * sz) cs) → w.grownBy w' (some g) → w'.heap.size = w.heap.size → TW P r Q N ds ops rest E w') : TW P r Q N ds ops (⟨none, .store t x y, ty, pos, af, gu⟩ :: rest) E w := by
  subst hm
  have hle : i * sz + sz ≤ xs.length := by rw [hown.1, ← Nat.succ_mul]; exact Nat.mul_le_mul_right _ hi
  obtain ⟨w', hr, ho, hgw, hsz⟩ := run_storeCells_own (P := P) (e := e) (sz := sz) (n := n) (v := .slice (some ⟨g, 0, none⟩) n c) (g := g) rfl cs w xs (i * sz) 0 hown (by omega) (fun c hc => List.all_eq_true.1 h1 c hc)
  refine TW.eff0 (w' := w') hg rfl rfl (fun a ha => ?_) (next w' (by simpa using ho) hgw hsz)
  simp only [execOp]
  rw [ha.eval hx trivial, ha.eval hy trivial]
  rw [addr0]
  simp [Instr.storeAt, Instr.sureAddr, storeVar, run_sizeOf hs, Value.cells, hr]

end

theorem splice_flat (f : α → List Value) (n : Nat) : ∀ (l : List α), (∀ x ∈ l, (f x).length = n) → ∀ (i : Nat) (x : α), i < l.length → (f x).length = n → splice (l.flatMap f) (i * n) (f x) = (l.set i x).flatMap f
  | [], _, i, x, hi, _ => by simp at hi
  | y :: l, h, 0, x, hi, hx => by
    have hy := h y (by simp)
    have e : ((f y) ++ l.flatMap f).drop n = l.flatMap f := by rw [← hy]; simp
    simp [splice, hx, e]
  | y :: l, h, i + 1, x, hi, hx => by
    have hy := h y (by simp)
    have ih := splice_flat f n l (fun z hz => h z (by simp [hz])) i x (by simpa using hi) hx
    unfold splice at ih ⊢
    simp only [List.flatMap_cons, List.set_cons_succ]
    have e1 : (i + 1) * n = (f y).length + i * n := by rw [hy, Nat.succ_mul]; omega
    rw [e1, List.take_length_add_append, Nat.add_assoc, List.drop_length_add_append]
    rw [List.append_assoc, List.append_assoc, ← ih]
    simp

theorem set_flat (f : α → List Value) (n : Nat) : ∀ (l : List α), (∀ x ∈ l, (f x).length = n) → ∀ (i j : Nat) (x y : α) (u : Value), l[i]? = some x → j < n → f y = (f x).set j u → (l.flatMap f).set (i * n + j) u = (l.set i y).flatMap f
  | [], _, i, j, x, y, u, hx, _, _ => by simp at hx
  | z :: l, h, 0, j, x, y, u, hx, hj, hy => by
    simp at hx
    subst hx
    simp only [List.flatMap_cons, List.set_cons_zero, Nat.zero_mul, Nat.zero_add]
    rw [List.set_append_left _ _ (by rw [h z (by simp)]; exact hj), hy]
  | z :: l, h, i + 1, j, x, y, u, hx, hj, hy => by
    simp at hx
    have ih := set_flat f n l (fun w hw => h w (by simp [hw])) i j x y u hx hj hy
    simp only [List.flatMap_cons, List.set_cons_succ]
    have e1 : (i + 1) * n + j = (f z).length + (i * n + j) := by rw [h z (by simp), Nat.succ_mul]; omega
    rw [e1, List.set_append_right _ _ (by omega), ← ih]
    congr 2
    omega
end Go.PF

/- More rules: nil slices, results in memory, thunks. -/
namespace Go.PF
open Go.RowKit

section
variable {P : Program} {r : Option Nat} {Q : Exit → Act → World → Prop} {N : Nat} {ds : List Deferred} {ops rest : List Oper} {E : Env} {D : DE} {w : World} {G : Option Bool} {Fin : DE → Prop}
variable {d : Option Tmp} {ty : TypeId} {pos : String} {af : Array Edge} {gu : Option (Nat × Bool)}
variable {x y z : Operand} {cx cy cz : Option Bool} {ρ : Operand → Value}

theorem X.eqlNil {t t' e : TypeId} {A : Option Addr} {n c : Nat} (ht : P.underlying t = some (.slice e)) (hx : ρ x = .slice A n c) (hy : ρ (.const (.slice none 0 0)) = .slice none 0 0) : (execOp ρ ⟨d, .binOp .eql t x (.const (.slice none 0 0)) t', ty, pos, af, gu⟩).run P w = .ok (.value (.bool A.isNone)) w := by
  simp only [execOp]; rw [hx, hy, eqGuard_at_slice]
  simp [Lib.run_eql_slice_nil w t e A n c 0 0 ht]
theorem TW.eqlNil {t t' e : TypeId} {A : Option Addr} {n c : Nat} (hg : gd ops E gu = some G) (hd : okDst N d = true) (ht : P.underlying t = some (.slice e)) (hx : ev E x = some (cx, .slice A n c)) (ix : Cnd G → Cnd cx)
    (next : TW P r Q N ds ops rest (ins E d G (.bool A.isNone)) w) : TW P r Q N ds ops (⟨d, .binOp .eql t x (.const (.slice none 0 0)) t', ty, pos, af, gu⟩ :: rest) E w :=
  TW.val hg hd rfl (fun hG a ha => by have := ha.eval hx (ix hG); exact X.eqlNil ht this rfl) next

/-- a struct stored into a block of its own -/
theorem TW.storeBlkF {t t1 : TypeId} {g n : Nat} {old cs : List Value} (hg : gu = none) (hx : ev E x = some (none, .pointer (some ⟨g, 0, none⟩))) (hy : ev E y = some (none, .agg cs.toArray)) (hb : Blk w g t1 old) (hs : (P.info? t).map (·.size) = some n) (hn : cs.length = n) (hl : old.length = n)
    (h1 : cs.all (·.oneCell') = true) (next : ∀ w', Blk w' g t1 cs → w.grownBy w' (some g) → w'.heap.size = w.heap.size → TW P r Q N ds ops rest E w') : TW P r Q N ds ops (⟨none, .store t x y, ty, pos, af, gu⟩ :: rest) E w := by
  subst hn
  refine TW.storeBlk hg hx hy hb hs hl h1 (next _ ?_ ⟨rfl, rfl, rfl, by simp, fun k hk hne => ?_⟩ (by simp))
  · exact setRow_heap w g old.toArray cs.toArray t1 (0, 0) hb
  · have : g ≠ k := fun e => hne (by rw [e])
    simp [World.setRow, Array.getElem?_modify, this]

variable {fn : Func} {R : Value → World → Prop}
theorem retCS {s : Nat} {t t1 : TypeId} {fs : Array Field} {g : Nat} {cs : List Value} (hres : fn.results = #[.cell s t]) (hu : P.underlying t = some (.struct fs)) (hs : (P.info? t).map (·.size) = some cs.length) (hl : look E s = some (none, .pointer (some ⟨g, 0, none⟩))) (hB : Blk w g t1 cs) (hR : R (.agg cs.toArray) w) :
    KW N [] (bodyPost P fn (fun e w' => ∃ v, e = .returned v ∧ R v w') .ret) E w := fun a ha => by
  refine bodyPost_ret (v := .agg cs.toArray) ?_ ha.defers ⟨_, rfl, hR⟩
  have e : a.tmps.getD s undef = .pointer (some ⟨g, 0, none⟩) := (ha.slots s none _ hl).1 trivial
  simp only [Array.getD_eq_getD_getElem?] at e
  simp [results, hres, e, asAddr, run_loadVarS hu hs (fun j v hj => hB.fld hj)]
end

/-- A function value without parameters that says b, in whatever world that extends w. -/
def Thunk (P : Program) (w : World) (f : FuncId) (caps : List Value) (b : Bool) : Prop := ∀ w', Below w.heap.size w w' → Gives P f caps.toArray w' fun u w'' => Below w'.heap.size w' w'' ∧ u = .bool b

theorem Thunk.later {P : Program} {w w1 : World} {f : FuncId} {caps : List Value} {b : Bool} (h : Thunk P w f caps b) (hb : Below w.heap.size w w1) : Thunk P w1 f caps b := fun w' hw => h w' (hb.step hw)
end Go.PF

/- Drawn order: operations on slots of which only something is known. -/
namespace Go.PF
open Go.RowKit

def Sats : List Ent → List Value → World → Prop
  | [], [], _ => True
  | e :: es, v :: vs, w => e.sat v w ∧ Sats es vs w
  | _, _, _ => False

theorem Sats.one {e : Ent} {vs : List Value} {w : World} (h : Sats [e] vs w) : ∃ a, vs = [a] ∧ e.sat a w := by
  match vs, h with
  | [a], ⟨h1, _⟩ => exact ⟨a, rfl, h1⟩
theorem Sats.two {e1 e2 : Ent} {vs : List Value} {w : World} (h : Sats [e1, e2] vs w) : ∃ a b, vs = [a, b] ∧ e1.sat a w ∧ e2.sat b w := by
  match vs, h with
  | [a, b], ⟨h1, h2, _⟩ => exact ⟨a, b, rfl, h1, h2⟩
theorem Sats.three {e1 e2 e3 : Ent} {vs : List Value} {w : World} (h : Sats [e1, e2, e3] vs w) : ∃ a b c, vs = [a, b, c] ∧ e1.sat a w ∧ e2.sat b w ∧ e3.sat c w := by
  match vs, h with
  | [a, b, c], ⟨h1, h2, h3, _⟩ => exact ⟨a, b, c, rfl, h1, h2, h3⟩
theorem Sats.four {e1 e2 e3 e4 : Ent} {vs : List Value} {w : World} (h : Sats [e1, e2, e3, e4] vs w) : ∃ a b c d, vs = [a, b, c, d] ∧ e1.sat a w ∧ e2.sat b w ∧ e3.sat c w ∧ e4.sat d w := by
  match vs, h with
  | [a, b, c, d], ⟨h1, h2, h3, h4, _⟩ => exact ⟨a, b, c, d, rfl, h1, h2, h3, h4⟩
theorem Sats.five {e1 e2 e3 e4 e5 : Ent} {vs : List Value} {w : World} (h : Sats [e1, e2, e3, e4, e5] vs w) : ∃ a b c d e, vs = [a, b, c, d, e] ∧ e1.sat a w ∧ e2.sat b w ∧ e3.sat c w ∧ e4.sat d w ∧ e5.sat e w := by
  match vs, h with
  | [a, b, c, d, e], ⟨h1, h2, h3, h4, h5, _⟩ => exact ⟨a, b, c, d, e, rfl, h1, h2, h3, h4, h5⟩
theorem Ent.mono_pure (p : Value → Prop) : Ent.mono (.pr fun v _ => p v) := fun _ _ _ _ h => h

section
variable {P : Program} {N : Nat} {ds : List Deferred} {ops rest : List Oper} {D : DE} {w : World} {G : Option Bool} {Fin : DE → Prop}
variable {d : Option Tmp} {ty : TypeId} {pos : String} {af : Array Edge} {gu : Option (Nat × Bool)}
variable {x : Operand} {cx : Option Bool}

def PArgs (L : List Nat) (N : Nat) (ds : List Deferred) (D : DE) (G : Option Bool) (xs : List Operand) (es : List Ent) : Prop := (∀ t, Operand.tmp t ∈ xs → t ∈ L) → ∀ a w, FitL N ds L D a w → Cnd G → Sats es (xs.map a.eval) w
theorem PArgs.nil {L : List Nat} : PArgs L N ds D G [] [] := fun _ _ _ _ _ => trivial
theorem PArgs.cons {L : List Nat} {xs : List Operand} {e : Ent} {es : List Ent} (hx : dev D x = some (cx, e)) (ix : Cnd G → Cnd cx) (h : PArgs L N ds D G xs es) : PArgs L N ds D G (x :: xs) (e :: es) := fun hL a w ha hG =>
  ⟨ha.sat hx (fun t ht => hL t (by simp [ht])) (ix hG), h (fun t ht => hL t (by simp [ht])) a w ha hG⟩

theorem DW.callP {f : Operand} {k : FuncId} {cap : List Value} {cf : Option Bool} {xs : List Operand} {es : List Ent} {ts : Array TypeId} (e : Ent) (hm : e.mono) (hg : dgd ops D gu = some G) (hd : okDst N d = true) (he : enters P k = true)
    (hf : dev D f = some (cf, .ex (.func (.func k) #[] cap.toArray))) (jf : Cnd G → Cnd cf) (hv : PArgs (Oper.looksAt ops.toArray ⟨d, .call ⟨.value f, xs.toArray, ts⟩, ty, pos, af, gu⟩) N ds D G xs es)
    (hc : Cnd G → ∀ w', Below w.heap.size w w' → ∀ vs, Sats es vs w' → Gives P k (vs ++ cap).toArray w' fun v w'' => Below w'.heap.size w' w'' ∧ e.sat v w'')
    (next : DW P N ds .weak ops w Fin rest (dins D d G e)) : DW P N ds .weak ops w Fin (⟨d, .call ⟨.value f, xs.toArray, ts⟩, ty, pos, af, gu⟩ :: rest) D :=
  DW.enter (o := ⟨d, .call ⟨.value f, xs.toArray, ts⟩, ty, pos, af, gu⟩) hg hd rfl hm (fun hG a w' hb ha => ⟨_, _, X.call he (ha.eval (o := ⟨d, .call ⟨.value f, xs.toArray, ts⟩, ty, pos, af, gu⟩) hf (by simp [Op.operands, Call.operands]) (jf hG)) rfl,
    hc hG w' hb _ (hv (fun t ht => mem_looks (by simp [Op.operands, Call.operands, ht])) a w' ha hG)⟩) next

/-- A guarded operation that is known to run. -/
theorem TW.known {r : Option Nat} {Q : Exit → Act → World → Prop} {E : Env} {op : Op} (hg : gd ops E gu = some G) (hG : Cnd G) (next : TW P r Q N ds ops (⟨d, op, ty, pos, af, none⟩ :: rest) E w) : TW P r Q N ds ops (⟨d, op, ty, pos, af, gu⟩ :: rest) E w := by
  intro a ha
  have h1 := next a ha
  have h2 := (wanted_of (o := ⟨d, op, ty, pos, af, gu⟩) ha hg).1 hG
  unfold wpListIn at h1 ⊢
  rw [if_pos h2]
  rw [if_pos (by simp [Region.wanted])] at h1
  exact h1

def dsel (D : DE) : List Nat → Option (List Ent)
  | [] => some []
  | i :: is => match dlook D i with
    | some (none, e) => match dsel D is with
      | some es => some (e :: es)
      | none => none
    | _ => none
def zipE : List Nat → List Value → Env
  | i :: is, v :: vs => (i, none, v) :: zipE is vs
  | _, _ => []

theorem FitD.sel {a : Act} (h : FitD N ds D a w) : ∀ {is : List Nat} {es : List Ent}, dsel D is = some es → Sats es (is.map fun i => a.tmps.getD i undef) w
  | [], es, hp => by simp [dsel] at hp; subst hp; trivial
  | i :: is, es, hp => by
    simp only [dsel] at hp
    split at hp
    · rename_i e he
      split at hp
      · rename_i es' hes
        simp only [Option.some.injEq] at hp
        subst hp
        exact ⟨(h.slots i none e he).1 trivial, h.sel hes⟩
      · cases hp
    · cases hp
theorem FitD.zip {a : Act} (h : FitD N ds D a w) (is : List Nat) : Fit N ds (zipE is (is.map fun i => a.tmps.getD i undef)) a := by
  refine ⟨h.size, h.defers, ?_⟩
  induction is with
  | nil => intro i c v hl; simp [zipE, look] at hl
  | cons j is ih =>
    intro i c v hl
    simp only [List.map_cons, zipE, look] at hl
    by_cases hi : j = i
    · subst hi
      rw [beq_self] at hl
      simp only [Option.some.injEq, Prod.mk.injEq] at hl
      obtain ⟨rfl, rfl⟩ := hl
      exact ⟨fun _ => rfl, fun h => absurd trivial h⟩
    · rw [beq_ne hi] at hl
      exact ih i c v hl

end
end Go.PF

/- Any order: soundness of the lexical walk, over a stretch of a region; regions part by part. -/
namespace Go.PF
open Go.RowKit

theorem dlook_ddrop : ∀ (D : DE) (s : List Nat) (i : Nat), dlook (ddrop D s) i = if hasN s i = true then none else dlook D i
  | [], s, i => by simp [ddrop, dlook]
  | (j, c, e) :: D, s, i => by
    have ih := dlook_ddrop D s i
    simp only [ddrop]
    cases hj : hasN s j with
    | true =>
      simp only [ih, dlook]
      by_cases hji : j = i
      · subst hji; rw [beq_self]; simp [hj]
      · rw [beq_ne hji]
    | false =>
      simp only [dlook]
      by_cases hji : j = i
      · subst hji; rw [beq_self]; simp [hj]
      · rw [beq_ne hji]; exact ih

theorem hasN_iff {s : List Nat} {i : Nat} : hasN s i = true ↔ i ∈ s := by
  induction s with
  | nil => simp [hasN]
  | cons j t ih =>
    simp only [hasN, List.mem_cons]
    by_cases hji : j = i
    · subst hji; rw [beq_self]; simp
    · rw [beq_ne hji, ih]
      exact ⟨fun h => .inr h, fun h => h.resolve_left (fun e => hji e.symm)⟩

theorem one_of_filter {α : Type} {p : α → Bool} : ∀ {l : List α} {i j : Nat} {a b : α}, (l.filter p).length ≤ 1 → l[i]? = some a → p a = true → l[j]? = some b → p b = true → i = j
  | [], i, j, a, b, _, h, _, _, _ => by simp at h
  | x :: l, 0, 0, a, b, _, _, _, _, _ => rfl
  | x :: l, 0, j + 1, a, b, hl, ha, hpa, hb, hpb => by
    simp at ha hb; subst ha
    rw [List.filter_cons_of_pos hpa] at hl
    have : b ∈ l.filter p := List.mem_filter.2 ⟨List.mem_of_getElem? hb, hpb⟩
    have := List.length_pos_of_mem this
    rw [List.length_cons] at hl; omega
  | x :: l, i + 1, 0, a, b, hl, ha, hpa, hb, hpb => by
    simp at ha hb; subst hb
    rw [List.filter_cons_of_pos hpb] at hl
    have : a ∈ l.filter p := List.mem_filter.2 ⟨List.mem_of_getElem? ha, hpa⟩
    have := List.length_pos_of_mem this
    rw [List.length_cons] at hl; omega
  | x :: l, i + 1, j + 1, a, b, hl, ha, hpa, hb, hpb => by
    simp at ha hb
    have hl' : (l.filter p).length ≤ 1 := by
      by_cases hx : p x = true
      · rw [List.filter_cons_of_pos hx, List.length_cons] at hl; omega
      · rw [List.filter_cons_of_neg hx] at hl; exact hl
    rw [one_of_filter hl' ha hpa hb hpb]

/-- What a walk holds to: what entries may say, what a step may write. -/
structure Disc (w0 : World) where
  rel : World → Prop
  tok : Oper → Bool
  lock : World → Prop
  still : World → World → Prop
  lock_still : ∀ w w', still w w' → lock w → lock w'
  still_refl : ∀ w, still w w
  good : Bool → Ent → Prop
  foot : Ent → Value → Nat → Prop
  step : World → World → (Nat → Prop) → Prop
  foot_ex : ∀ v u g, ¬ foot (.ex v) u g
  step_refl : ∀ w E, step w w E
  rel_step : ∀ w w' E, rel w → step w w' E → rel w'
  keep : ∀ b e, good b e → ∀ v w w' E, rel w → step w w' E → (b = true → still w w') → (∀ g, foot e v g → ¬ E g) → e.sat v w → e.sat v w'
  bound : ∀ b e, good b e → ∀ v w, e.sat v w → ∀ g, foot e v g → g < w.heap.size
  inv : World → Prop
  inv_step : ∀ w w' E, step w w' E → inv w → inv w'

def weakD (w0 : World) : Disc w0 where
  rel := Below w0.heap.size w0
  tok := fun _ => false
  lock := fun _ => True
  still := fun _ _ => True
  lock_still := fun _ _ _ h => h
  still_refl := fun _ => trivial
  good := fun _ => Ent.mono
  foot := fun _ _ _ => False
  step := fun w w' _ => Below w.heap.size w w'
  foot_ex := fun _ _ _ h => h
  step_refl := fun w _ => Below.refl _ w
  rel_step := fun w w' _ hb h => hb.trans (h.mono hb.size)
  keep := fun _ e hm v w w' E _ hs _ _ h => Ent.sat_mono hm hs h
  bound := fun _ _ _ _ _ _ _ h => h.elim
  inv := fun _ => True
  inv_step := fun _ _ _ _ _ => trivial

/-- nothing is drawn back: d0 was drawn at the start -/
def cntD (w0 : World) (d0 : Nat) : Disc w0 where
  rel := Below w0.heap.size w0
  tok := fun _ => false
  lock := fun _ => True
  still := fun _ _ => True
  lock_still := fun _ _ _ h => h
  still_refl := fun _ => trivial
  good := fun _ => Ent.mono
  foot := fun _ _ _ => False
  step := fun w w' _ => Below w.heap.size w w' ∧ w.drawn ≤ w'.drawn
  foot_ex := fun _ _ _ h => h
  step_refl := fun w _ => ⟨Below.refl _ w, Nat.le_refl _⟩
  rel_step := fun w w' _ hb h => hb.trans (h.1.mono hb.size)
  keep := fun _ e hm v w w' E _ hs _ _ h => Ent.sat_mono hm hs.1 h
  bound := fun _ _ _ _ _ _ _ h => h.elim
  inv := fun w => d0 ≤ w.drawn
  inv_step := fun _ _ _ h h' => Nat.le_trans h' h.2

def ownD (w0 : World) : Disc w0 where
  rel := Below w0.heap.size w0
  tok := fun _ => false
  lock := fun _ => True
  still := fun _ _ => True
  lock_still := fun _ _ _ h => h
  still_refl := fun _ => trivial
  good := fun _ => Ent.strong w0
  foot := Ent.foot
  step := StepO w0
  foot_ex := fun _ _ _ h => h
  step_refl := fun w _ => ⟨Below.refl _ w, fun _ _ _ _ => rfl⟩
  rel_step := fun w w' _ hb h => hb.trans h.1
  keep := fun _ e hs v w w' E _ hst _ hE h => by
    cases e with
    | ex u => exact h
    | pr φ => exact hs v w w' hst.1 h
    | own φ S =>
      refine hs.1 v w w' hst.1 (fun g hg => ?_) h
      obtain ⟨h1, h2⟩ := hs.2 v w h g hg
      exact hst.2 g h1 h2 (hE g hg)
  bound := fun _ e hs v w h g hg => by
    cases e with
    | ex u => exact hg.elim
    | pr φ => exact hg.elim
    | own φ S => exact (hs.2 v w h g hg).2
  inv := fun _ => True
  inv_step := fun _ _ _ _ _ => trivial

section sound
variable {P : Program} {r : Option Nat} {Q : Exit → Act → World → Prop} {N : Nat} {ds : List Deferred} {ops : List Oper} {w0 : World}

abbrev Lay := Option Bool × Ent × List Nat

def EatD (dc : Disc w0) (D : DE) (eats : List Nat) (a : Act) (g : Nat) : Prop := ∃ s c e, hasN eats s = true ∧ dlook D s = some (c, e) ∧ Cnd c ∧ dc.foot e (a.tmps.getD s undef) g
def DOneA (P : Program) (N : Nat) (ds : List Deferred) (ops : List Oper) (dc : Disc w0) (o : Oper) (D : DE) (G : Option Bool) (e : Ent) (eats : List Nat) : Prop :=
  dgd ops D o.guard = some G ∧ okDst N o.dst = true ∧ noDefer o.op = true ∧ dc.good (dc.tok o) e ∧ sole ops o eats = true ∧ (∀ s, s ∈ eats → ∃ c φ S, dlook D s = some (c, .own φ S)) ∧
  (Cnd G → ∀ a w, dc.rel w → (dc.tok o = true → dc.lock w) → FitL N ds (o.looksAt ops.toArray) D a w →
    (∃ v w', (execOp a.eval o).run P w = .ok (.value v) w' ∧ dc.step w w' (EatD dc D eats a) ∧ (dc.tok o = false → dc.still w w') ∧ e.sat v w' ∧ ∀ g, dc.foot e v g → EatD dc D eats a g ∨ w.heap.size ≤ g) ∨
    (∃ f vs, (execOp a.eval o).run P w = .ok (.enter f vs) w ∧ Gives P f vs w fun v w' => dc.step w w' (EatD dc D eats a) ∧ (dc.tok o = false → dc.still w w') ∧ e.sat v w' ∧ ∀ g, dc.foot e v g → EatD dc D eats a g ∨ w.heap.size ≤ g))

def discOf (w0 : World) (d0 : Nat) : Mode → Disc w0
  | .weak => weakD w0
  | .own => ownD w0
  | .cnt => cntD w0 d0

def laidO (D : DE) : List Oper → List Lay → DE
  | o :: os, (G, e, s) :: ges => laidO (dins (ddrop D s) o.dst G e) os ges
  | _, _ => D

theorem DW.entries {Fin : DE → Prop} {m : Mode} (d0 : Nat) : ∀ {rest : List Oper} {D : DE}, DW P N ds m ops w0 Fin rest D →
    ∃ ges : List Lay, ges.length = rest.length ∧ Fin (laidO D rest ges) ∧
      ∀ i o G e s, rest[i]? = some o → ges[i]? = some (G, e, s) → DOneA P N ds ops (discOf w0 d0 m) o (laidO D (rest.take i) (ges.take i)) G e s
  | [], D, h => ⟨[], rfl, by cases m <;> exact h, fun i o G e s h1 _ => by simp at h1⟩
  | o :: rest, D, h => by
    have key : ∃ G e s, DOneA P N ds ops (discOf w0 d0 m) o D G e s ∧ DW P N ds m ops w0 Fin rest (dins (ddrop D s) o.dst G e) := by
      cases m with
      | weak =>
        obtain ⟨G, e, ⟨h1, h2, h3, h4, h5⟩, h6⟩ := h
        refine ⟨G, e, [], ⟨h1, h2, h3, h4, rfl, fun s hs => by simp at hs, fun hG a w hb _ ha => ?_⟩, by rw [ddrop_nil]; exact h6⟩
        rcases h5 hG a w hb ha with ⟨v, w', q1, q2, q3⟩ | ⟨f, vs, q1, q2⟩
        · exact .inl ⟨v, w', q1, q2, fun _ => trivial, q3, fun g hg => hg.elim⟩
        · exact .inr ⟨f, vs, q1, q2.mono fun v w' ⟨q3, q4⟩ => ⟨q3, fun _ => trivial, q4, fun g hg => hg.elim⟩⟩
      | own =>
        obtain ⟨G, e, s, ⟨h1, h2, h3, h4, h5, h6, h7⟩, h8⟩ := h
        refine ⟨G, e, s, ⟨h1, h2, h3, h4, h5, h6, fun hG a w hb _ ha => ?_⟩, h8⟩
        rcases h7 hG a w hb ha with ⟨v, w', q1, q2, q3, q4⟩ | ⟨f, vs, q1, q2⟩
        · exact .inl ⟨v, w', q1, q2, fun _ => trivial, q3, q4⟩
        · exact .inr ⟨f, vs, q1, q2.mono fun v w' ⟨q3, q4, q5⟩ => ⟨q3, fun _ => trivial, q4, q5⟩⟩
      | cnt =>
        obtain ⟨G, e, ⟨h1, h2, h3, h4, h5⟩, h6⟩ := h
        refine ⟨G, e, [], ⟨h1, h2, h3, h4, rfl, fun s hs => by simp at hs, fun hG a w hb _ ha => ?_⟩, by rw [ddrop_nil]; exact h6⟩
        rcases h5 hG a w hb ha with ⟨v, w', q1, q2, q3⟩ | ⟨f, vs, q1, q2⟩
        · exact .inl ⟨v, w', q1, q2, fun _ => trivial, q3, fun g hg => hg.elim⟩
        · exact .inr ⟨f, vs, q1, q2.mono fun v w' ⟨q3, q4⟩ => ⟨q3, fun _ => trivial, q4, fun g hg => hg.elim⟩⟩
    obtain ⟨G, e, s, h1, h2⟩ := key
    obtain ⟨ges, hl, hF, hi⟩ := DW.entries d0 h2
    refine ⟨(G, e, s) :: ges, by simp [hl], hF, ?_⟩
    intro i o' G' e' s' ho he
    cases i with
    | zero =>
      simp at ho he
      obtain ⟨rfl, rfl, rfl⟩ := he
      subst ho
      simpa [laidO] using h1
    | succ i =>
      simp at ho he
      simpa [laidO] using hi i o' G' e' s' ho he

/-- What is laid for a slot: by the operation that writes it, and nothing later has eaten it; or it was there. -/
theorem dlook_laidO {s : Nat} {x : Option Bool × Ent} : ∀ (os : List Oper) (ges : List Lay) (D : DE), dlook (laidO D os ges) s = some x →
    (∃ (k : Nat) (o : Oper) (G : Option Bool) (e : Ent) (E : List Nat), os[k]? = some o ∧ ges[k]? = some (G, e, E) ∧ o.dst = some s ∧ x = (G, e) ∧ ∀ (j : Nat) (o' : Oper) (G' : Option Bool) (e' : Ent) (E' : List Nat), k < j → os[j]? = some o' → ges[j]? = some (G', e', E') → ¬ s ∈ E') ∨
    (dlook D s = some x ∧ (∀ (k : Nat) (o : Oper) (G : Option Bool) (e : Ent) (E : List Nat), os[k]? = some o → ges[k]? = some (G, e, E) → o.dst ≠ some s ∧ ¬ s ∈ E))
  | [], ges, D, h => .inr ⟨by simpa [laidO] using h, fun k o G e E hk => by simp at hk⟩
  | o :: os, [], D, h => .inr ⟨by simpa [laidO] using h, fun k o G e E _ hg => by simp at hg⟩
  | o :: os, (G, e, E) :: ges, D, h => by
    rw [laidO] at h
    rcases dlook_laidO os ges _ h with ⟨k, o', G', e', E', h1, h2, h3, h4, h5⟩ | ⟨h1, h2⟩
    · refine .inl ⟨k + 1, o', G', e', E', by simpa using h1, by simpa using h2, h3, h4, fun j o'' G'' e'' E'' hj ho hg => ?_⟩
      obtain ⟨j, rfl⟩ : ∃ i, j = i + 1 := ⟨j - 1, by omega⟩
      exact h5 j o'' G'' e'' E'' (by omega) (by simpa using ho) (by simpa using hg)
    · have hd : (o.dst = some s ∧ x = (G, e)) ∨ (o.dst ≠ some s ∧ dlook (ddrop D E) s = some x) := by
        cases hdst : o.dst with
        | none => rw [hdst] at h1; exact .inr ⟨by simp, h1⟩
        | some d =>
          rw [hdst] at h1
          simp only [dins, dlook] at h1
          by_cases hds : d = s
          · subst hds; rw [beq_self] at h1; simp at h1; exact .inl ⟨rfl, h1.symm⟩
          · rw [beq_ne hds] at h1; exact .inr ⟨fun e => hds (by simpa using e), h1⟩
      rcases hd with ⟨hd, hx⟩ | ⟨hd, hx⟩
      · refine .inl ⟨0, o, G, e, E, rfl, rfl, hd, hx, fun j o' G' e' E' hj ho hg => ?_⟩
        obtain ⟨j, rfl⟩ : ∃ i, j = i + 1 := ⟨j - 1, by omega⟩
        exact (h2 j o' G' e' E' (by simpa using ho) (by simpa using hg)).2
      · rw [dlook_ddrop] at hx
        split at hx
        · cases hx
        · rename_i hE
          refine .inr ⟨hx, fun k o' G' e' E' ho hg => ?_⟩
          cases k with
          | zero =>
            simp at ho hg
            obtain ⟨rfl, rfl, rfl⟩ := hg
            subst ho
            exact ⟨hd, fun hm => hE (hasN_iff.2 hm)⟩
          | succ k => exact h2 k o' G' e' E' (by simpa using ho) (by simpa using hg)

/-! ### What must be done before what -/

inductive Reach (ops : List Oper) : Nat → Nat → Prop
  | one {i : Nat} {o : Oper} {e : Edge} : ops[i]? = some o → e ∈ o.after → Region.binds .any e = true → Reach ops i e.on
  | more {i k : Nat} {o : Oper} {e : Edge} : ops[i]? = some o → e ∈ o.after → Region.binds .any e = true → Reach ops e.on k → Reach ops i k

def maskOf (acc : List Nat) (o : Oper) : Nat := o.after.toList.foldl (fun m e => if Region.binds .any e then m ||| (1 <<< e.on) ||| acc.getD e.on 0 else m) 0
def masksGo : List Nat → List Oper → List Nat
  | acc, [] => acc
  | acc, o :: os => masksGo (acc ++ [maskOf acc o]) os
def masks (ops : List Oper) : List Nat := masksGo [] ops
/-- All of [s, t) comes before whatever comes from t on. -/
def cutOK (ops : List Oper) (s t : Nat) : Bool := ((masks ops).drop t).all fun m => Nat.beq ((m >>> s) &&& ((1 <<< (t - s)) - 1)) ((1 <<< (t - s)) - 1)

theorem maskOf_bits {acc : List Nat} {o : Oper} {k : Nat} (h : (maskOf acc o).testBit k = true) : ∃ e ∈ o.after, Region.binds .any e = true ∧ (e.on = k ∨ (acc.getD e.on 0).testBit k = true) := by
  have key : ∀ (l : List Edge) (m : Nat), (l.foldl (fun m e => if Region.binds .any e then m ||| (1 <<< e.on) ||| acc.getD e.on 0 else m) m).testBit k = true → m.testBit k = true ∨ ∃ e ∈ l, Region.binds .any e = true ∧ (e.on = k ∨ (acc.getD e.on 0).testBit k = true) := by
    intro l
    induction l with
    | nil => intro m h; exact .inl h
    | cons e l ih =>
      intro m h
      rw [List.foldl_cons] at h
      rcases ih _ h with h1 | ⟨e', h1, h2⟩
      · split at h1
        · rename_i hb
          rw [Nat.testBit_or, Nat.testBit_or, Bool.or_eq_true, Bool.or_eq_true] at h1
          rcases h1 with (h1 | h1) | h1
          · exact .inl h1
          · refine .inr ⟨e, by simp, hb, .inl ?_⟩
            rw [Nat.one_shiftLeft, Nat.testBit_two_pow] at h1
            exact of_decide_eq_true h1
          · exact .inr ⟨e, by simp, hb, .inr h1⟩
        · exact .inl h1
      · exact .inr ⟨e', by simp [h1], h2⟩
  rcases key _ 0 h with h1 | ⟨e, h1, h2⟩
  · simp at h1
  · exact ⟨e, by simpa using h1, h2⟩

theorem masksGo_reach : ∀ (os : List Oper) (acc : List Nat), (∀ i, acc.length ≤ i → ops[i]? = os[i - acc.length]?) → (∀ i k, (acc.getD i 0).testBit k = true → Reach ops i k) → ∀ i k, ((masksGo acc os).getD i 0).testBit k = true → Reach ops i k
  | [], acc, _, h, i, k, hk => h i k hk
  | o :: os, acc, ho, h, i, k, hk => by
    refine masksGo_reach os (acc ++ [maskOf acc o]) (fun i hi => ?_) (fun i k hk => ?_) i k hk
    · simp at hi
      rw [ho i (by omega)]
      have : i - acc.length = (i - (acc ++ [maskOf acc o]).length) + 1 := by simp; omega
      rw [this]; simp
    · by_cases hi : i < acc.length
      · refine h i k ?_
        rw [List.getD_eq_getElem?_getD, List.getElem?_append_left hi, ← List.getD_eq_getElem?_getD] at hk; exact hk
      · by_cases hi2 : i = acc.length
        · subst hi2
          have e : (acc ++ [maskOf acc o]).getD acc.length 0 = maskOf acc o := by simp
          rw [e] at hk
          have hop : ops[acc.length]? = some o := by rw [ho _ (Nat.le_refl _)]; simp
          obtain ⟨e, h1, h2, h3 | h3⟩ := maskOf_bits hk
          · rw [← h3]; exact .one hop h1 h2
          · exact .more hop h1 h2 (h _ _ h3)
        · have : (acc ++ [maskOf acc o]).getD i 0 = 0 := by
            rw [List.getD_eq_getElem?_getD, List.getElem?_eq_none (by simp; omega)]; rfl
          rw [this] at hk; simp at hk
theorem masks_reach {i k : Nat} (h : ((masks ops).getD i 0).testBit k = true) : Reach ops i k := masksGo_reach ops [] (fun i _ => by simp) (fun i k h => by simp at h) i k h

theorem masksGo_len : ∀ (os : List Oper) (acc : List Nat), (masksGo acc os).length = acc.length + os.length
  | [], acc => by simp [masksGo]
  | o :: os, acc => by rw [masksGo, masksGo_len os]; simp; omega

theorem cutOK_spec {s t : Nat} (h : cutOK ops s t = true) {i k : Nat} (hti : t ≤ i) (hi : i < ops.length) (hsk : s ≤ k) (hkt : k < t) : Reach ops i k := by
  unfold cutOK at h
  rw [List.all_eq_true] at h
  have hlen : (masks ops).length = ops.length := by unfold masks; rw [masksGo_len]; simp
  have hm : (masks ops).getD i 0 ∈ (masks ops).drop t := by
    rw [List.mem_iff_getElem?]
    refine ⟨i - t, ?_⟩
    rw [List.getElem?_drop, show t + (i - t) = i by omega, List.getD_eq_getElem?_getD, List.getElem?_eq_getElem (by omega)]
    rfl
  have h1 := Nat.eq_of_beq_eq_true (h _ hm)
  refine masks_reach ?_
  have h2 : ((((masks ops).getD i 0) >>> s) &&& ((1 <<< (t - s)) - 1)).testBit (k - s) = true := by
    rw [h1, Nat.one_shiftLeft, Nat.testBit_two_pow_sub_one]
    simp; omega
  rw [Nat.testBit_and, Bool.and_eq_true, Nat.testBit_shiftRight] at h2
  rw [show s + (k - s) = k by omega] at h2
  exact h2.1

theorem reach_listed {listed : Array Bool} (hc : ∀ k o, ops[k]? = some o → listed.getD k false = true → ∀ e ∈ o.after, Region.binds .any e = true → listed.getD e.on false = true) (hb : ∀ k o, ops[k]? = some o → ∀ e ∈ o.after, Region.binds .any e = true → e.on < k)
    {i k : Nat} (h : Reach ops i k) : (∀ o, ops[i]? = some o → ∀ e ∈ o.after, Region.binds .any e = true → listed.getD e.on false = true) → listed.getD k false = true := by
  induction h with
  | one h1 h2 h3 => intro hd; exact hd _ h1 _ h2 h3
  | @more i k o e h1 h2 h3 _ ih =>
    intro hd
    exact ih (fun o' ho' => hc _ o' ho' (hd _ h1 _ h2 h3))

/-- Eaten by an operation that is done. -/
def eatenBy (ges : List Lay) (s : Nat) (listed : Array Bool) (d : Nat) : Prop := ∃ j G e E, ges[j]? = some (G, e, E) ∧ d ∈ E ∧ listed.getD (s + j) false = true

/-- The invariant, over the stretch [s, s + n). -/
structure DInv (N : Nat) (ds : List Deferred) (ops : List Oper) (dc : Disc w0) (s : Nat) (ges : List Lay) (a0 : Act) (listed : Array Bool) (a : Act) (w : World) : Prop where
  below : dc.rel w
  lock : ∀ k o, k < ges.length → ops[s + k]? = some o → dc.tok o = true → listed.getD (s + k) false = false → dc.lock w
  inv : dc.inv w
  size : a.tmps.size = N
  defers : a.defers = ds
  pre : ∀ k, k < s → listed.getD k false = true
  post : ∀ k, s + ges.length ≤ k → listed.getD k false = false
  done : ∀ k o d G e E, ops[s + k]? = some o → o.dst = some d → ges[k]? = some (G, e, E) → listed.getD (s + k) false = true → ¬ eatenBy ges s listed d → slotOK G e (a.tmps.getD d undef) w
  apart : ∀ k o d G e E k' o' d' G' e' E', ops[s + k]? = some o → o.dst = some d → ges[k]? = some (G, e, E) → listed.getD (s + k) false = true → ¬ eatenBy ges s listed d → Cnd G →
    ops[s + k']? = some o' → o'.dst = some d' → ges[k']? = some (G', e', E') → listed.getD (s + k') false = true → ¬ eatenBy ges s listed d' → Cnd G' → k ≠ k' → ∀ g, dc.foot e (a.tmps.getD d undef) g → dc.foot e' (a.tmps.getD d' undef) g → False
  todo : ∀ k o d, k < ges.length → ops[s + k]? = some o → o.dst = some d → listed.getD (s + k) false = false → a.tmps.getD d undef = a0.tmps.getD d undef
  others : ∀ x, (∀ (k : Nat) (o : Oper), k < ges.length → ops[s + k]? = some o → o.dst ≠ some x) → a.tmps.getD x undef = a0.tmps.getD x undef
  closed : ∀ k o, ops[k]? = some o → listed.getD k false = true → ∀ e ∈ o.after, Region.binds .any e = true → listed.getD e.on false = true

/-- The operations of the stretch. -/
def stretch (ops : List Oper) (s t : Nat) : List Oper := (ops.drop s).take (t - s)
theorem stretch_get {s t k : Nat} : (stretch ops s t)[k]? = if k < t - s then ops[s + k]? else none := by
  unfold stretch
  rw [List.getElem?_take]
  split
  · rw [List.getElem?_drop]
  · rfl

theorem draw_sound {D0 : DE} {ges : List Lay} {a0 : Act} {s t : Nat} (dc : Disc w0) (hlex : lexOK ops = true) (hcut : cutOK ops s t = true) (hst : s ≤ t) (htl : t ≤ ops.length) (hl : ges.length = t - s)
    (hstep : ∀ i o G e E, ops[s + i]? = some o → ges[i]? = some (G, e, E) → DOneA P N ds ops dc o (laidO D0 ((stretch ops s t).take i) (ges.take i)) G e E)
    (htok : ∀ i j o o', ops[s + i]? = some o → ops[s + j]? = some o' → dc.tok o = true → dc.tok o' = true → i = j)
    (h0 : ∀ i c e, dlook D0 i = some (c, e) → ∃ v, e = .ex v ∧ slotOK c e (a0.tmps.getD i undef) w0)
    (hfin : ∀ (fuel : Nat) (listed : Array Bool) (a : Act) (w : World), listed.size = ops.length → (∀ k, k < ops.length → listed.getD k false = decide (k < t)) → ops.length - t ≤ fuel → dc.rel w → dc.inv w → FitD N ds (laidO D0 (stretch ops s t) ges) a w → wpAnyIn (FR r) 0 P .any ops.toArray Q fuel listed a w) :
    ∀ (fuel : Nat) (listed : Array Bool) (a : Act) (w : World), listed.size = ops.length → ((List.range ops.length).filter fun k => !listed.getD k false).length ≤ fuel → DInv N ds ops dc s ges a0 listed a w →
      wpAnyIn (FR r) 0 P .any ops.toArray Q fuel listed a w := by
  have hback : ∀ k o, ops[k]? = some o → ∀ e ∈ o.after, Region.binds .any e = true → e.on < k := fun k o hk e he hb => (lexOK_spec hlex hk hk).1 e he hb
  have hin : ∀ {k : Nat} {o : Oper}, k < t - s → (ops[s + k]? = some o ↔ (stretch ops s t)[k]? = some o) := fun hk => by rw [stretch_get, if_pos hk]
  have huniq : ∀ {x k i : Nat} {o o' : Oper}, ops[k]? = some o → o.dst = some x → ops[i]? = some o' → o'.dst = some x → i = k := by
    intro x k i o o' hk hd ho' hd'
    rcases ((lexOK_spec hlex ho' hk).2 x hd).1 with h | h
    · exact h.symm
    · exact absurd hd' h
  have hgl : ∀ {j : Nat} {L : Lay}, ges[j]? = some L → j < t - s := fun hg => by rw [← hl]; exact (List.getElem?_eq_some_iff.1 hg).1
  have hopl : ∀ {j : Nat}, j < t - s → ∃ o, ops[s + j]? = some o := fun hj => ⟨_, List.getElem?_eq_getElem (by omega)⟩
  have hgel : ∀ {j : Nat}, j < t - s → ∃ G e E, ges[j]? = some (G, e, E) := fun hj => ⟨_, _, _, List.getElem?_eq_getElem (by omega)⟩
  have hlooks : ∀ {j x : Nat} {G e E} {o : Oper}, ges[j]? = some (G, e, E) → x ∈ E → ops[s + j]? = some o → x ∈ o.looksAt ops.toArray := by
    intro j x G e E o hg hs ho
    have h5 := (hstep j o G e E ho hg).2.2.2.2.1
    unfold sole at h5
    rw [List.all_eq_true] at h5
    have h6 := h5 x hs
    simp only [Bool.and_eq_true] at h6
    simpa using h6.1
  have hsole : ∀ {j i x : Nat} {G e E} {o : Oper}, ges[j]? = some (G, e, E) → x ∈ E → ops[i]? = some o → x ∈ o.looksAt ops.toArray → s + j = i := by
    intro j i x G e E o hg hs ho hlk
    obtain ⟨oj, hj⟩ := hopl (hgl hg)
    have h5 := (hstep j oj G e E hj hg).2.2.2.2.1
    unfold sole at h5
    rw [List.all_eq_true] at h5
    have h6 := h5 x hs
    simp only [Bool.and_eq_true] at h6
    exact one_of_filter (p := fun p => (p.looksAt ops.toArray).contains x) (Nat.le_of_ble_eq_true h6.2) hj h6.1 ho (by simpa using hlk)
  have htake : ∀ {i k : Nat} {o : Oper} {L : Lay}, i ≤ t - s → ((stretch ops s t).take i)[k]? = some o → (ges.take i)[k]? = some L → k < i ∧ ops[s + k]? = some o ∧ ges[k]? = some L := by
    intro i k o L hi h1 h2
    have hki : k < i := by have := (List.getElem?_eq_some_iff.1 h1).1; simp at this; omega
    rw [List.getElem?_take_of_lt hki] at h1 h2
    exact ⟨hki, (hin (by omega)).2 h1, h2⟩
  have heat : ∀ {j k x : Nat} {G e E} {o : Oper}, ges[j]? = some (G, e, E) → x ∈ E → ops[k]? = some o → o.dst = some x → s ≤ k ∧ k < s + j := by
    intro j k x G e E o hg hs hk hd
    obtain ⟨oj, hj⟩ := hopl (hgl hg)
    obtain ⟨c, φ, S, hlk⟩ := (hstep j oj G e E hj hg).2.2.2.2.2.1 x hs
    rcases dlook_laidO _ _ D0 hlk with ⟨k', o', G', e', E', hk', hge, hd', hx, _⟩ | ⟨h1, _⟩
    · obtain ⟨h1, h2, _⟩ := htake (by have := hgl hg; omega) hk' hge
      have := huniq h2 hd' hk hd
      omega
    · obtain ⟨v, hv, _⟩ := h0 x c _ h1
      cases hv
  intro fuel
  induction fuel with
  | zero =>
    intro listed a w hsz hcount hI
    have hall : ∀ k, k < ops.length → listed.getD k false = true := by
      intro k hk
      cases hc : listed.getD k false with
      | true => rfl
      | false =>
        exfalso
        have : k ∈ (List.range ops.length).filter fun k => !listed.getD k false := by rw [List.mem_filter]; exact ⟨by simpa using hk, by rw [hc]; rfl⟩
        have hnil : (List.range ops.length).filter (fun k => !listed.getD k false) = [] := List.eq_nil_of_length_eq_zero (by omega)
        rw [hnil] at this
        cases this
    have htt : t = ops.length := by
      rcases Nat.lt_or_ge t ops.length with h | h
      · have := hI.post t (by omega)
        rw [hall t h] at this; cases this
      · omega
    refine hfin 0 listed a w hsz (fun k hk => by rw [hall k hk]; simp; omega) (by omega) hI.below hI.inv ⟨hI.size, hI.defers, fun x c e hs => ?_⟩
    rcases dlook_laidO _ _ D0 hs with ⟨k, o, G, e', E, hk, hge, hd, hx, hno⟩ | ⟨h1, h2⟩
    · cases hx
      have hkl := hgl hge
      have hk := (hin hkl).2 hk
      refine hI.done k o x c e E hk hd hge (hall _ (by omega)) ?_
      rintro ⟨j, G', e', E', hgj, hsE, _⟩
      obtain ⟨oj, hj⟩ := hopl (hgl hgj)
      have := heat hgj hsE hk hd
      exact hno j oj G' e' E' (by omega) ((hin (hgl hgj)).1 hj) hgj hsE
    · obtain ⟨v, rfl, hok⟩ := h0 x c e h1
      rw [hI.others x (fun i o hi ho => by
        obtain ⟨G, e, E, hg⟩ := hgel (j := i) (by omega)
        exact (h2 i o _ _ _ ((hin (by omega)).1 ho) hg).1)]
      exact hok
  | succ fuel ih =>
    intro listed a w hsz hcount hI
    by_cases hdone : ∀ k, s ≤ k → k < t → listed.getD k false = true
    · -- the stretch is done
      have hlt : ∀ k, k < ops.length → listed.getD k false = decide (k < t) := by
        intro k hk
        by_cases h1 : k < t
        · rcases Nat.lt_or_ge k s with h2 | h2
          · rw [hI.pre k h2]; simp [h1]
          · rw [hdone k h2 h1]; simp [h1]
        · rw [hI.post k (by omega)]; simp [h1]
      refine hfin (fuel + 1) listed a w hsz hlt ?_ hI.below hI.inv ⟨hI.size, hI.defers, fun x c e hs => ?_⟩
      · refine Nat.le_trans ?_ hcount
        have : (List.range ops.length).filter (fun k => !listed.getD k false) = (List.range ops.length).filter (fun k => decide (t ≤ k)) := by
          refine List.filter_congr fun k hk => ?_
          rw [hlt k (by simpa using hk)]
          by_cases h1 : k < t <;> simp [h1] <;> omega
        rw [this]
        have hsub : ((List.range ops.length).filter fun k => decide (t ≤ k)).length = ops.length - t := by
          rw [show ops.length = t + (ops.length - t) by omega, List.range_add, List.filter_append]
          simp
          rw [List.filter_eq_nil_iff.2 (by intro x hx; simp at hx; simp; omega), List.filter_eq_self.2 (by intro x hx; simp at hx; obtain ⟨y, _, rfl⟩ := hx; simp)]
          simp
        omega
      · rcases dlook_laidO _ _ D0 hs with ⟨k, o, G, e', E, hk, hge, hd, hx, hno⟩ | ⟨h1, h2⟩
        · cases hx
          have hkl := hgl hge
          have hk := (hin hkl).2 hk
          refine hI.done k o x c e E hk hd hge (hdone _ (by omega) (by omega)) ?_
          rintro ⟨j, G', e', E', hgj, hsE, _⟩
          obtain ⟨oj, hj⟩ := hopl (hgl hgj)
          have := heat hgj hsE hk hd
          exact hno j oj G' e' E' (by omega) ((hin (hgl hgj)).1 hj) hgj hsE
        · obtain ⟨v, rfl, hok⟩ := h0 x c e h1
          rw [hI.others x (fun i o hi ho => by
            obtain ⟨G, e, E, hg⟩ := hgel (j := i) (by omega)
            exact (h2 i o _ _ _ ((hin (by omega)).1 ho) hg).1)]
          exact hok
    · have hready : ∀ k, s ≤ k → k < t → listed.getD k false = false → (∀ j, s ≤ j → j < k → listed.getD j false = true) → k ∈ Region.ready .any ops.toArray listed := by
        intro k hsk hkt hc hbef
        unfold Region.ready
        rw [List.mem_filter]
        have hk : k < ops.length := by omega
        have hok : ops[k]? = some ops[k] := List.getElem?_eq_getElem hk
        refine ⟨by simpa using hk, ?_⟩
        have hc' : listed.getD k true = false := by
          have : k < listed.size := by omega
          simpa [this] using hc
        simp only [hc', List.getElem?_toArray, hok, Option.map_some, Option.getD_some, Bool.not_false, Bool.true_and]
        rw [Array.all_eq_true']
        intro e he
        cases hbi : Region.binds .any e with
        | false => simp
        | true =>
          have hon := hback k _ hok e he hbi
          have : listed.getD e.on false = true := by
            rcases Nat.lt_or_ge e.on s with h | h
            · exact hI.pre _ h
            · exact hbef _ h hon
          simp [this]
      have hmin : ∃ k, s ≤ k ∧ k < t ∧ listed.getD k false = false ∧ ∀ j, s ≤ j → j < k → listed.getD j false = true := by
        have hex : ∃ k, s ≤ k ∧ k < t ∧ listed.getD k false = false := by
          rcases Classical.not_forall.1 hdone with ⟨k, hk⟩
          rcases Classical.not_forall.1 hk with ⟨h1, hk⟩
          rcases Classical.not_forall.1 hk with ⟨h2, hk⟩
          exact ⟨k, h1, h2, by simpa using hk⟩
        obtain ⟨k, h1, h2, h3⟩ := hex
        induction k using Nat.strongRecOn with
        | _ k ihk =>
          by_cases hb : ∀ j, s ≤ j → j < k → listed.getD j false = true
          · exact ⟨k, h1, h2, h3, hb⟩
          · rcases Classical.not_forall.1 hb with ⟨j, hj⟩
            rcases Classical.not_forall.1 hj with ⟨g1, hj⟩
            rcases Classical.not_forall.1 hj with ⟨g2, hj⟩
            exact ihk j g2 g1 (by omega) (by simpa using hj)
      refine ⟨fun hr => ?_, fun i hi => ?_⟩
      · obtain ⟨k, h1, h2, h3, h4⟩ := hmin
        have := hready k h1 h2 h3 h4
        rw [hr] at this; cases this
      unfold Region.ready at hi
      rw [List.mem_filter] at hi
      obtain ⟨hi1, hi2⟩ := hi
      have hil : i < ops.length := by simpa using hi1
      have hok : ops[i]? = some ops[i] := List.getElem?_eq_getElem hil
      simp only [Bool.and_eq_true, List.getElem?_toArray, hok, Option.map_some, Option.getD_some] at hi2
      obtain ⟨hi2, hi3⟩ := hi2
      have hni : listed.getD i false = false := by
        have hs : i < listed.size := by omega
        simpa [hs] using hi2
      rw [Array.all_eq_true'] at hi3
      have hdeps : ∀ e ∈ ops[i].after, Region.binds .any e = true → listed.getD e.on false = true := by
        intro e he hb
        have := hi3 e he
        rw [hb] at this
        simpa using this
      have hsi : s ≤ i := by
        rcases Nat.lt_or_ge i s with h | h
        · have := hI.pre i h; rw [hni] at this; cases this
        · exact h
      have hit : i < t := by
        rcases Nat.lt_or_ge i t with h | h
        · exact h
        · exfalso
          refine hdone fun k hk1 hk2 => ?_
          exact reach_listed hI.closed hback (cutOK_spec hcut h hil hk1 hk2) (fun o ho e he hb => by rw [hok] at ho; cases ho; exact hdeps e he hb)
      obtain ⟨n, rfl⟩ : ∃ n, i = s + n := ⟨i - s, by omega⟩
      have hnl : n < t - s := by omega
      obtain ⟨o, hok'⟩ : ∃ o, ops[s + n]? = some o := ⟨_, hok⟩
      have hoo : ops[s + n] = o := by rw [hok] at hok'; simpa using hok'
      obtain ⟨Gi, ei, Ei, hgi⟩ := hgel hnl
      rw [hoo] at hdeps
      clear hok
      obtain ⟨hg, hd, hn, hm, hso, heo, hop⟩ := hstep n o Gi ei Ei hok' hgi
      have hne : ∀ x, x ∈ o.looksAt ops.toArray → ¬ eatenBy ges s listed x := by
        rintro x hs ⟨j, G, e, E, hgj, hsE, hlj⟩
        have := hsole hgj hsE hok' hs
        rw [this, hni] at hlj; cases hlj
      have hsee : ∀ x k p, x ∈ o.looksAt ops.toArray → k < s + n → ops[k]? = some p → p.dst = some x → listed.getD k false = true := by
        intro x k p hsL hki hk hd
        obtain ⟨e', he', hb', hon⟩ := (((lexOK_spec hlex hok' hk).2 x hd).2 hsL).1 hki
        exact hon ▸ hdeps e' he' hb'
      have hfit : FitL N ds (o.looksAt ops.toArray) (laidO D0 ((stretch ops s t).take n) (ges.take n)) a w := by
        refine ⟨hI.size, hI.defers, fun x hsL c e hs => ?_⟩
        rcases dlook_laidO _ _ D0 hs with ⟨k, p, G, e', E, hk, hge, hd, hx, hno⟩ | ⟨h1, h2⟩
        · cases hx
          obtain ⟨hki, hk, hge⟩ := htake (by omega) hk hge
          exact hI.done k p x c e E hk hd hge (hsee x (s + k) p hsL (by omega) hk hd) (hne x hsL)
        · obtain ⟨v, rfl, hok0⟩ := h0 x c e h1
          by_cases hw : ∃ (k : Nat) (p : Oper), k < ges.length ∧ ops[s + k]? = some p ∧ p.dst = some x
          · obtain ⟨k, p, hkl, hk, hd⟩ := hw
            have hik : n ≤ k := by
              rcases Nat.lt_or_ge k n with hki | hik
              · obtain ⟨G, e, E, hg⟩ := hgel (j := k) (by omega)
                exact absurd hd (h2 k p _ _ _ (by rw [List.getElem?_take_of_lt hki]; exact (hin (by omega)).1 hk) (by rw [List.getElem?_take_of_lt hki]; exact hg)).1
              · exact hik
            have hlk : listed.getD (s + k) false = false := by
              rcases (((lexOK_spec hlex hok' hk).2 x hd).2 hsL).2 (by omega) with h | ⟨e', he', hb', hon⟩
              · rw [h]; exact hni
              · cases hc : listed.getD (s + k) false with
                | false => rfl
                | true =>
                  have := hI.closed (s + k) p hk hc e' he' hb'
                  rw [hon, hni] at this
                  cases this
            rw [hI.todo k p x hkl hk hd hlk]
            exact hok0
          · rw [hI.others x (fun k p hk ho hd => hw ⟨k, p, hk, ho, hd⟩)]
            exact hok0
      obtain ⟨hw1, hw2⟩ := dwanted_of (ops := ops) (o := o) hfit (fun d hd => looks_guard hd) hg
      have heatk : ∀ x, x ∈ Ei → ∃ k p G e E, ops[s + k]? = some p ∧ p.dst = some x ∧ ges[k]? = some (G, e, E) ∧ listed.getD (s + k) false = true ∧ dlook (laidO D0 ((stretch ops s t).take n) (ges.take n)) x = some (G, e) := by
        intro x hs
        obtain ⟨c, φ, S, hlk⟩ := heo x hs
        have hsL := hlooks hgi hs hok'
        rcases dlook_laidO _ _ D0 hlk with ⟨k, p, G, e', E, hk, hge, hd, hx, _⟩ | ⟨h1, _⟩
        · obtain ⟨hki, hk, hge⟩ := htake (by omega) hk hge
          exact ⟨k, p, G, e', E, hk, hd, hge, hsee x (s + k) p hsL (by omega) hk hd, by rw [hlk, hx]⟩
        · obtain ⟨v, hv, _⟩ := h0 x c _ h1
          cases hv
      have hset : ∀ k, (listed.setIfInBounds (s + n) true).getD k false = if k = s + n then true else listed.getD k false := by
        intro k
        by_cases hki : k = s + n
        · subst hki; simp [hsz, hil]
        · have : s + n ≠ k := fun e => hki e.symm
          simp [hki, Array.getElem?_setIfInBounds_ne this]
      have heaten : ∀ d, ¬ eatenBy ges s (listed.setIfInBounds (s + n) true) d → ¬ eatenBy ges s listed d ∧ ¬ d ∈ Ei := by
        intro d h
        refine ⟨fun ⟨j, G, e, E, h1, h2, h3⟩ => h ⟨j, G, e, E, h1, h2, ?_⟩, fun hd => h ⟨n, Gi, ei, Ei, hgi, hd, by rw [hset]; simp⟩⟩
        rw [hset]; split
        · rfl
        · exact h3
      have hEat : ∀ k p d G e E, ops[s + k]? = some p → p.dst = some d → ges[k]? = some (G, e, E) → listed.getD (s + k) false = true → ¬ eatenBy ges s listed d → Cnd G → ¬ d ∈ Ei → ∀ g, dc.foot e (a.tmps.getD d undef) g → ¬ EatD dc (laidO D0 ((stretch ops s t).take n) (ges.take n)) Ei a g := by
        rintro k p d G e E hk hd hge hlk hnk hcG hdE g hfg ⟨x, c, e', hsE, hls, hcc, hf⟩
        have hsE := hasN_iff.1 hsE
        obtain ⟨k', o', G', e'', E', hk', hd', hge', hlk', hdl⟩ := heatk x hsE
        rw [hdl] at hls
        cases hls
        have hsL := hlooks hgi hsE hok'
        refine hI.apart k p d G e E k' o' x _ _ E' hk hd hge hlk hnk hcG hk' hd' hge' hlk' (hne x hsL) hcc (fun h => ?_) g hfg hf
        subst h
        rw [hk] at hk'; cases hk'
        rw [hd] at hd'; cases hd'
        exact hdE hsE
      have hnext : ∀ v w', dc.step w w' (EatD dc (laidO D0 ((stretch ops s t).take n) (ges.take n)) Ei a) → (dc.tok o = false → dc.still w w') → slotOK Gi ei v w' → (Cnd Gi → ∀ g, dc.foot ei v g → EatD dc (laidO D0 ((stretch ops s t).take n) (ges.take n)) Ei a g ∨ w.heap.size ≤ g) →
          wpAnyIn (FR r) 0 P .any ops.toArray Q fuel (listed.setIfInBounds (s + n) true) (a.put o.dst v) w' := by
        intro v w' hst hlo hs hfoot
        refine ih _ _ _ (by simpa using hsz) ?_ ?_
        · have hsub : ((List.range ops.length).filter fun k => !(listed.setIfInBounds (s + n) true).getD k false) = ((List.range ops.length).filter fun k => !listed.getD k false).erase (s + n) := by
            have hnd : ((List.range ops.length).filter fun k => !listed.getD k false).Nodup := List.nodup_range.sublist List.filter_sublist
            rw [hnd.erase_eq_filter, List.filter_filter]
            congr 1
            funext k
            rw [hset]
            by_cases hki : k = s + n <;> simp [hki]
          rw [hsub, List.length_erase_of_mem]
          · omega
          · rw [List.mem_filter]; exact ⟨by simpa using hil, by rw [hni]; rfl⟩
        · have hput : ∀ x, o.dst ≠ some x → (a.put o.dst v).tmps.getD x undef = a.tmps.getD x undef := by
            intro x hne
            cases hd' : o.dst with
            | none => rfl
            | some d =>
              rw [hd'] at hne
              have : d ≠ x := fun e => hne (by rw [e])
              simp [Act.put, Array.getElem?_setIfInBounds_ne this]
          have hputsame : ∀ x, o.dst = some x → (a.put o.dst v).tmps.getD x undef = v := by
            intro x hs'
            rw [hs']
            have : x < a.tmps.size := by
              rw [hs'] at hd
              rw [hI.size]
              exact blt_iff.1 hd
            simp [Act.put, this]
          have hdst : ∀ {k p d}, ops[s + k]? = some p → p.dst = some d → k ≠ n → o.dst ≠ some d := by
            intro k p d hk hd' hki h
            have := huniq hok' h hk hd'
            omega
          have hold : ∀ k p d G e E, ops[s + k]? = some p → p.dst = some d → ges[k]? = some (G, e, E) → k ≠ n → listed.getD (s + k) false = true → ¬ eatenBy ges s listed d → ¬ d ∈ Ei → slotOK G e (a.tmps.getD d undef) w' := by
            intro k p d G e E hk hd' hge hki hlk hnk hdE
            have h1 := hI.done k p d G e E hk hd' hge hlk hnk
            have hme : dc.good (dc.tok p) e := (hstep k p G e E hk hge).2.2.2.1
            have hsti : dc.tok p = true → dc.still w w' := fun hp => by
              cases hto : dc.tok o with
              | true => exact absurd (htok k n p o hk hok' hp hto) hki
              | false => exact hlo hto
            exact ⟨fun hc => dc.keep _ e hme _ w w' _ hI.below hst hsti (hEat k p d G e E hk hd' hge hlk hnk hc hdE) (h1.1 hc), h1.2⟩
          have hnew : ∀ k p d G e E, ops[s + k]? = some p → p.dst = some d → ges[k]? = some (G, e, E) → k ≠ n → listed.getD (s + k) false = true → ¬ eatenBy ges s listed d → ¬ d ∈ Ei → Cnd G → Cnd Gi → ∀ g, dc.foot e (a.tmps.getD d undef) g → dc.foot ei v g → False := by
            intro k p d G e E hk hd' hge hki hlk hnk hdE hcG hcGi g hf1 hf2
            rcases hfoot hcGi g hf2 with h | h
            · exact hEat k p d G e E hk hd' hge hlk hnk hcG hdE g hf1 h
            · have h1 := (hI.done k p d G e E hk hd' hge hlk hnk).1 hcG
              have hme : dc.good (dc.tok p) e := (hstep k p G e E hk hge).2.2.2.1
              have := dc.bound _ e hme _ w h1 g hf1
              omega
          refine ⟨dc.rel_step w w' _ hI.below hst, fun k p hkl hk htk hlk => ?_, dc.inv_step _ _ _ hst hI.inv, ?_, ?_, ?_, ?_, ?_, ?_, ?_, ?_, ?_⟩
          · rw [hset] at hlk
            by_cases hki : k = n
            · subst hki; simp at hlk
            · rw [if_neg (by omega)] at hlk
              have hlw := hI.lock k p hkl hk htk hlk
              cases hto : dc.tok o with
              | true => exact absurd (htok k n p o hk hok' htk hto) hki
              | false => exact dc.lock_still _ _ (hlo hto) hlw
          · cases hd' : o.dst <;> simp [Act.put, hI.size]
          · cases hd' : o.dst <;> simp [Act.put, hI.defers]
          · intro k hk
            rw [hset, if_neg (by omega)]
            exact hI.pre k hk
          · intro k hk
            rw [hset, if_neg (by omega)]
            exact hI.post k hk
          · intro k p d G e E hk hd' hge hlk hnk
            obtain ⟨hnk1, hnk2⟩ := heaten d hnk
            rw [hset] at hlk
            by_cases hki : k = n
            · subst hki
              rw [hok'] at hk; cases hk
              rw [hgi] at hge; cases hge
              rw [hputsame d hd']
              exact hs
            · rw [if_neg (by omega)] at hlk
              rw [hput d (hdst hk hd' hki)]
              exact hold k p d G e E hk hd' hge hki hlk hnk1 hnk2
          · intro k p d G e E k' o' d' G' e' E' hk hd1 hge hlk hnk hcG hk' hd1' hge' hlk' hnk' hcG' hkk g hf hf'
            obtain ⟨hnk1, hnk2⟩ := heaten d hnk
            obtain ⟨hnk1', hnk2'⟩ := heaten d' hnk'
            rw [hset] at hlk hlk'
            by_cases hki : k = n
            · subst hki
              have hki' : k' ≠ k := fun e => hkk e.symm
              rw [if_neg (by omega)] at hlk'
              rw [hok'] at hk; cases hk
              rw [hgi] at hge; cases hge
              rw [hputsame d hd1] at hf
              rw [hput d' (hdst hk' hd1' hki')] at hf'
              exact hnew k' o' d' G' e' E' hk' hd1' hge' hki' hlk' hnk1' hnk2' hcG' hcG g hf' hf
            · rw [if_neg (by omega)] at hlk
              rw [hput d (hdst hk hd1 hki)] at hf
              by_cases hki' : k' = n
              · subst hki'
                rw [hok'] at hk'; cases hk'
                rw [hgi] at hge'; cases hge'
                rw [hputsame d' hd1'] at hf'
                exact hnew k p d G e E hk hd1 hge hki hlk hnk1 hnk2 hcG hcG' g hf hf'
              · rw [if_neg (by omega)] at hlk'
                rw [hput d' (hdst hk' hd1' hki')] at hf'
                exact hI.apart k p d G e E k' o' d' G' e' E' hk hd1 hge hlk hnk1 hcG hk' hd1' hge' hlk' hnk1' hcG' hkk g hf hf'
          · intro k p d hkl hk hd' hlk
            rw [hset] at hlk
            by_cases hki : k = n
            · subst hki; simp at hlk
            · rw [if_neg (by omega)] at hlk
              rw [hput d (hdst hk hd' hki)]
              exact hI.todo k p d hkl hk hd' hlk
          · intro x hns
            rw [hput x (hns n o (by omega) hok')]
            exact hI.others x hns
          · intro k p hk hlk e he hbi
            rw [hset] at hlk ⊢
            by_cases hei : e.on = s + n
            · simp [hei]
            · rw [if_neg hei]
              by_cases hki : k = s + n
              · subst hki
                rw [hok'] at hk; cases hk
                exact hdeps e he hbi
              · rw [if_neg hki] at hlk
                exact hI.closed k p hk hlk e he hbi
      unfold wpOpIn
      simp only [List.getElem?_toArray, hok']
      by_cases hc : Cnd Gi
      · rw [if_pos (hw1 hc)]
        refine ⟨fun _ _ => trivial, ?_⟩
        rw [semAt_of hn]
        rcases hop hc a w hI.below (fun ht => hI.lock n o (by rw [hl]; omega) hok' ht hni) hfit with ⟨v, w', hrun, hb, hlo, hs, hf⟩ | ⟨f, vs, hrun, hgv⟩
        · rw [hrun]
          exact hnext v w' hb hlo ⟨fun _ => hs, fun h => absurd hc h⟩ (fun _ => hf)
        · rw [hrun]
          refine ⟨fun h => by simp [Fence.wide] at h, CallsIn.mono (callsIn_of hgv) ?_⟩
          rintro e w' ⟨v, rfl, hb, hlo, hs, hf⟩
          exact hnext v w' hb hlo ⟨fun _ => hs, fun h => absurd hc h⟩ (fun _ => hf)
      · rw [if_neg (by rw [hw2 hc]; simp)]
        exact ⟨fun _ _ => trivial, hnext undef w (dc.step_refl _ _) (fun _ => dc.still_refl _) ⟨fun h => absurd h hc, fun _ => rfl⟩ (fun h => absurd h hc)⟩

/-! ### Regions part by part -/

/-- What is left of a region whose first s operations are done. -/
def RK (P : Program) (r : Option Nat) (Q : Exit → Act → World → Prop) (ops : List Oper) (s : Nat) (a : Act) (w : World) : Prop :=
  ∀ (listed : Array Bool) (fuel : Nat), listed.size = ops.length → (∀ k, k < ops.length → listed.getD k false = decide (k < s)) → ops.length - s ≤ fuel → wpAnyIn (FR r) 0 P .any ops.toArray Q fuel listed a w

theorem wpIn_shift {o : Oper} {a : Act} {w : World} {K K' : Act → World → Prop} {R : Act → World → Prop} (hh : o.wpIn (FR r) 0 P a w K (Exit.then R Q)) (h : ∀ a w, K a w → K' a w) : o.wpIn (FR r) 0 P a w K' Q := by
  unfold Oper.wpIn at *
  refine ⟨hh.1, ?_⟩
  have hh := hh.2
  generalize (o.semAt (FR r).round a.eval).run P w = x at *
  cases x with
  | ok x w' =>
    cases x <;> simp only [Oper.uponIn] at hh ⊢ <;>
      first
        | exact h _ _ hh
        | exact ⟨hh.1, CallsIn.mono hh.2 (fun e w'' he => by cases e <;> first | exact h _ _ he | exact he)⟩
        | exact ⟨hh.1, RowsIn.mono hh.2 (fun _ _ he => h _ _ he)⟩
        | exact ⟨hh.1, RoundIn.mono hh.2 (fun e w'' he => by cases e <;> first | exact h _ _ he | exact he)⟩
  | halt x w' => cases x <;> simp only [Oper.uponIn] at hh ⊢ <;> exact hh

/-- The region from operation s on: the first s are done. -/
def RW (P : Program) (r : Option Nat) (Q : Exit → Act → World → Prop) (N : Nat) (ds : List Deferred) (ops : List Oper) (s : Nat) (E : Env) (w : World) : Prop :=
  ∀ (a : Act), Fit N ds E a → RK P r Q ops s a w

theorem CW.drawR {id : Nat} {E : Env} {w : World} (hm : P.follows .mixedOrders = true) (h : ∀ W, Below w.heap.size w W → RW P r Q N ds ops 0 E W) : CW P r Q N ds (.region id ops.toArray true) E w := by
  intro a ha
  refine wpIn_region_any hm ?_
  have e : ops.toArray.size = ops.length := by simp
  rw [e]
  exact h { w with drawn := w.drawn + 1 } ⟨rfl, rfl, rfl, Nat.le_refl _, fun _ _ => rfl⟩ a ha (Array.replicate ops.length false) _ (by simp) (fun k hk => by simp [hk]) (Nat.sub_le _ _)

theorem RW.drawI {E : Env} {w W : World} {s : Nat} (m : Mode) (t : Nat) (hlex : lexOK ops = true) (hcut : cutOK ops s t = true) (hst : Nat.ble s t = true) (htl : Nat.ble t ops.length = true) (hb : Below w.heap.size w W)
    (h : DW P N ds m ops w (fun D => ∀ a w', Below w.heap.size w w' → (discOf w W.drawn m).inv w' → FitD N ds D a w' → RK P r Q ops t a w') (stretch ops s t) (lift E)) : RW P r Q N ds ops s E W := by
  have hst := Nat.le_of_ble_eq_true hst
  have htl := Nat.le_of_ble_eq_true htl
  intro a ha listed fuel hsz hls hfu
  obtain ⟨ges, hl, hF, hstep⟩ := DW.entries W.drawn h
  have hl' : ges.length = t - s := by rw [hl]; unfold stretch; simp; omega
  refine draw_sound (N := N) (ds := ds) (w0 := w) (a0 := a) (D0 := lift E) (ges := ges) (discOf w W.drawn m) hlex hcut hst htl hl' ?_ (fun i j o o' _ _ h _ => by cases m <;> cases h) ?_ ?_ fuel listed a W hsz ?_ ?_
  · intro i o G e E hi hg
    have hil : i < t - s := by rw [← hl']; exact (List.getElem?_eq_some_iff.1 hg).1
    exact hstep i o G e E (by rw [stretch_get, if_pos hil]; exact hi) hg
  · intro i c e he
    rw [dlook_lift] at he
    cases hlk : look E i with
    | none => rw [hlk] at he; cases he
    | some p =>
      rw [hlk] at he
      simp only [Option.map_some, Option.some.injEq, Prod.mk.injEq] at he
      obtain ⟨rfl, rfl⟩ := he
      exact ⟨_, rfl, ha.slots i p.1 p.2 hlk⟩
  · intro fuel listed a w' hsz hls hfu hb' hinv hfit
    exact hF a w' (by cases m <;> exact hb') hinv hfit listed fuel hsz hls hfu
  · refine Nat.le_trans ?_ hfu
    have : (List.range ops.length).filter (fun k => !listed.getD k false) = (List.range ops.length).filter (fun k => decide (s ≤ k)) := by
      refine List.filter_congr fun k hk => ?_
      rw [hls k (by simpa using hk)]
      by_cases h1 : k < s <;> simp [h1] <;> omega
    rw [this, show ops.length = s + (ops.length - s) by omega, List.range_add, List.filter_append]
    simp
    rw [List.filter_eq_nil_iff.2 (by intro x hx; simp at hx; simp; omega)]
    refine Nat.le_trans (Nat.add_le_add_left (List.length_filter_le _ _) _) ?_
    simp
  · have hnl : ∀ k, s ≤ k → listed.getD k false = false := by
      intro k hk
      rcases Nat.lt_or_ge k ops.length with h | h
      · rw [hls k h]; simp; omega
      · simp [Array.getElem?_eq_none (show listed.size ≤ k by omega)]
    refine ⟨by cases m <;> exact hb, fun k o _ _ h _ => (by cases m <;> cases h), by cases m <;> first | trivial | exact Nat.le_refl _, ha.size, ha.defers, fun k hk => by rw [hls k (by omega)]; simp [hk], fun k hk => hnl k (by omega), ?_, ?_, fun _ _ _ _ _ _ _ => rfl, fun _ _ => rfl, ?_⟩
    · intro k o d G e E hk _ _ hlk
      rw [hnl _ (by omega)] at hlk; cases hlk
    · intro k o d G e E k' o' d' G' e' E' hk _ _ hlk
      rw [hnl _ (by omega)] at hlk; cases hlk
    · intro k o hk hlk e he hbi
      have hks : k < s := by
        rcases Nat.lt_or_ge k s with h | h
        · exact h
        · rw [hnl k h] at hlk; cases hlk
      have hon := (lexOK_spec hlex hk hk).1 e he hbi
      rw [hls e.on (by omega)]
      simp; omega

theorem DW.mono {w : World} {F F' : DE → Prop} (hF : ∀ D, F D → F' D) (m : Mode) (rest : List Oper) : ∀ (D : DE), DW P N ds m ops w F rest D → DW P N ds m ops w F' rest D := by
  induction rest with
  | nil => intro D h; cases m <;> exact hF D h
  | cons o rest ih =>
    intro D h
    cases m with
    | weak => obtain ⟨G, e, h1, h2⟩ := h; exact ⟨G, e, h1, ih _ h2⟩
    | own => obtain ⟨G, e, s, h1, h2⟩ := h; exact ⟨G, e, s, h1, ih _ h2⟩
    | cnt => obtain ⟨G, e, h1, h2⟩ := h; exact ⟨G, e, h1, ih _ h2⟩
theorem RW.draw {E : Env} {w W : World} {s : Nat} (m : Mode) (t : Nat) (hlex : lexOK ops = true) (hcut : cutOK ops s t = true) (hst : Nat.ble s t = true) (htl : Nat.ble t ops.length = true) (hb : Below w.heap.size w W)
    (h : DW P N ds m ops w (fun D => ∀ a w', Below w.heap.size w w' → FitD N ds D a w' → RK P r Q ops t a w') (stretch ops s t) (lift E)) : RW P r Q N ds ops s E W :=
  RW.drawI m t hlex hcut hst htl hb (DW.mono (fun _ hD a w' hb' _ hfit => hD a w' hb' hfit) m _ _ h)

/-- One operation, ahead of all that follow it. -/
theorem RW.one {E : Env} {w : World} {s : Nat} {o : Oper} (hlex : lexOK ops = true) (hcut : cutOK ops s (s + 1) = true) (ho : ops[s]? = some o)
    (h : TW P r (Exit.then (RK P r Q ops (s + 1)) Q) N ds ops [o] E w) : RW P r Q N ds ops s E w := by
  have hsl : s < ops.length := (List.getElem?_eq_some_iff.1 ho).1
  intro a ha listed fuel hsz hls hfu
  obtain ⟨fuel, rfl⟩ : ∃ f, fuel = f + 1 := ⟨fuel - 1, by omega⟩
  have hready : ∀ i, i ∈ Region.ready .any ops.toArray listed → i = s := by
    intro i hi
    unfold Region.ready at hi
    rw [List.mem_filter] at hi
    obtain ⟨hi1, hi2⟩ := hi
    have hil : i < ops.length := by simpa using hi1
    have hok : ops[i]? = some ops[i] := List.getElem?_eq_getElem hil
    simp only [Bool.and_eq_true, List.getElem?_toArray, hok, Option.map_some, Option.getD_some] at hi2
    obtain ⟨hi2, hi3⟩ := hi2
    have hni : listed.getD i false = false := by
      have hs : i < listed.size := by omega
      simpa [hs] using hi2
    rw [hls i hil] at hni
    have hsi : s ≤ i := by simpa using hni
    rcases Nat.lt_or_ge s i with hlt | hge
    · exfalso
      rw [Array.all_eq_true'] at hi3
      have hback : ∀ k o, ops[k]? = some o → ∀ e ∈ o.after, Region.binds .any e = true → e.on < k := fun k o hk e he hb => (lexOK_spec hlex hk hk).1 e he hb
      have hclosed : ∀ k o, ops[k]? = some o → listed.getD k false = true → ∀ e ∈ o.after, Region.binds .any e = true → listed.getD e.on false = true := by
        intro k o hk hlk e he hb
        have hkl := (List.getElem?_eq_some_iff.1 hk).1
        rw [hls k hkl] at hlk
        have := hback k o hk e he hb
        rw [hls e.on (by omega)]
        simp at hlk ⊢; omega
      have := reach_listed hclosed hback (cutOK_spec hcut hlt hil (Nat.le_refl s) (by omega)) (fun o ho e he hb => by
        rw [hok] at ho; cases ho
        have := hi3 e he
        rw [hb] at this
        simpa using this)
      rw [hls s hsl] at this
      simp at this
    · omega
  have hin : s ∈ Region.ready .any ops.toArray listed := by
    unfold Region.ready
    rw [List.mem_filter]
    refine ⟨by simpa using hsl, ?_⟩
    have hc' : listed.getD s true = false := by
      have h1 := hls s hsl
      have : s < listed.size := by omega
      simpa [this] using h1
    simp only [hc', List.getElem?_toArray, ho, Option.map_some, Option.getD_some, Bool.not_false, Bool.true_and]
    rw [Array.all_eq_true']
    intro e he
    cases hbi : Region.binds .any e with
    | false => simp
    | true =>
      have hon := (lexOK_spec hlex ho ho).1 e he hbi
      have : listed.getD e.on false = true := by rw [hls _ (by omega)]; simpa using hon
      simp [this]
  refine ⟨fun hr => (by rw [hr] at hin; cases hin), fun i hi => ?_⟩
  obtain rfl := hready i hi
  have h1 := h a ha
  have hset : ∀ k, k < ops.length → (listed.setIfInBounds i true).getD k false = decide (k < i + 1) := by
    intro k hk
    by_cases hki : k = i
    · subst hki; simp [hsz, hsl]
    · have : i ≠ k := fun e => hki e.symm
      have h2 := hls k hk
      simp only [Array.getD_eq_getD_getElem?] at h2 ⊢
      rw [Array.getElem?_setIfInBounds_ne this, h2]
      have : (k < i) ↔ (k < i + 1) := by omega
      simp [this]
  unfold wpOpIn
  simp only [List.getElem?_toArray, ho]
  unfold wpListIn at h1
  split at h1
  · rename_i hwant
    rw [if_pos hwant]
    refine wpIn_shift h1 fun a' w' hK => ?_
    exact hK _ _ (by simpa using hsz) hset (by omega)
  · rename_i hwant
    rw [if_neg hwant]
    exact ⟨fun _ _ => trivial, h1.2 _ _ (by simpa using hsz) hset (by omega)⟩

theorem RW.nil {E : Env} {w : World} (h : KW N ds (Q .normal) E w) : RW P r Q N ds ops ops.length E w := by
  intro a ha listed fuel hsz hls _
  have hr : Region.ready .any ops.toArray listed = [] := by
    unfold Region.ready
    rw [List.filter_eq_nil_iff]
    intro k hk
    have hk : k < ops.length := by simpa using hk
    have h1 := hls k hk
    have : k < listed.size := by omega
    have h2 : listed.getD k true = true := by simpa [this, hk] using h1
    simp [h2]
  cases fuel with
  | zero => exact ⟨hr, h a ha⟩
  | succ f => exact ⟨fun _ => h a ha, fun i hi => by rw [hr] at hi; cases hi⟩

/-- The whole region. -/
theorem CW.drawM (m : Mode) {id : Nat} {E : Env} {w : World} (hm : P.follows .mixedOrders = true) (hlex : lexOK ops = true)
    (h : DW P N ds m ops w (fun D => ∀ a w', Below w.heap.size w w' → FitD N ds D a w' → Q .normal a w') ops (lift E)) : CW P r Q N ds (.region id ops.toArray true) E w := by
  refine CW.drawR hm fun W hb => RW.draw m ops.length hlex ?_ (Nat.ble_eq_true_of_le (Nat.zero_le _)) (Nat.ble_eq_true_of_le (Nat.le_refl _)) hb ?_
  · unfold cutOK
    have hlen : (masks ops).length = ops.length := by unfold masks; rw [masksGo_len]; simp
    rw [List.drop_eq_nil_of_le (by omega)]
    rfl
  · have e : stretch ops 0 ops.length = ops := by unfold stretch; simp
    rw [e]
    refine DW.mono (fun D hD a w' hb' hfit listed fuel hsz hls hfu => ?_) m ops (lift E) h
    have hr : Region.ready .any ops.toArray listed = [] := by
      unfold Region.ready
      rw [List.filter_eq_nil_iff]
      intro k hk
      have hk : k < ops.length := by simpa using hk
      have h1 := hls k hk
      have : k < listed.size := by omega
      have h2 : listed.getD k true = true := by simpa [this, hk] using h1
      simp [h2]
    cases fuel with
    | zero => exact ⟨hr, hD a w' hb' hfit⟩
    | succ f => exact ⟨fun _ => hD a w' hb' hfit, fun i hi => by rw [hr] at hi; cases hi⟩

theorem CW.draw {id : Nat} {E : Env} {w : World} (hm : P.follows .mixedOrders = true) (hlex : lexOK ops = true)
    (h : DW P N ds .weak ops w (fun D => ∀ a w', Below w.heap.size w w' → FitD N ds D a w' → Q .normal a w') ops (lift E)) : CW P r Q N ds (.region id ops.toArray true) E w := CW.drawM .weak hm hlex h
theorem CW.drawO {id : Nat} {E : Env} {w : World} (hm : P.follows .mixedOrders = true) (hlex : lexOK ops = true)
    (h : DW P N ds .own ops w (fun D => ∀ a w', Below w.heap.size w w' → FitD N ds D a w' → Q .normal a w') ops (lift E)) : CW P r Q N ds (.region id ops.toArray true) E w := CW.drawM .own hm hlex h
theorem CW.drawC {id : Nat} {E : Env} {w : World} (hm : P.follows .mixedOrders = true) (hlex : lexOK ops = true)
    (h : DW P N ds .cnt ops w (fun D => ∀ a w', Below w.heap.size w w' ∧ w.drawn ≤ w'.drawn → FitD N ds D a w' → Q .normal a w') ops (lift E)) : CW P r Q N ds (.region id ops.toArray true) E w := by
  intro a ha
  refine wpIn_region_any hm ?_
  have e : ops.toArray.size = ops.length := by simp
  rw [e]
  have hcut : cutOK ops 0 ops.length = true := by
    unfold cutOK
    have hlen : (masks ops).length = ops.length := by unfold masks; rw [masksGo_len]; simp
    rw [List.drop_eq_nil_of_le (by omega)]
    rfl
  have es : stretch ops 0 ops.length = ops := by unfold stretch; simp
  have hb : Below w.heap.size w { w with drawn := w.drawn + 1 } := ⟨rfl, rfl, rfl, Nat.le_refl _, fun _ _ => rfl⟩
  refine (RW.drawI (W := { w with drawn := w.drawn + 1 }) .cnt ops.length hlex hcut (Nat.ble_eq_true_of_le (Nat.zero_le _)) (Nat.ble_eq_true_of_le (Nat.le_refl _)) hb ?_ : RW P r Q N ds ops 0 E _) a ha (Array.replicate ops.length false) _ (by simp) (fun k hk => by simp [hk]) (Nat.sub_le _ _)
  rw [es]
  refine DW.mono (fun D hD a w' hb' hinv hfit listed fuel hsz hls hfu => ?_) .cnt ops (lift E) h
  have hr : Region.ready .any ops.toArray listed = [] := by
    unfold Region.ready
    rw [List.filter_eq_nil_iff]
    intro k hk
    have hk : k < ops.length := by simpa using hk
    have h1 := hls k hk
    have : k < listed.size := by omega
    have h2 : listed.getD k true = true := by simpa [this, hk] using h1
    simp [h2]
  have hd : w.drawn ≤ w'.drawn := Nat.le_trans (Nat.le_succ _) hinv
  cases fuel with
  | zero => exact ⟨hr, hD a w' ⟨hb', hd⟩ hfit⟩
  | succ f => exact ⟨fun _ => hD a w' ⟨hb', hd⟩ hfit, fun i hi => by rw [hr] at hi; cases hi⟩
end sound
end Go.PF
