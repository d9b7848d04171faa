/- Texts of this claim, joined. -/
import Derived.TacticsIn
import Derived.OrdersIn
import Derived.Below
import Derived.Laws.Slices
import Derived.Laws.Strings
import Derived.Laws.StructEq
import Derived.Laws.Small
import Derived.Laws.Build
import Derived.Laws.Tables
import Derived.Laws.Rows
import Derived.Great.BuildSlice
import Derived.RangeFuncLeaves
set_option linter.unusedSimpArgs false
set_option linter.unusedVariables false
set_option maxRecDepth 100000
set_option maxHeartbeats 4000000
namespace Go.PF
open Go.RowKit
abbrev FR (r : Option Nat) : Fence := { Fence.wide with round := r }
def Cnd : Option Bool → Prop
 | none => True
 | some b => b = true
abbrev Env := List (Nat × Option Bool × Value)
def look : Env → Nat → Option (Option Bool × Value)
 | [], _ => none
 | (j, c, v) :: E, i => match Nat.beq j i with
  | true => some (c, v)
  | false => look E i
structure Fit (N : Nat) (ds : List Deferred) (E : Env) (a : Act) : Prop where
 size : a.tmps.size = N
 defers : a.defers = ds
 slots : ∀ i c v, look E i = some (c, v) → (Cnd c → a.tmps.getD i undef = v) ∧ (¬ Cnd c → a.tmps.getD i undef = undef)
def ev (E : Env) : Operand → Option (Option Bool × Value)
 | .tmp t => look E t
 | .const v => some (none, v)
 | .global g => some (none, .pointer (some ⟨g, 0, none⟩))
 | .func f => some (none, .func (.func f) #[] #[])
theorem beq_ne {d i : Nat} (h : d ≠ i) : Nat.beq d i = false := by
 cases hb : Nat.beq d i with
 | false => rfl
 | true => exact absurd (Nat.eq_of_beq_eq_true hb) h
theorem beq_self (d : Nat) : Nat.beq d d = true := Nat.beq_refl d
theorem Fit.eval {N : Nat} {ds : List Deferred} {E : Env} {a : Act} (h : Fit N ds E a) {x : Operand} {c : Option Bool} {v : Value} (hx : ev E x = some (c, v)) (hc : Cnd c) : a.eval x = v := by
 cases x with
 | tmp t => exact (h.slots t c v hx).1 hc
 | const u => simp [ev] at hx; exact hx.2
 | global g => simp [ev] at hx; exact hx.2
 | func f => simp [ev] at hx; exact hx.2
def ins (E : Env) (d : Option Tmp) (c : Option Bool) (v : Value) : Env :=
 match d with
 | none => E
 | some d => (d, c, v) :: E
def okDst (N : Nat) : Option Tmp → Bool
 | none => true
 | some d => Nat.blt d N
theorem Fit.put {N : Nat} {ds : List Deferred} {E : Env} {a : Act} (h : Fit N ds E a) {d : Option Tmp} {c : Option Bool} {v u : Value} (hd : okDst N d = true) (h1 : Cnd c → u = v) (h2 : ¬ Cnd c → u = undef) :
  Fit N ds (ins E d c v) (a.put d u) := by
 cases d with
 | none => exact h
 | some d =>
  have hd' : d < N := by simpa [okDst] using hd
  refine ⟨by simp [Act.put, h.size], by simp [Act.put, h.defers], fun i c' v' hl => ?_⟩
  simp only [ins, look] at hl
  by_cases hi : d = i
  ·subst hi
   have e : Nat.beq d d = true := beq_self d
   rw [e] at hl
   simp only [Option.some.injEq, Prod.mk.injEq] at hl
   obtain ⟨rfl, rfl⟩ := hl
   have : (a.put (some d) u).tmps.getD d undef = u := by
    simp [Act.put, h.size, hd']
   rw [this]
   exact ⟨h1, h2⟩
  ·have e : Nat.beq d i = false := beq_ne hi
   rw [e] at hl
   have : (a.put (some d) u).tmps.getD i undef = a.tmps.getD i undef := by
    simp [Act.put, Array.getElem?_setIfInBounds_ne hi]
   rw [this]
   exact h.slots i c' v' hl
def gd (ops : List Oper) (E : Env) : Option (Nat × Bool) → Option (Option Bool)
 | none => some none
 | some (j, want) => match (ops[j]?).bind (·.dst) with
  | none => none
  | some d => match look E d with
   | some (none, .bool b) => match want with
    | true => some (some b)
    | false => some (some (!b))
   | some (some c, .bool b) => match want with
    | true => some (some (c && b))
    | false => some (some (c && !b))
   | _ => none
theorem getElem?_getD {a : Array Value} {d : Nat} {v : Value} (h : d < a.size) (e : a.getD d undef = v) : a[d]? = some v := by
 rw [← e]; simp [h]
def boolOf : Option Value → Option Bool
 | some (.bool b) => some b
 | _ => none
theorem yielded_eq (ops : List Oper) (t : Array Value) (j : Nat) : yielded ops.toArray t j = boolOf (((ops[j]?).bind (·.dst)).bind (t[·]?)) := by
 unfold yielded boolOf
 simp only [List.getElem?_toArray]
 split <;> split <;> simp_all
theorem boolOf_ne {x : Option Value} (h : ∀ b, x ≠ some (.bool b)) : boolOf x = none := by
 unfold boolOf
 split
 ·rename_i b; exact absurd rfl (h b)
 ·rfl
theorem wanted_of {N : Nat} {ds : List Deferred} {E : Env} {a : Act} {ops : List Oper} {o : Oper} {G : Option Bool} (h : Fit N ds E a) (hg : gd ops E o.guard = some G) :
  (Cnd G → Region.wanted o (yielded ops.toArray a.tmps) = true) ∧ (¬ Cnd G → Region.wanted o (yielded ops.toArray a.tmps) = false) := by
 unfold Region.wanted
 cases hgu : o.guard with
 | none => rw [hgu] at hg; simp [gd] at hg; subst hg; simp [Cnd]
 | some p =>
  obtain ⟨j, want⟩ := p
  rw [hgu] at hg
  simp only [gd] at hg
  cases hd : (ops[j]?).bind (·.dst) with
  | none => rw [hd] at hg; simp at hg
  | some d =>
   rw [hd] at hg
   simp only at hg
   simp only [yielded_eq, hd, Option.bind_some]
   split at hg
   ·rename_i b hl
    have h1 := (h.slots d none (.bool b) hl).1 trivial
    have h2 : a.tmps[d]? = some (.bool b) := by
     rcases Nat.lt_or_ge d a.tmps.size with hlt | hge
     ·exact getElem?_getD hlt h1
     ·simp [Array.getElem?_eq_none hge, undef] at h1
    rw [h2]
    cases want <;> simp at hg <;> subst hg <;> simp [Cnd, boolOf]
   ·rename_i c b hl
    obtain ⟨h1, h1'⟩ := h.slots d (some c) (.bool b) hl
    cases c with
    | true =>
     have h1 := h1 rfl
     have h2 : a.tmps[d]? = some (.bool b) := by
      rcases Nat.lt_or_ge d a.tmps.size with hlt | hge
      ·exact getElem?_getD hlt h1
      ·simp [Array.getElem?_eq_none hge, undef] at h1
     rw [h2]
     cases want <;> simp at hg <;> subst hg <;> simp [Cnd, boolOf]
    | false =>
     have h1' := h1' (by simp [Cnd])
     have h2 : ∀ b, a.tmps[d]? ≠ some (.bool b) := by
      intro b hb
      simp [hb, undef] at h1'
     rw [boolOf_ne h2]
     cases want <;> simp at hg <;> subst hg <;> simp [Cnd]
   ·cases hg
def noDefer : Op → Bool
 | .defer _ => false
 | _ => true
theorem semAt_of {r : Option Nat} {ρ : Operand → Value} {o : Oper} (h : noDefer o.op = true) : Oper.semAt r ρ o = execOp ρ o :=
 Oper.semAt_eq r ρ o fun c hc => by rw [hc] at h; cases h
section
variable {P : Program} {r : Option Nat} {Q : Exit → Act → World → Prop} {N : Nat} {ds : List Deferred}
def TW (P : Program) (r : Option Nat) (Q : Exit → Act → World → Prop) (N : Nat) (ds : List Deferred) (ops rest : List Oper) (E : Env) (w : World) : Prop :=
 ∀ a, Fit N ds E a → wpListIn (FR r) 0 P ops.toArray Q rest a w
def CW (P : Program) (r : Option Nat) (Q : Exit → Act → World → Prop) (N : Nat) (ds : List Deferred) (c : Code) (E : Env) (w : World) : Prop :=
 ∀ a, Fit N ds E a → c.wpIn (FR r) 0 P Q a w
def KW (N : Nat) (ds : List Deferred) (K : Act → World → Prop) (E : Env) (w : World) : Prop := ∀ a, Fit N ds E a → K a w
theorem TW.nil {ops : List Oper} {E : Env} {w : World} (h : KW N ds (Q .normal) E w) : TW P r Q N ds ops [] E w := fun a ha => h a ha
theorem CW.region {id : Nat} {ops : List Oper} {E : Env} {w : World} (h : TW P r Q N ds ops ops E w) : CW P r Q N ds (.region id ops.toArray false) E w :=
 fun a ha => wpIn_region_lit (h a ha)
theorem CW.seq {x y : Code} {E : Env} {w : World} (h : CW P r (Exit.then (y.wpIn (FR r) 0 P Q) Q) N ds x E w) : CW P r Q N ds (.seq x y) E w :=
 fun a ha => wpIn_seq (h a ha)
theorem CW.block {id : Nat} {c : Code} {E : Env} {w : World} (h : CW P r (Exit.inBlock id Q) N ds c E w) : CW P r Q N ds (.block id c) E w :=
 fun a ha => wpIn_block (h a ha)
theorem CW.skip {E : Env} {w : World} (h : KW N ds (Q .normal) E w) : CW P r Q N ds .skip E w := fun a ha => wpIn_skip (h a ha)
theorem CW.exit {id : Nat} {E : Env} {w : World} (h : KW N ds (Q (.exit id)) E w) : CW P r Q N ds (.exit id) E w := fun a ha => wpIn_exit (h a ha)
theorem CW.ret {E : Env} {w : World} (h : KW N ds (Q .ret) E w) : CW P r Q N ds .ret E w := fun a ha => wpIn_ret (h a ha)
theorem CW.cond {c : Operand} {x y : Code} {b : Bool} {E : Env} {w : World} (hc : ev E c = some (none, .bool b)) (ht : b = true → CW P r Q N ds x E w) (hf : b = false → CW P r Q N ds y E w) :
  CW P r Q N ds (.cond c x y) E w :=
 fun a ha => wpIn_cond_split (ha.eval hc trivial) (fun h => ht h a ha) (fun h => hf h a ha)
def pick (E : Env) : List Nat → Option Env
 | [] => some []
 | i :: is => match look E i with
  | none => none
  | some (c, v) => match pick E is with
   | none => none
   | some E' => some ((i, c, v) :: E')
theorem look_pick {E : Env} : ∀ {is : List Nat} {E' : Env}, pick E is = some E' → ∀ i c v, look E' i = some (c, v) → look E i = some (c, v)
 | [], E', h, i, c, v, hl => by simp [pick] at h; subst h; simp [look] at hl
 | j :: is, E', h, i, c, v, hl => by
  simp only [pick] at h
  split at h
  ·cases h
  ·rename_i c' v' hj
   split at h
   ·cases h
   ·rename_i E'' hE
    simp only [Option.some.injEq] at h
    subst h
    simp only [look] at hl
    by_cases hi : j = i
    ·subst hi
     have e : Nat.beq j j = true := beq_self j
     rw [e] at hl
     simp only [Option.some.injEq, Prod.mk.injEq] at hl
     obtain ⟨rfl, rfl⟩ := hl
     exact hj
    ·have e : Nat.beq j i = false := beq_ne hi
     rw [e] at hl
     exact look_pick hE i c v hl
theorem Fit.pick {E E' : Env} {is : List Nat} {a : Act} (h : Fit N ds E a) (hp : PF.pick E is = some E') : Fit N ds E' a :=
 ⟨h.size, h.defers, fun i c v hl => h.slots i c v (look_pick hp i c v hl)⟩
theorem KW.pick {K : Act → World → Prop} {E : Env} {w : World} (is : List Nat) (E' : Env) (hp : PF.pick E is = some E') (h : KW N ds K E' w) : KW N ds K E w := fun a ha => h a (ha.pick hp)
theorem CW.pick {c : Code} {E : Env} {w : World} (is : List Nat) (E' : Env) (hp : PF.pick E is = some E') (h : CW P r Q N ds c E' w) : CW P r Q N ds c E w := fun a ha => h a (ha.pick hp)
theorem CW.loop {α : Type} {c : Code} {E0 : Env} {w : World} (E : α → Env) (J : α → World → Prop) (m : α → Nat) (x0 : α) (h0 : J x0 w) (hE : ∀ a, Fit N ds E0 a → Fit N ds (E x0) a)
  (round : ∀ x w, J x w → CW P r (Exit.then (fun a' w' => ∃ x', Fit N ds (E x') a' ∧ J x' w' ∧ m x' < m x) Q) N ds c (E x) w) : CW P r Q N ds (.loop c) E0 w := by
 classical
 intro a ha
 let I : Act → World → Prop := fun a w => ∃ x, Fit N ds (E x) a ∧ J x w
 let M : Act → World → Nat → Prop := fun a w n => ∃ x, Fit N ds (E x) a ∧ J x w ∧ m x = n
 have hex : ∀ a w, I a w → ∃ n, M a w n ∧ ∀ k, M a w k → n ≤ k := by
  intro a w ⟨x, h1, h2⟩
  have key : ∀ k, (∃ j, j ≤ k ∧ M a w j) → ∃ n, M a w n ∧ ∀ k, M a w k → n ≤ k := by
   intro k
   induction k with
   | zero =>
    rintro ⟨j, hj, hm⟩
    have : j = 0 := by omega
    subst this
    exact ⟨0, hm, fun k _ => Nat.zero_le k⟩
   | succ k ih =>
    rintro ⟨j, hj, hm⟩
    by_cases hk : ∃ j, j ≤ k ∧ M a w j
    ·exact ih hk
    ·refine ⟨j, hm, fun i hi => ?_⟩
     rcases Nat.lt_or_ge i j with hlt | hge
     ·exact absurd ⟨i, by omega, hi⟩ hk
     ·exact hge
  exact key (m x) ⟨m x, Nat.le_refl _, x, h1, h2, rfl⟩
 let μ : Act → World → Nat := fun a w => if h : I a w then Classical.choose (hex a w h) else 0
 have hμ : ∀ a w, I a w → ∃ x, Fit N ds (E x) a ∧ J x w ∧ m x = μ a w := by
  intro a w h
  have := (Classical.choose_spec (hex a w h)).1
  simpa [μ, h] using this
 have hμle : ∀ a w x, Fit N ds (E x) a → J x w → μ a w ≤ m x := by
  intro a w x h1 h2
  have hI : I a w := ⟨x, h1, h2⟩
  have := (Classical.choose_spec (hex a w hI)).2 (m x) ⟨x, h1, h2, rfl⟩
  simpa [μ, hI] using this
 refine wpIn_loop I μ ⟨x0, hE a ha, h0⟩ fun a1 w1 hI => ?_
 obtain ⟨x, h1, h2, h3⟩ := hμ a1 w1 hI
 refine wpIn_mono (round x w1 h2 a1 h1) fun e a2 w2 hq => ?_
 cases e with
 | normal =>
  obtain ⟨x', q1, q2, q3⟩ := hq
  exact ⟨⟨x', q1, q2⟩, by rw [← h3]; exact Nat.lt_of_le_of_lt (hμle a2 w2 x' q1 q2) q3⟩
 | _ => exact hq
end
end Go.PF
namespace Go.PF
open Go.RowKit
theorem ct {G : Option Bool} : Cnd G → Cnd none := fun _ => trivial
theorem candL {c b : Bool} : Cnd (some (c && b)) → Cnd (some c) := fun h => by simp only [Cnd, Bool.and_eq_true] at h ⊢; exact h.1
theorem pT {G : Option Bool} {q : Prop} : Cnd G → q → Cnd none := fun _ _ => trivial
theorem pOr0 {G : Option Bool} {b : Bool} : Cnd G → b = false → Cnd (some (!b)) := fun _ h => by rw [h]; rfl
theorem pOr1 {c b : Bool} : Cnd (some c) → b = false → Cnd (some (c && !b)) := fun hc h => by rw [h]; simpa [Cnd] using hc
theorem pAnd0 {G : Option Bool} {b : Bool} : Cnd G → b = true → Cnd (some b) := fun _ h => h
theorem pAnd1 {c b : Bool} : Cnd (some c) → b = true → Cnd (some (c && b)) := fun hc h => by rw [h]; simpa [Cnd] using hc
def Blk (w : World) (g : Nat) (t : TypeId) (cs : List Value) : Prop := w.heap[g]? = some (.cells cs.toArray t (0, 0))
theorem Blk.lt {w : World} {g : Nat} {t : TypeId} {cs : List Value} (h : Blk w g t cs) : g < w.heap.size := (Array.getElem?_eq_some_iff.1 h).1
theorem Blk.cell {w : World} {g : Nat} {t : TypeId} {cs : List Value} (h : Blk w g t cs) (i : Nat) : w.cell? ⟨g, i, none⟩ = cs[i]? := by
 unfold Blk at h; simp [World.cell?, h]
theorem Blk.fld {w : World} {g : Nat} {t : TypeId} {cs : List Value} (h : Blk w g t cs) {j : Nat} {v : Value} (hj : cs[j]? = some v) : w.cell? (Addr.add ⟨g, 0, none⟩ j) = some v := by
 have e : Addr.add ⟨g, 0, none⟩ j = ⟨g, j, none⟩ := by unfold Addr.add; split <;> simp_all
 rw [e, h.cell, hj]
theorem Blk.frozen {w : World} {g : Nat} {t : TypeId} {cs : List Value} (h : Blk w g t cs) (i : Nat) : w.frozen? ⟨g, i, none⟩ = false := by
 unfold Blk at h; simp [World.frozen?, h]
theorem Blk.below {w w' : World} {B g : Nat} {t : TypeId} {cs : List Value} (h : Blk w g t cs) (hb : Below B w w') (hg : g < B) : Blk w' g t cs := (hb.block g hg).trans h
theorem Blk.next {w w' : World} {g : Nat} {t : TypeId} {cs : List Value} (h : Blk w g t cs) (hb : Below w.heap.size w w') : Blk w' g t cs := h.below hb h.lt
theorem Blk.new (w : World) (t : TypeId) (cs : List Value) : Blk (w.alloc (.cells cs.toArray t)) w.heap.size t cs := heap_alloc_new w _
theorem Blk.set {w : World} {g : Nat} {t : TypeId} {cs : List Value} (h : Blk w g t cs) (i : Nat) (u : Value) : Blk (w.setCell ⟨g, i, none⟩ u) g t (cs.set i u) := by
 unfold Blk at h ⊢
 simp [World.setCell, Array.getElem?_modify, h]
theorem Blk.far {w : World} {g : Nat} {t : TypeId} {cs : List Value} (h : Blk w g t cs) {p : Addr} (hp : g ≠ p.block) (u : Value) : Blk (w.setCell p u) g t cs := (Below.heap_setCell w p u g hp).trans h
structure Fresh (w w' : World) (g : Nat) (t : TypeId) (cs : List Value) : Prop where
 at_ : g = w.heap.size
 size : w'.heap.size = g + 1
 below : Below w.heap.size w w'
 blk : Blk w' g t cs
theorem Fresh.mk' (w : World) (t : TypeId) (cs : List Value) : Fresh w (w.alloc (.cells cs.toArray t)) w.heap.size t cs :=
 ⟨rfl, by simp, (Below.refl _ _).alloc (Nat.le_refl _) _, Blk.new w t cs⟩
theorem below_alloc (w : World) (o : Obj) : Below w.heap.size w (w.alloc o) := (Below.refl _ _).alloc (Nat.le_refl _) o
theorem _root_.Go.RowKit.Below.step {w0 w w' : World} (h : Below w0.heap.size w0 w) (h' : Below w.heap.size w w') : Below w0.heap.size w0 w' := h.trans (h'.mono h.size)
section
variable {P : Program} {r : Option Nat} {Q : Exit → Act → World → Prop} {N : Nat} {ds : List Deferred} {ops rest : List Oper} {E : Env} {w : World} {G : Option Bool}
variable {d : Option Tmp} {ty : TypeId} {pos : String} {af : Array Edge} {gu : Option (Nat × Bool)}
theorem TW.val {o : Oper} {v : Value} (hg : gd ops E o.guard = some G) (hd : okDst N o.dst = true) (hn : noDefer o.op = true)
  (hrun : Cnd G → ∀ a, Fit N ds E a → (execOp a.eval o).run P w = .ok (.value v) w) (next : TW P r Q N ds ops rest (ins E o.dst G v) w) : TW P r Q N ds ops (o :: rest) E w := by
 intro a ha
 obtain ⟨h1, h2⟩ := wanted_of ha hg
 unfold wpListIn
 by_cases hc : Cnd G
 ·rw [if_pos (h1 hc)]
  refine ⟨fun _ _ => trivial, ?_⟩
  rw [semAt_of hn, hrun hc a ha]
  exact next _ (ha.put hd (fun _ => rfl) (fun h => absurd hc h))
 ·rw [if_neg (by rw [h2 hc]; simp)]
  exact ⟨fun _ _ => trivial, next _ (ha.put hd (fun h => absurd h hc) (fun _ => rfl))⟩
theorem TW.eff {o : Oper} {v : Value} {w' : World} (hg : o.guard = none) (hd : okDst N o.dst = true) (hn : noDefer o.op = true)
  (hrun : ∀ a, Fit N ds E a → (execOp a.eval o).run P w = .ok (.value v) w') (next : TW P r Q N ds ops rest (ins E o.dst none v) w') : TW P r Q N ds ops (o :: rest) E w := by
 intro a ha
 unfold wpListIn
 rw [if_pos (by simp [Region.wanted, hg])]
 refine ⟨fun _ _ => trivial, ?_⟩
 rw [semAt_of hn, hrun a ha]
 exact next _ (ha.put hd (fun _ => rfl) (fun h => absurd trivial h))
theorem TW.eff0 {o : Oper} {w' : World} (hg : o.guard = none) (hd : o.dst = none) (hn : noDefer o.op = true)
  (hrun : ∀ a, Fit N ds E a → (execOp a.eval o).run P w = .ok .skip w') (next : TW P r Q N ds ops rest E w') : TW P r Q N ds ops (o :: rest) E w := by
 intro a ha
 unfold wpListIn
 rw [if_pos (by simp [Region.wanted, hg])]
 refine ⟨fun _ _ => trivial, ?_⟩
 rw [semAt_of hn, hrun a ha]
 have := next _ ha
 simpa [Oper.uponIn, hd, Act.put] using this
def Gives (P : Program) (f : FuncId) (args : Array Value) (w : World) (R : Value → World → Prop) : Prop := Calls P f args w fun e w' => ∃ v, e = .returned v ∧ R v w'
theorem Gives.mono {f : FuncId} {args : Array Value} {R R' : Value → World → Prop} (h : Gives P f args w R) (hr : ∀ v w', R v w' → R' v w') : Gives P f args w R' :=
 Calls.mono h fun _ _ ⟨v, he, hR⟩ => ⟨v, he, hr v _ hR⟩
theorem callsIn_of {f : FuncId} {args : Array Value} {w : World} {R : Ending → World → Prop} (h : Calls P f args w R) : CallsIn (FR r) 0 P f args w R := by
 have h1 : CallsIn Fence.wide 0 P f args w R := callsIn_wide.2 h
 cases r with
 | none => exact h1
 | some l => exact h1
theorem TW.enter {o : Oper} {f : FuncId} {vs : Array Value} {R : Value → World → Prop} (hg : gd ops E o.guard = some G) (hd : okDst N o.dst = true) (hn : noDefer o.op = true)
  (hrun : Cnd G → ∀ a, Fit N ds E a → (execOp a.eval o).run P w = .ok (.enter f vs) w) (hc : Cnd G → Gives P f vs w R)
  (next : ∀ v w', (Cnd G → R v w') → (¬ Cnd G → w' = w) → TW P r Q N ds ops rest (ins E o.dst G v) w') : TW P r Q N ds ops (o :: rest) E w := by
 intro a ha
 obtain ⟨h1, h2⟩ := wanted_of ha hg
 unfold wpListIn
 by_cases hcG : Cnd G
 ·rw [if_pos (h1 hcG)]
  refine ⟨fun _ _ => trivial, ?_⟩
  rw [semAt_of hn, hrun hcG a ha]
  refine ⟨fun h => by simp [Fence.wide] at h, ?_⟩
  refine CallsIn.mono (callsIn_of (hc hcG)) ?_
  rintro e w' ⟨v, rfl, hR⟩
  exact next v w' (fun _ => hR) (fun h => absurd hcG h) _ (ha.put hd (fun _ => rfl) (fun h => absurd hcG h))
 ·rw [if_neg (by rw [h2 hcG]; simp)]
  exact ⟨fun _ _ => trivial, next undef w (fun h => absurd h hcG) (fun _ => rfl) _ (ha.put hd (fun h => absurd h hcG) (fun _ => rfl))⟩
theorem run_sizeOf {e : TypeId} {sz : Nat} (hs : (P.info? e).map (·.size) = some sz) (w : World) : (sizeOf e).run P w = .ok sz w := by
 cases hi : P.info? e with
 | none => simp [hi] at hs
 | some i => simp [hi] at hs; simp [sizeOf, typeInfo, hi, hs]
def one (P : Program) (t : TypeId) : Bool := match P.underlying t with
 | none | some (.struct _) | some (.array _ _) => false
 | _ => true
theorem run_loadVar1 {t : TypeId} (h1 : one P t = true) {ad : Addr} {v : Value} (hc : w.cell? ad = some v) : (loadVar t ad).run P w = .ok v w := by
 unfold one at h1
 cases hu : P.underlying t with
 | none => simp [hu] at h1
 | some dsc => cases dsc <;> first | (simp [hu] at h1; done) | simp [loadVar, isAgg, run_underlying hu, hc]
theorem run_loadVarS {t : TypeId} {fs : Array Field} (hu : P.underlying t = some (.struct fs)) {cs : List Value} (hs : (P.info? t).map (·.size) = some cs.length) {ad : Addr} (hc : ∀ j v, cs[j]? = some v → w.cell? (ad.add j) = some v) :
  (loadVar t ad).run P w = .ok (.agg cs.toArray) w := by
 simp [loadVar, isAgg, run_underlying hu, run_sizeOf hs, run_loadCells_list w ad cs hc]
def zeroCells (P : Program) (t : TypeId) : Option (List Value) := ((P.info? t).bind (·.zero)).map fun v => v.cells.toList
def enters (P : Program) (f : FuncId) : Bool := match P.funcs[f]? with
 | some fn => !(fn.name == "runtime.NumGoroutine") && fn.body.isSome
 | none => false
theorem run_enters {f : FuncId} (h : enters P f = true) (args : Array Value) (w : World) : (callFunc f args).run P w = .ok (.enter f args) w := by
 unfold enters at h
 cases hf : P.funcs[f]? with
 | none => simp [hf] at h
 | some fn =>
  simp only [hf, Bool.and_eq_true, Bool.not_eq_true'] at h
  obtain ⟨h1, h2⟩ := h
  have h3 : ¬ fn.body = none := by cases hb : fn.body <;> simp_all
  have h4 : ¬ fn.name = "runtime.NumGoroutine" := by simpa using h1
  simp [callFunc, hf, h4, h3]
end
end Go.PF
namespace Go.PF
open Go.RowKit
def argEnv : List Value → Nat → Env
 | [], _ => []
 | v :: vs, i => (i, none, v) :: argEnv vs (i + 1)
theorem look_argEnv : ∀ (vs : List Value) (k i : Nat) (c : Option Bool) (v : Value), look (argEnv vs k) i = some (c, v) → c = none ∧ k ≤ i ∧ vs[i - k]? = some v
 | [], k, i, c, v, h => by simp [argEnv, look] at h
 | u :: vs, k, i, c, v, h => by
  simp only [argEnv, look] at h
  by_cases hi : k = i
  ·subst hi
   rw [beq_self] at h
   simp only [Option.some.injEq, Prod.mk.injEq] at h
   obtain ⟨rfl, rfl⟩ := h
   simp
  ·rw [beq_ne hi] at h
   obtain ⟨h1, h2, h3⟩ := look_argEnv vs (k + 1) i c v h
   refine ⟨h1, by omega, ?_⟩
   have : i - k = (i - (k + 1)) + 1 := by omega
   rw [this]; simpa using h3
section
variable {P : Program} {r : Option Nat} {Q : Exit → Act → World → Prop} {N : Nat} {ds : List Deferred} {E : Env} {w : World}
theorem fit_args {vs : List Value} (hle : vs.length ≤ N) : Fit N [] (argEnv vs 0) { tmps := vs.toArray ++ Array.replicate (N - vs.toArray.size) undef, defers := [] } := by
 refine ⟨by simp; omega, rfl, fun i c v h => ?_⟩
 obtain ⟨rfl, _, h3⟩ := look_argEnv vs 0 i c v h
 refine ⟨fun _ => ?_, fun h => absurd trivial h⟩
 have hlt : i < vs.length := by
  rcases Nat.lt_or_ge i vs.length with h | h
  ·exact h
  ·simp [List.getElem?_eq_none h] at h3
 simp only [Nat.sub_zero] at h3
 rw [List.getElem?_eq_getElem hlt] at h3
 simp only [Option.some.injEq] at h3
 simp [Array.getElem?_append, hlt, h3]
theorem gives_of {f : FuncId} {fn : Func} {c : Code} {vs : List Value} {R : Value → World → Prop} (E0 : Env) (hf : P.funcs[f]? = some fn) (hb : fn.body = some c) (hn : fn.ntmps = N) (hle : Nat.ble vs.length N = true) (hE : argEnv vs 0 = E0)
  (h : CW P none (bodyPost P fn fun e w' => ∃ v, e = .returned v ∧ R v w') N [] c E0 w) : Gives P f vs.toArray w R := by
 unfold Gives
 have hle' : vs.length ≤ N := Nat.le_of_ble_eq_true hle
 refine (callsIn_wide (n := 0)).1 (callsIn_of_wp hf hb trivial ?_)
 rw [hn]
 exact h _ (hE ▸ fit_args hle')
theorem gives_ofM {f : FuncId} {fn : Func} {c : Code} {vs : List Value} {R : Value → World → Prop} (E0 : Env) (hf : P.funcs[f]? = some fn) (hb : fn.body = some c) (hn : fn.ntmps = N) (hle : Nat.ble vs.length N = true) (hE : argEnv vs 0 = E0)
  (h : CW P none (bodyPostM (FR none) 0 P fn fun e w' => ∃ v, e = .returned v ∧ R v w') N [] c E0 w) : Gives P f vs.toArray w R := by
 unfold Gives
 have hle' : vs.length ≤ N := Nat.le_of_ble_eq_true hle
 refine (callsIn_wide (n := 0)).1 (callsIn_of_wp_marks hf hb trivial ?_)
 rw [hn]
 exact h _ (hE ▸ fit_args hle')
theorem KW.then_ {y : Code} (h : CW P r Q N ds y E w) : KW N ds (Exit.then (y.wpIn (FR r) 0 P Q) Q .normal) E w := h
theorem KW.thenX {K : Act → World → Prop} {id : Nat} (h : KW N ds (Q (.exit id)) E w) : KW N ds (Exit.then K Q (.exit id)) E w := h
theorem KW.thenR {K : Act → World → Prop} (h : KW N ds (Q .ret) E w) : KW N ds (Exit.then K Q .ret) E w := h
theorem KW.blockN {id : Nat} (h : KW N ds (Q .normal) E w) : KW N ds (Exit.inBlock id Q .normal) E w := h
theorem KW.blockR {id : Nat} (h : KW N ds (Q .ret) E w) : KW N ds (Exit.inBlock id Q .ret) E w := h
theorem KW.blockX {id : Nat} (h : KW N ds (Q .normal) E w) : KW N ds (Exit.inBlock id Q (.exit id)) E w := fun a ha => by
 simp only [Exit.inBlock, if_true]; exact h a ha
theorem KW.blockY {id id' : Nat} (hne : Nat.beq id' id = false) (h : KW N ds (Q (.exit id')) E w) : KW N ds (Exit.inBlock id Q (.exit id')) E w := fun a ha => by
 have : id' ≠ id := fun e => by rw [e, beq_self] at hne; cases hne
 simp only [Exit.inBlock, if_neg this]; exact h a ha
theorem KW.round {α : Type} {F : α → Env} {J : α → World → Prop} {m : α → Nat} {x : α} (x' : α) (is : List Nat) (hp : PF.pick E is = some (F x')) (hJ : J x' w) (hm : m x' < m x) :
  KW N ds (Exit.then (fun a' w' => ∃ x', Fit N ds (F x') a' ∧ J x' w' ∧ m x' < m x) Q .normal) E w :=
 fun _ ha => ⟨x', ha.pick hp, hJ, hm⟩
theorem CW.loopS {α : Type} {c : Code} (F : α → Env) (J : α → World → Prop) (m : α → Nat) (x0 : α) (is : List Nat) (h0 : J x0 w) (hE : PF.pick E is = some (F x0))
  (round : ∀ x w, J x w → CW P r (Exit.then (fun a' w' => ∃ x', Fit N ds (F x') a' ∧ J x' w' ∧ m x' < m x) Q) N ds c (F x) w) : CW P r Q N ds (.loop c) E w :=
 CW.loop F J m x0 h0 (fun _ ha => ha.pick hE) round
theorem CW.condP {c : Operand} {x y : Code} {p : Prop} [Decidable p] (hc : ev E c = some (none, .bool (decide p))) (ht : p → CW P r Q N ds x E w) (hf : ¬ p → CW P r Q N ds y E w) : CW P r Q N ds (.cond c x y) E w :=
 CW.cond hc (fun h => ht (of_decide_eq_true h)) (fun h => hf (of_decide_eq_false h))
variable {fn : Func} {R : Value → World → Prop}
theorem ret0 (hres : fn.results = #[]) (hR : R (.tuple #[]) w) : KW N [] (bodyPost P fn (fun e w' => ∃ v, e = .returned v ∧ R v w') .ret) E w := fun _ ha =>
 bodyPost_ret (results_none hres _ _ _) ha.defers ⟨_, rfl, hR⟩
theorem end0 (hres : fn.results = #[]) (hR : R (.tuple #[]) w) : KW N [] (bodyPost P fn (fun e w' => ∃ v, e = .returned v ∧ R v w') .normal) E w := fun a ha =>
 (bodyPost_ret (R := fun e w' => ∃ v, e = .returned v ∧ R v w') (results_none hres a.tmps P w) ha.defers ⟨_, rfl, hR⟩ : bodyPost P fn _ .ret a w)
theorem ret1 {s : Nat} {v : Value} (hres : fn.results = #[.tmp s]) (hs : look E s = some (none, v)) (hR : R v w) : KW N [] (bodyPost P fn (fun e w' => ∃ v, e = .returned v ∧ R v w') .ret) E w := fun a ha =>
 bodyPost_ret (R := fun e w' => ∃ v, e = .returned v ∧ R v w') (results_tmp hres a.tmps P w) ha.defers ⟨_, rfl, by rw [(ha.slots s none v hs).1 trivial]; exact hR⟩
theorem ret2 {s t : Nat} {v u : Value} (hres : fn.results = #[.tmp s, .tmp t]) (hs : look E s = some (none, v)) (ht : look E t = some (none, u)) (hR : R (.tuple #[v, u]) w) :
  KW N [] (bodyPost P fn (fun e w' => ∃ v, e = .returned v ∧ R v w') .ret) E w := fun a ha =>
 bodyPost_ret (R := fun e w' => ∃ v, e = .returned v ∧ R v w') (results_tmp2 hres a.tmps P w) ha.defers ⟨_, rfl, by rw [(ha.slots s none v hs).1 trivial, (ha.slots t none u ht).1 trivial]; exact hR⟩
end
end Go.PF
namespace Go.PF
open Go.RowKit
inductive Ent where
 | ex (v : Value)
 | pr (φ : Value → World → Prop)
 | own (φ : Value → World → Prop) (S : Value → Nat → Prop)
def Ent.sat : Ent → Value → World → Prop
 | .ex v, u, _ => u = v
 | .pr φ, u, w => φ u w
 | .own φ _, u, w => φ u w
def Ent.mono : Ent → Prop
 | .ex _ => True
 | .pr φ => ∀ v w w', Below w.heap.size w w' → φ v w → φ v w'
 | .own φ _ => ∀ v w w', Below w.heap.size w w' → φ v w → φ v w'
def Ent.foot : Ent → Value → Nat → Prop
 | .own _ S, v, g => S v g
 | _, _, _ => False
def Ent.strong (w0 : World) : Ent → Prop
 | .ex _ => True
 | .pr φ => ∀ v w w', Below w0.heap.size w w' → φ v w → φ v w'
 | .own φ S => (∀ v w w', Below w0.heap.size w w' → (∀ g, S v g → w'.heap[g]? = w.heap[g]?) → φ v w → φ v w') ∧ ∀ v w, φ v w → ∀ g, S v g → w0.heap.size ≤ g ∧ g < w.heap.size
inductive Mode where
 | weak
 | own
 | cnt
theorem Ent.sat_mono {e : Ent} (hm : e.mono) {v : Value} {w w' : World} (hb : Below w.heap.size w w') (h : e.sat v w) : e.sat v w' := by
 cases e with
 | ex u => exact h
 | pr φ => exact hm v w w' hb h
 | own φ S => exact hm v w w' hb h
abbrev DE := List (Nat × Option Bool × Ent)
def dlook : DE → Nat → Option (Option Bool × Ent)
 | [], _ => none
 | (j, c, e) :: D, i => match Nat.beq j i with
  | true => some (c, e)
  | false => dlook D i
def dins (D : DE) (d : Option Tmp) (c : Option Bool) (e : Ent) : DE :=
 match d with
 | none => D
 | some d => (d, c, e) :: D
def slotOK (c : Option Bool) (e : Ent) (u : Value) (w : World) : Prop := (Cnd c → e.sat u w) ∧ (¬ Cnd c → u = undef)
structure FitL (N : Nat) (ds : List Deferred) (L : List Nat) (D : DE) (a : Act) (w : World) : Prop where
 size : a.tmps.size = N
 defers : a.defers = ds
 slots : ∀ i ∈ L, ∀ c e, dlook D i = some (c, e) → slotOK c e (a.tmps.getD i undef) w
structure FitD (N : Nat) (ds : List Deferred) (D : DE) (a : Act) (w : World) : Prop where
 size : a.tmps.size = N
 defers : a.defers = ds
 slots : ∀ i c e, dlook D i = some (c, e) → slotOK c e (a.tmps.getD i undef) w
def dgd (ops : List Oper) (D : DE) : Option (Nat × Bool) → Option (Option Bool)
 | none => some none
 | some (j, want) => match (ops[j]?).bind (·.dst) with
  | none => none
  | some d => match dlook D d with
   | some (none, .ex (.bool b)) => match want with
    | true => some (some b)
    | false => some (some (!b))
   | some (some c, .ex (.bool b)) => match want with
    | true => some (some (c && b))
    | false => some (some (c && !b))
   | _ => none
def guardDst (ops : List Oper) (o : Oper) : Option Nat := match o.guard with
 | some (g, _) => (ops[g]?).bind (·.dst)
 | none => none
theorem dwanted_of {N : Nat} {ds : List Deferred} {L : List Nat} {D : DE} {a : Act} {w : World} {ops : List Oper} {o : Oper} {G : Option Bool} (h : FitL N ds L D a w) (hL : ∀ d, guardDst ops o = some d → d ∈ L) (hg : dgd ops D o.guard = some G) :
  (Cnd G → Region.wanted o (yielded ops.toArray a.tmps) = true) ∧ (¬ Cnd G → Region.wanted o (yielded ops.toArray a.tmps) = false) := by
 unfold guardDst at hL
 unfold Region.wanted
 cases hgu : o.guard with
 | none => rw [hgu] at hg; simp [dgd] at hg; subst hg; simp [Cnd]
 | some p =>
  obtain ⟨j, want⟩ := p
  rw [hgu] at hg hL
  simp only [dgd] at hg
  cases hd : (ops[j]?).bind (·.dst) with
  | none => rw [hd] at hg; simp at hg
  | some d =>
   rw [hd] at hg
   have hdL : d ∈ L := hL d (by simpa using hd)
   simp only at hg
   simp only [yielded_eq, hd, Option.bind_some]
   split at hg
   ·rename_i b hl
    have h1 : a.tmps.getD d undef = .bool b := (h.slots d hdL none (.ex (.bool b)) hl).1 trivial
    have h2 : a.tmps[d]? = some (.bool b) := by
     rcases Nat.lt_or_ge d a.tmps.size with hlt | hge
     ·exact getElem?_getD hlt h1
     ·simp [Array.getElem?_eq_none hge, undef] at h1
    rw [h2]
    cases want <;> simp at hg <;> subst hg <;> simp [Cnd, boolOf]
   ·rename_i c b hl
    obtain ⟨h1, h1'⟩ := h.slots d hdL (some c) (.ex (.bool b)) hl
    cases c with
    | true =>
     have h1 : a.tmps.getD d undef = .bool b := h1 rfl
     have h2 : a.tmps[d]? = some (.bool b) := by
      rcases Nat.lt_or_ge d a.tmps.size with hlt | hge
      ·exact getElem?_getD hlt h1
      ·simp [Array.getElem?_eq_none hge, undef] at h1
     rw [h2]
     cases want <;> simp at hg <;> subst hg <;> simp [Cnd, boolOf]
    | false =>
     have h1' := h1' (by simp [Cnd])
     have h2 : ∀ b, a.tmps[d]? ≠ some (.bool b) := by
      intro b hb
      simp [hb, undef] at h1'
     rw [boolOf_ne h2]
     cases want <;> simp at hg <;> subst hg <;> simp [Cnd]
   ·cases hg
def OpGives (P : Program) (o : Oper) (a : Act) (w : World) (e : Ent) : Prop :=
 (∃ v w', (execOp a.eval o).run P w = .ok (.value v) w' ∧ Below w.heap.size w w' ∧ e.sat v w') ∨
 (∃ f vs, (execOp a.eval o).run P w = .ok (.enter f vs) w ∧ Gives P f vs w fun v w' => Below w.heap.size w w' ∧ e.sat v w')
def DOne (P : Program) (N : Nat) (ds : List Deferred) (ops : List Oper) (w0 : World) (o : Oper) (D : DE) (G : Option Bool) (e : Ent) : Prop :=
 dgd ops D o.guard = some G ∧ okDst N o.dst = true ∧ noDefer o.op = true ∧ e.mono ∧
 (Cnd G → ∀ a w, Below w0.heap.size w0 w → FitL N ds (o.looksAt ops.toArray) D a w → OpGives P o a w e)
def hasN : List Nat → Nat → Bool
 | [], _ => false
 | j :: s, i => match Nat.beq j i with
  | true => true
  | false => hasN s i
def ddrop : DE → List Nat → DE
 | [], _ => []
 | (j, c, e) :: D, s => match hasN s j with
  | true => ddrop D s
  | false => (j, c, e) :: ddrop D s
def EatF (D : DE) (eats : List Nat) (a : Act) (g : Nat) : Prop := ∃ s c e, hasN eats s = true ∧ dlook D s = some (c, e) ∧ Cnd c ∧ e.foot (a.tmps.getD s undef) g
def StepO (w0 w w' : World) (E : Nat → Prop) : Prop := Below w0.heap.size w w' ∧ ∀ b, w0.heap.size ≤ b → b < w.heap.size → ¬ E b → w'.heap[b]? = w.heap[b]?
def OpGivesO (P : Program) (w0 : World) (o : Oper) (a : Act) (w : World) (e : Ent) (E : Nat → Prop) : Prop :=
 (∃ v w', (execOp a.eval o).run P w = .ok (.value v) w' ∧ StepO w0 w w' E ∧ e.sat v w' ∧ ∀ g, e.foot v g → E g ∨ w.heap.size ≤ g) ∨
 (∃ f vs, (execOp a.eval o).run P w = .ok (.enter f vs) w ∧ Gives P f vs w fun v w' => StepO w0 w w' E ∧ e.sat v w' ∧ ∀ g, e.foot v g → E g ∨ w.heap.size ≤ g)
def sole (ops : List Oper) (o : Oper) (eats : List Nat) : Bool := eats.all fun s => (o.looksAt ops.toArray).contains s && Nat.ble (ops.filter fun p => (p.looksAt ops.toArray).contains s).length 1
def DOneO (P : Program) (N : Nat) (ds : List Deferred) (ops : List Oper) (w0 : World) (o : Oper) (D : DE) (G : Option Bool) (e : Ent) (eats : List Nat) : Prop :=
 dgd ops D o.guard = some G ∧ okDst N o.dst = true ∧ noDefer o.op = true ∧ e.strong w0 ∧ sole ops o eats = true ∧ (∀ s, s ∈ eats → ∃ c φ S, dlook D s = some (c, .own φ S)) ∧
 (Cnd G → ∀ a w, Below w0.heap.size w0 w → FitL N ds (o.looksAt ops.toArray) D a w → OpGivesO P w0 o a w e (EatF D eats a))
def OpGivesC (P : Program) (o : Oper) (a : Act) (w : World) (e : Ent) : Prop :=
 (∃ v w', (execOp a.eval o).run P w = .ok (.value v) w' ∧ (Below w.heap.size w w' ∧ w.drawn ≤ w'.drawn) ∧ e.sat v w') ∨
 (∃ f vs, (execOp a.eval o).run P w = .ok (.enter f vs) w ∧ Gives P f vs w fun v w' => (Below w.heap.size w w' ∧ w.drawn ≤ w'.drawn) ∧ e.sat v w')
def DOneC (P : Program) (N : Nat) (ds : List Deferred) (ops : List Oper) (w0 : World) (o : Oper) (D : DE) (G : Option Bool) (e : Ent) : Prop :=
 dgd ops D o.guard = some G ∧ okDst N o.dst = true ∧ noDefer o.op = true ∧ e.mono ∧
 (Cnd G → ∀ a w, Below w0.heap.size w0 w → FitL N ds (o.looksAt ops.toArray) D a w → OpGivesC P o a w e)
def DW (P : Program) (N : Nat) (ds : List Deferred) (m : Mode) (ops : List Oper) (w0 : World) (Fin : DE → Prop) : List Oper → DE → Prop
 | [], D => Fin D
 | o :: rest, D => match m with
  | .weak => ∃ G e, DOne P N ds ops w0 o D G e ∧ DW P N ds .weak ops w0 Fin rest (dins D o.dst G e)
  | .own => ∃ G e eats, DOneO P N ds ops w0 o D G e eats ∧ DW P N ds .own ops w0 Fin rest (dins (ddrop D eats) o.dst G e)
  | .cnt => ∃ G e, DOneC P N ds ops w0 o D G e ∧ DW P N ds .cnt ops w0 Fin rest (dins D o.dst G e)
theorem ddrop_nil : ∀ D : DE, ddrop D [] = D
 | [] => rfl
 | (j, c, e) :: D => by simp [ddrop, hasN, ddrop_nil D]
def lexOK (ops : List Oper) : Bool :=
 ops.zipIdx.all fun (o, i) =>
  (o.after.all fun e => !Region.binds .any e || Nat.blt e.on i) &&
  ops.zipIdx.all fun (p, k) => match p.dst with
   | none => true
   | some d => (Nat.beq k i || o.dst != some d) &&
    (!(o.looksAt ops.toArray).contains d ||
     (if Nat.blt k i then o.after.any (fun e => Region.binds .any e && Nat.beq e.on k) else (Nat.beq k i || p.after.any (fun e => Region.binds .any e && Nat.beq e.on i))))
theorem blt_iff {a b : Nat} : Nat.blt a b = true ↔ a < b := by
 unfold Nat.blt
 exact ⟨fun h => Nat.le_of_ble_eq_true h, fun h => Nat.ble_eq_true_of_le h⟩
section sound
variable {P : Program} {r : Option Nat} {Q : Exit → Act → World → Prop} {N : Nat} {ds : List Deferred} {ops : List Oper} {w0 : World}
theorem lexOK_spec (h : lexOK ops = true) {i k : Nat} {o p : Oper} (ho : ops[i]? = some o) (hp : ops[k]? = some p) :
  (∀ e ∈ o.after, Region.binds .any e = true → e.on < i) ∧ ∀ d, p.dst = some d → (k = i ∨ o.dst ≠ some d) ∧
   (d ∈ o.looksAt ops.toArray → (k < i → ∃ e ∈ o.after, Region.binds .any e = true ∧ e.on = k) ∧ (i ≤ k → k = i ∨ ∃ e ∈ p.after, Region.binds .any e = true ∧ e.on = i)) := by
 unfold lexOK at h
 rw [List.all_eq_true] at h
 have h1 := h (o, i) (by rw [List.mem_zipIdx_iff_getElem?]; simpa using ho)
 simp only [Bool.and_eq_true, List.all_eq_true] at h1
 obtain ⟨h1, h2⟩ := h1
 refine ⟨fun e he hbi => ?_, fun d hd => ?_⟩
 ·rw [Array.all_eq_true'] at h1
  have := h1 e he
  rw [hbi] at this
  exact blt_iff.1 (by simpa using this)
 ·have h3 := h2 (p, k) (by rw [List.mem_zipIdx_iff_getElem?]; simpa using hp)
  simp only [hd, Bool.and_eq_true, Bool.or_eq_true] at h3
  obtain ⟨h3, h4⟩ := h3
  refine ⟨?_, fun hm => ?_⟩
  ·rcases h3 with h3 | h3
   ·exact .inl (Nat.eq_of_beq_eq_true h3)
   ·right; simpa using h3
  ·rcases h4 with h4 | h4
   ·simp at h4; exact absurd hm h4
   ·refine ⟨fun hlt => ?_, fun hge => ?_⟩
    ·have hb : Nat.blt k i = true := blt_iff.2 hlt
     rw [hb, if_pos rfl] at h4
     rw [Array.any_eq_true'] at h4
     obtain ⟨e, he, h5⟩ := h4
     simp only [Bool.and_eq_true] at h5
     exact ⟨e, he, h5.1, Nat.eq_of_beq_eq_true h5.2⟩
    ·have hb : Nat.blt k i = false := by
      cases hq : Nat.blt k i with
      | false => rfl
      | true => exact absurd (blt_iff.1 hq) (by omega)
     rw [hb] at h4
     simp only [Bool.false_eq_true, if_false, Bool.or_eq_true] at h4
     rcases h4 with h4 | h4
     ·exact .inl (Nat.eq_of_beq_eq_true h4)
     ·rw [Array.any_eq_true'] at h4
      obtain ⟨e, he, h5⟩ := h4
      simp only [Bool.and_eq_true] at h5
      exact .inr ⟨e, he, h5.1, Nat.eq_of_beq_eq_true h5.2⟩
theorem looks_guard {o : Oper} {d : Nat} (h : guardDst ops o = some d) : d ∈ o.looksAt ops.toArray := by
 unfold guardDst at h
 unfold Oper.looksAt
 cases hg : o.guard with
 | none => rw [hg] at h; cases h
 | some p =>
  obtain ⟨g, b⟩ := p
  rw [hg] at h
  simp only [List.mem_append]
  right
  simp only [List.getElem?_toArray]
  simp at h ⊢
  exact h
def lift : Env → DE
 | [] => []
 | (i, c, v) :: E => (i, c, .ex v) :: lift E
theorem dlook_lift : ∀ (E : Env) (i : Nat), dlook (lift E) i = (look E i).map fun p => (p.1, Ent.ex p.2)
 | [], i => rfl
 | (j, c, v) :: E, i => by
  simp only [lift, dlook, look]
  cases Nat.beq j i with
  | true => rfl
  | false => exact dlook_lift E i
end sound
section steps
variable {P : Program} {N : Nat} {ds : List Deferred} {ops rest : List Oper} {w : World} {D : DE} {G : Option Bool} {Fin : DE → Prop}
def dev (D : DE) : Operand → Option (Option Bool × Ent)
 | .tmp t => dlook D t
 | .const v => some (none, .ex v)
 | .global g => some (none, .ex (.pointer (some ⟨g, 0, none⟩)))
 | .func f => some (none, .ex (.func (.func f) #[] #[]))
theorem mem_looks {o : Oper} {t : Nat} (h : Operand.tmp t ∈ o.op.operands.toList) : t ∈ o.looksAt ops.toArray := by
 unfold Oper.looksAt
 rw [List.mem_append]
 left
 rw [List.mem_filterMap]
 exact ⟨.tmp t, h, rfl⟩
theorem FitL.sat {L : List Nat} {a : Act} (h : FitL N ds L D a w) {x : Operand} {c : Option Bool} {e : Ent} (hx : dev D x = some (c, e)) (hL : ∀ t, x = .tmp t → t ∈ L) (hc : Cnd c) : e.sat (a.eval x) w := by
 cases x with
 | tmp t => exact (h.slots t (hL t rfl) c e hx).1 hc
 | const u => simp [dev] at hx; rw [← hx.2]; rfl
 | global g => simp [dev] at hx; rw [← hx.2]; rfl
 | func f => simp [dev] at hx; rw [← hx.2]; rfl
theorem FitL.evalL {L : List Nat} {a : Act} (h : FitL N ds L D a w) {x : Operand} {c : Option Bool} {v : Value} (hx : dev D x = some (c, .ex v)) (hL : ∀ t, x = .tmp t → t ∈ L) (hc : Cnd c) : a.eval x = v := h.sat hx hL hc
theorem FitL.eval {o : Oper} {a : Act} (h : FitL N ds (o.looksAt ops.toArray) D a w) {x : Operand} {c : Option Bool} {v : Value} (hx : dev D x = some (c, .ex v)) (hm : x ∈ o.op.operands.toList) (hc : Cnd c) : a.eval x = v :=
 h.evalL hx (fun _ ht => mem_looks (ht ▸ hm)) hc
theorem FitL.evalP {o : Oper} {a : Act} (h : FitL N ds (o.looksAt ops.toArray) D a w) {x : Operand} {c : Option Bool} {φ : Value → World → Prop} (hx : dev D x = some (c, .pr φ)) (hm : x ∈ o.op.operands.toList) (hc : Cnd c) : φ (a.eval x) w :=
 h.sat hx (fun _ ht => mem_looks (ht ▸ hm)) hc
theorem DW.nil {m : Mode} (h : Fin D) : DW P N ds m ops w Fin [] D := by cases m <;> exact h
theorem DW.val {m : Mode} {o : Oper} {v : Value} (hg : dgd ops D o.guard = some G) (hd : okDst N o.dst = true) (hn : noDefer o.op = true)
  (hrun : Cnd G → ∀ a w', Below w.heap.size w w' → FitL N ds (o.looksAt ops.toArray) D a w' → (execOp a.eval o).run P w' = .ok (.value v) w') (next : DW P N ds m ops w Fin rest (dins D o.dst G (.ex v))) : DW P N ds m ops w Fin (o :: rest) D := by
 cases m with
 | weak => exact ⟨G, .ex v, ⟨hg, hd, hn, trivial, fun hG a w' hb ha => .inl ⟨v, w', hrun hG a w' hb ha, Below.refl _ _, rfl⟩⟩, next⟩
 | own => exact ⟨G, .ex v, [], ⟨hg, hd, hn, trivial, rfl, fun s hs => by simp at hs, fun hG a w' hb ha => .inl ⟨v, w', hrun hG a w' hb ha, ⟨Below.refl _ _, fun _ _ _ _ => rfl⟩, rfl, fun _ h => h.elim⟩⟩, by rw [ddrop_nil]; exact next⟩
 | cnt => exact ⟨G, .ex v, ⟨hg, hd, hn, trivial, fun hG a w' hb ha => .inl ⟨v, w', hrun hG a w' hb ha, ⟨Below.refl _ _, Nat.le_refl _⟩, rfl⟩⟩, next⟩
theorem DW.gen {o : Oper} {e : Ent} (hg : dgd ops D o.guard = some G) (hd : okDst N o.dst = true) (hn : noDefer o.op = true) (hm : e.mono)
  (hrun : Cnd G → ∀ a w', Below w.heap.size w w' → FitL N ds (o.looksAt ops.toArray) D a w' → ∃ v w'', (execOp a.eval o).run P w' = .ok (.value v) w'' ∧ Below w'.heap.size w' w'' ∧ e.sat v w'') (next : DW P N ds .weak ops w Fin rest (dins D o.dst G e)) : DW P N ds .weak ops w Fin (o :: rest) D :=
 ⟨G, e, ⟨hg, hd, hn, hm, fun hG a w' hb ha => .inl (hrun hG a w' hb ha)⟩, next⟩
theorem DW.enter {o : Oper} {e : Ent} (hg : dgd ops D o.guard = some G) (hd : okDst N o.dst = true) (hn : noDefer o.op = true) (hm : e.mono)
  (hrun : Cnd G → ∀ a w', Below w.heap.size w w' → FitL N ds (o.looksAt ops.toArray) D a w' → ∃ f vs, (execOp a.eval o).run P w' = .ok (.enter f vs) w' ∧ Gives P f vs w' fun v w'' => Below w'.heap.size w' w'' ∧ e.sat v w'') (next : DW P N ds .weak ops w Fin rest (dins D o.dst G e)) : DW P N ds .weak ops w Fin (o :: rest) D :=
 ⟨G, e, ⟨hg, hd, hn, hm, fun hG a w' hb ha => .inr (hrun hG a w' hb ha)⟩, next⟩
def dpick (D : DE) : List Nat → Option Env
 | [] => some []
 | i :: is => match dlook D i with
  | some (c, .ex v) => match dpick D is with
   | some E => some ((i, c, v) :: E)
   | none => none
  | _ => none
theorem look_dpick {D : DE} : ∀ {is : List Nat} {E : Env}, dpick D is = some E → ∀ i c v, look E i = some (c, v) → dlook D i = some (c, .ex v)
 | [], E, h, i, c, v, hl => by simp [dpick] at h; subst h; simp [look] at hl
 | j :: is, E, h, i, c, v, hl => by
  simp only [dpick] at h
  split at h
  ·rename_i c' v' hj
   split at h
   ·rename_i E' hE
    simp only [Option.some.injEq] at h
    subst h
    simp only [look] at hl
    by_cases hi : j = i
    ·subst hi
     rw [beq_self] at hl
     simp only [Option.some.injEq, Prod.mk.injEq] at hl
     obtain ⟨rfl, rfl⟩ := hl
     exact hj
    ·rw [beq_ne hi] at hl
     exact look_dpick hE i c v hl
   ·cases h
  ·cases h
theorem FitD.pick {E : Env} {is : List Nat} {a : Act} (h : FitD N ds D a w) (hp : dpick D is = some E) : Fit N ds E a :=
 ⟨h.size, h.defers, fun i c v hl => h.slots i c (.ex v) (look_dpick hp i c v hl)⟩
theorem DW.fin {K : Act → World → Prop} (is : List Nat) (E : Env) (hp : dpick D is = some E) (h : ∀ w', Below w.heap.size w w' → KW N ds K E w') : ∀ a w', Below w.heap.size w w' → FitD N ds D a w' → K a w' :=
 fun a w' hb ha => h w' hb a (ha.pick hp)
end steps
end Go.PF
