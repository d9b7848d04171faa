/- What every rule leans on. -/
import Derived.Test.YthldjchogdefjaaDoorFw
import Derived.Laws.Tables
import Derived.Laws.Rows
import Derived.Great.BuildSlice
namespace Go.PF
open Go.RowKit

theorem ct {G : Option Bool} : Cnd G → Cnd none := fun _ => trivial
theorem candL {c b : Bool} : Cnd (some (c && b)) → Cnd (some c) := fun h => by simp only [Cnd, Bool.and_eq_true] at h ⊢; exact h.1
theorem candR {c b : Bool} : Cnd (some (c && b)) → Cnd (some b) := fun h => by simp only [Cnd, Bool.and_eq_true] at h ⊢; exact h.2

theorem pT {G : Option Bool} {q : Prop} : Cnd G → q → Cnd none := fun _ _ => trivial
theorem pOr0 {G : Option Bool} {b : Bool} : Cnd G → b = false → Cnd (some (!b)) := fun _ h => by rw [h]; rfl
theorem pOr1 {c b : Bool} : Cnd (some c) → b = false → Cnd (some (c && !b)) := fun hc h => by rw [h]; simpa [Cnd] using hc
theorem pAnd0 {G : Option Bool} {b : Bool} : Cnd G → b = true → Cnd (some b) := fun _ h => h
theorem pAnd1 {c b : Bool} : Cnd (some c) → b = true → Cnd (some (c && b)) := fun hc h => by rw [h]; simpa [Cnd] using hc

/-- A block that is known whole, nothing of it frozen. -/
def Blk (w : World) (g : Nat) (t : TypeId) (cs : List Value) : Prop := w.heap[g]? = some (.cells cs.toArray t (0, 0))

theorem Blk.lt {w : World} {g : Nat} {t : TypeId} {cs : List Value} (h : Blk w g t cs) : g < w.heap.size := (Array.getElem?_eq_some_iff.1 h).1
theorem Blk.cell {w : World} {g : Nat} {t : TypeId} {cs : List Value} (h : Blk w g t cs) (i : Nat) : w.cell? ⟨g, i, none⟩ = cs[i]? := by
  unfold Blk at h; simp [World.cell?, h]
theorem Blk.fld {w : World} {g : Nat} {t : TypeId} {cs : List Value} (h : Blk w g t cs) {j : Nat} {v : Value} (hj : cs[j]? = some v) : w.cell? (Addr.add ⟨g, 0, none⟩ j) = some v := by
  have e : Addr.add ⟨g, 0, none⟩ j = ⟨g, j, none⟩ := by unfold Addr.add; split <;> simp_all
  rw [e, h.cell, hj]
theorem Blk.frozen {w : World} {g : Nat} {t : TypeId} {cs : List Value} (h : Blk w g t cs) (i : Nat) : w.frozen? ⟨g, i, none⟩ = false := by
  unfold Blk at h; simp [World.frozen?, h]
theorem Blk.below {w w' : World} {B g : Nat} {t : TypeId} {cs : List Value} (h : Blk w g t cs) (hb : Below B w w') (hg : g < B) : Blk w' g t cs := (hb.block g hg).trans h
theorem Blk.next {w w' : World} {g : Nat} {t : TypeId} {cs : List Value} (h : Blk w g t cs) (hb : Below w.heap.size w w') : Blk w' g t cs := h.below hb h.lt
theorem Blk.new (w : World) (t : TypeId) (cs : List Value) : Blk (w.alloc (.cells cs.toArray t)) w.heap.size t cs := heap_alloc_new w _
theorem Blk.set {w : World} {g : Nat} {t : TypeId} {cs : List Value} (h : Blk w g t cs) (i : Nat) (u : Value) : Blk (w.setCell ⟨g, i, none⟩ u) g t (cs.set i u) := by
  unfold Blk at h ⊢
  simp [World.setCell, Array.getElem?_modify, h]
theorem Blk.far {w : World} {g : Nat} {t : TypeId} {cs : List Value} (h : Blk w g t cs) {p : Addr} (hp : g ≠ p.block) (u : Value) : Blk (w.setCell p u) g t cs := (Below.heap_setCell w p u g hp).trans h

/-- A block just made. -/
structure Fresh (w w' : World) (g : Nat) (t : TypeId) (cs : List Value) : Prop where
  at_ : g = w.heap.size
  size : w'.heap.size = g + 1
  below : Below w.heap.size w w'
  blk : Blk w' g t cs

theorem Fresh.mk' (w : World) (t : TypeId) (cs : List Value) : Fresh w (w.alloc (.cells cs.toArray t)) w.heap.size t cs :=
  ⟨rfl, by simp, (Below.refl _ _).alloc (Nat.le_refl _) _, Blk.new w t cs⟩

theorem below_alloc (w : World) (o : Obj) : Below w.heap.size w (w.alloc o) := (Below.refl _ _).alloc (Nat.le_refl _) o

/-- 'w1' is an extension of w0 whole: from w0's blocks nothing has turned. -/
theorem _root_.Go.RowKit.Below.step {w0 w w' : World} (h : Below w0.heap.size w0 w) (h' : Below w.heap.size w w') : Below w0.heap.size w0 w' := h.trans (h'.mono h.size)

section
variable {P : Program} {r : Option Nat} {Q : Exit → Act → World → Prop} {N : Nat} {ds : List Deferred} {ops rest : List Oper} {E : Env} {w : World} {G : Option Bool}
variable {d : Option Tmp} {ty : TypeId} {pos : String} {af : Array Edge} {gu : Option (Nat × Bool)}

/-- An operation that yields a value and leaves the world. -/
theorem TW.val {o : Oper} {v : Value} (hg : gd ops E o.guard = some G) (hd : okDst N o.dst = true) (hn : noDefer o.op = true)
    (hrun : Cnd G → ∀ a, Fit N ds E a → (execOp a.eval o).run P w = .ok (.value v) w) (next : TW P r Q N ds ops rest (ins E o.dst G v) w) : TW P r Q N ds ops (o :: rest) E w := by
  intro a ha
  obtain ⟨h1, h2⟩ := wanted_of ha hg
  unfold wpListIn
  by_cases hc : Cnd G
  · rw [if_pos (h1 hc)]
    refine ⟨fun _ _ => trivial, ?_⟩
    rw [semAt_of hn, hrun hc a ha]
    exact next _ (ha.put hd (fun _ => rfl) (fun h => absurd hc h))
  · rw [if_neg (by rw [h2 hc]; simp)]
    exact ⟨fun _ _ => trivial, next _ (ha.put hd (fun h => absurd h hc) (fun _ => rfl))⟩

/-- An operation without a guard that yields a value in another world. -/
theorem TW.eff {o : Oper} {v : Value} {w' : World} (hg : o.guard = none) (hd : okDst N o.dst = true) (hn : noDefer o.op = true)
    (hrun : ∀ a, Fit N ds E a → (execOp a.eval o).run P w = .ok (.value v) w') (next : TW P r Q N ds ops rest (ins E o.dst none v) w') : TW P r Q N ds ops (o :: rest) E w := by
  intro a ha
  unfold wpListIn
  rw [if_pos (by simp [Region.wanted, hg])]
  refine ⟨fun _ _ => trivial, ?_⟩
  rw [semAt_of hn, hrun a ha]
  exact next _ (ha.put hd (fun _ => rfl) (fun h => absurd trivial h))

/-- An operation without a guard and without a value. -/
theorem TW.eff0 {o : Oper} {w' : World} (hg : o.guard = none) (hd : o.dst = none) (hn : noDefer o.op = true)
    (hrun : ∀ a, Fit N ds E a → (execOp a.eval o).run P w = .ok .skip w') (next : TW P r Q N ds ops rest E w') : TW P r Q N ds ops (o :: rest) E w := by
  intro a ha
  unfold wpListIn
  rw [if_pos (by simp [Region.wanted, hg])]
  refine ⟨fun _ _ => trivial, ?_⟩
  rw [semAt_of hn, hrun a ha]
  have := next _ ha
  simpa [Oper.uponIn, hd, Act.put] using this

/-- A contract: the call returns, with R of the value and the world. -/
def Gives (P : Program) (f : FuncId) (args : Array Value) (w : World) (R : Value → World → Prop) : Prop := Calls P f args w fun e w' => ∃ v, e = .returned v ∧ R v w'

theorem Gives.mono {f : FuncId} {args : Array Value} {R R' : Value → World → Prop} (h : Gives P f args w R) (hr : ∀ v w', R v w' → R' v w') : Gives P f args w R' :=
  Calls.mono h fun _ _ ⟨v, he, hR⟩ => ⟨v, he, hr v _ hR⟩

theorem callsIn_of {f : FuncId} {args : Array Value} {w : World} {R : Ending → World → Prop} (h : Calls P f args w R) : CallsIn (FR r) 0 P f args w R := by
  have h1 : CallsIn Fence.wide 0 P f args w R := callsIn_wide.2 h
  cases r with
  | none => exact h1
  | some l => exact h1

theorem TW.enter {o : Oper} {f : FuncId} {vs : Array Value} {R : Value → World → Prop} (hg : gd ops E o.guard = some G) (hd : okDst N o.dst = true) (hn : noDefer o.op = true)
    (hrun : Cnd G → ∀ a, Fit N ds E a → (execOp a.eval o).run P w = .ok (.enter f vs) w) (hc : Cnd G → Gives P f vs w R)
    (next : ∀ v w', (Cnd G → R v w') → (¬ Cnd G → w' = w) → TW P r Q N ds ops rest (ins E o.dst G v) w') : TW P r Q N ds ops (o :: rest) E w := by
  intro a ha
  obtain ⟨h1, h2⟩ := wanted_of ha hg
  unfold wpListIn
  by_cases hcG : Cnd G
  · rw [if_pos (h1 hcG)]
    refine ⟨fun _ _ => trivial, ?_⟩
    rw [semAt_of hn, hrun hcG a ha]
    refine ⟨fun h => by simp [Fence.wide] at h, ?_⟩
    refine CallsIn.mono (callsIn_of (hc hcG)) ?_
    rintro e w' ⟨v, rfl, hR⟩
    exact next v w' (fun _ => hR) (fun h => absurd hcG h) _ (ha.put hd (fun _ => rfl) (fun h => absurd hcG h))
  · rw [if_neg (by rw [h2 hcG]; simp)]
    exact ⟨fun _ _ => trivial, next undef w (fun h => absurd h hcG) (fun _ => rfl) _ (ha.put hd (fun h => absurd h hcG) (fun _ => rfl))⟩

theorem TW.enter0 {o : Oper} {f : FuncId} {vs : Array Value} {R : Value → World → Prop} (hg : o.guard = none) (hd : okDst N o.dst = true) (hn : noDefer o.op = true)
    (hrun : ∀ a, Fit N ds E a → (execOp a.eval o).run P w = .ok (.enter f vs) w) (hc : Gives P f vs w R)
    (next : ∀ v w', R v w' → TW P r Q N ds ops rest (ins E o.dst none v) w') : TW P r Q N ds ops (o :: rest) E w :=
  TW.enter (G := none) (by rw [hg]; rfl) hd hn (fun _ => hrun) (fun _ => hc) (fun v w' h _ => next v w' (h trivial))


theorem run_sizeOf {e : TypeId} {sz : Nat} (hs : (P.info? e).map (·.size) = some sz) (w : World) : (sizeOf e).run P w = .ok sz w := by
  cases hi : P.info? e with
  | none => simp [hi] at hs
  | some i => simp [hi] at hs; simp [sizeOf, typeInfo, hi, hs]

/-- a type of one cell -/
def one (P : Program) (t : TypeId) : Bool := match P.underlying t with
  | none | some (.struct _) | some (.array _ _) => false
  | _ => true

theorem run_loadVar1 {t : TypeId} (h1 : one P t = true) {ad : Addr} {v : Value} (hc : w.cell? ad = some v) : (loadVar t ad).run P w = .ok v w := by
  unfold one at h1
  cases hu : P.underlying t with
  | none => simp [hu] at h1
  | some dsc => cases dsc <;> first | (simp [hu] at h1; done) | simp [loadVar, isAgg, run_underlying hu, hc]

theorem run_loadVarS {t : TypeId} {fs : Array Field} (hu : P.underlying t = some (.struct fs)) {cs : List Value} (hs : (P.info? t).map (·.size) = some cs.length) {ad : Addr} (hc : ∀ j v, cs[j]? = some v → w.cell? (ad.add j) = some v) :
    (loadVar t ad).run P w = .ok (.agg cs.toArray) w := by
  simp [loadVar, isAgg, run_underlying hu, run_sizeOf hs, run_loadCells_list w ad cs hc]

/-- the cells of a type's zero value -/
def zeroCells (P : Program) (t : TypeId) : Option (List Value) := ((P.info? t).bind (·.zero)).map fun v => v.cells.toList

/-- a function of the program's own, with a body -/
def enters (P : Program) (f : FuncId) : Bool := match P.funcs[f]? with
  | some fn => !(fn.name == "runtime.NumGoroutine") && fn.body.isSome
  | none => false

theorem run_enters {f : FuncId} (h : enters P f = true) (args : Array Value) (w : World) : (callFunc f args).run P w = .ok (.enter f args) w := by
  unfold enters at h
  cases hf : P.funcs[f]? with
  | none => simp [hf] at h
  | some fn =>
    simp only [hf, Bool.and_eq_true, Bool.not_eq_true'] at h
    obtain ⟨h1, h2⟩ := h
    have h3 : ¬ fn.body = none := by cases hb : fn.body <;> simp_all
    have h4 : ¬ fn.name = "runtime.NumGoroutine" := by simpa using h1
    simp [callFunc, hf, h4, h3]
end
end Go.PF
