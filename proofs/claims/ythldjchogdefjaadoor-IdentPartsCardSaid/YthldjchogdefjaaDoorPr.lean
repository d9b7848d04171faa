/- Drawn order: operations on slots of which only something is known. -/
import Derived.Test.YthldjchogdefjaaDoorMore
namespace Go.PF
open Go.RowKit

def Sats : List Ent → List Value → World → Prop
  | [], [], _ => True
  | e :: es, v :: vs, w => e.sat v w ∧ Sats es vs w
  | _, _, _ => False

theorem Sats.one {e : Ent} {vs : List Value} {w : World} (h : Sats [e] vs w) : ∃ a, vs = [a] ∧ e.sat a w := by
  match vs, h with
  | [a], ⟨h1, _⟩ => exact ⟨a, rfl, h1⟩
theorem Sats.two {e1 e2 : Ent} {vs : List Value} {w : World} (h : Sats [e1, e2] vs w) : ∃ a b, vs = [a, b] ∧ e1.sat a w ∧ e2.sat b w := by
  match vs, h with
  | [a, b], ⟨h1, h2, _⟩ => exact ⟨a, b, rfl, h1, h2⟩
theorem Sats.three {e1 e2 e3 : Ent} {vs : List Value} {w : World} (h : Sats [e1, e2, e3] vs w) : ∃ a b c, vs = [a, b, c] ∧ e1.sat a w ∧ e2.sat b w ∧ e3.sat c w := by
  match vs, h with
  | [a, b, c], ⟨h1, h2, h3, _⟩ => exact ⟨a, b, c, rfl, h1, h2, h3⟩
theorem Sats.four {e1 e2 e3 e4 : Ent} {vs : List Value} {w : World} (h : Sats [e1, e2, e3, e4] vs w) : ∃ a b c d, vs = [a, b, c, d] ∧ e1.sat a w ∧ e2.sat b w ∧ e3.sat c w ∧ e4.sat d w := by
  match vs, h with
  | [a, b, c, d], ⟨h1, h2, h3, h4, _⟩ => exact ⟨a, b, c, d, rfl, h1, h2, h3, h4⟩
theorem Sats.five {e1 e2 e3 e4 e5 : Ent} {vs : List Value} {w : World} (h : Sats [e1, e2, e3, e4, e5] vs w) : ∃ a b c d e, vs = [a, b, c, d, e] ∧ e1.sat a w ∧ e2.sat b w ∧ e3.sat c w ∧ e4.sat d w ∧ e5.sat e w := by
  match vs, h with
  | [a, b, c, d, e], ⟨h1, h2, h3, h4, h5, _⟩ => exact ⟨a, b, c, d, e, rfl, h1, h2, h3, h4, h5⟩
theorem Ent.mono_pure (p : Value → Prop) : Ent.mono (.pr fun v _ => p v) := fun _ _ _ _ h => h

section
variable {P : Program} {N : Nat} {ds : List Deferred} {ops rest : List Oper} {D : DE} {w : World} {G : Option Bool} {Fin : DE → Prop}
variable {d : Option Tmp} {ty : TypeId} {pos : String} {af : Array Edge} {gu : Option (Nat × Bool)}
variable {x : Operand} {cx : Option Bool}

def PArgs (L : List Nat) (N : Nat) (ds : List Deferred) (D : DE) (G : Option Bool) (xs : List Operand) (es : List Ent) : Prop := (∀ t, Operand.tmp t ∈ xs → t ∈ L) → ∀ a w, FitL N ds L D a w → Cnd G → Sats es (xs.map a.eval) w
theorem PArgs.nil {L : List Nat} : PArgs L N ds D G [] [] := fun _ _ _ _ _ => trivial
theorem PArgs.cons {L : List Nat} {xs : List Operand} {e : Ent} {es : List Ent} (hx : dev D x = some (cx, e)) (ix : Cnd G → Cnd cx) (h : PArgs L N ds D G xs es) : PArgs L N ds D G (x :: xs) (e :: es) := fun hL a w ha hG =>
  ⟨ha.sat hx (fun t ht => hL t (by simp [ht])) (ix hG), h (fun t ht => hL t (by simp [ht])) a w ha hG⟩

theorem DW.callP {f : Operand} {k : FuncId} {cap : List Value} {cf : Option Bool} {xs : List Operand} {es : List Ent} {ts : Array TypeId} (e : Ent) (hm : e.mono) (hg : dgd ops D gu = some G) (hd : okDst N d = true) (he : enters P k = true)
    (hf : dev D f = some (cf, .ex (.func (.func k) #[] cap.toArray))) (jf : Cnd G → Cnd cf) (hv : PArgs (Oper.looksAt ops.toArray ⟨d, .call ⟨.value f, xs.toArray, ts⟩, ty, pos, af, gu⟩) N ds D G xs es)
    (hc : Cnd G → ∀ w', Below w.heap.size w w' → ∀ vs, Sats es vs w' → Gives P k (vs ++ cap).toArray w' fun v w'' => Below w'.heap.size w' w'' ∧ e.sat v w'')
    (next : DW P N ds .weak ops w Fin rest (dins D d G e)) : DW P N ds .weak ops w Fin (⟨d, .call ⟨.value f, xs.toArray, ts⟩, ty, pos, af, gu⟩ :: rest) D :=
  DW.enter (o := ⟨d, .call ⟨.value f, xs.toArray, ts⟩, ty, pos, af, gu⟩) hg hd rfl hm (fun hG a w' hb ha => ⟨_, _, X.call he (ha.eval (o := ⟨d, .call ⟨.value f, xs.toArray, ts⟩, ty, pos, af, gu⟩) hf (by simp [Op.operands, Call.operands]) (jf hG)) rfl,
    hc hG w' hb _ (hv (fun t ht => mem_looks (by simp [Op.operands, Call.operands, ht])) a w' ha hG)⟩) next

theorem DW.extractP {φ : Value → World → Prop} {i : Nat} (ψ : Value → World → Prop) (hg : dgd ops D gu = some G) (hd : okDst N d = true) (hx : dev D x = some (cx, .pr φ)) (ix : Cnd G → Cnd cx) (hm : Ent.mono (.pr ψ))
    (h : ∀ u w, φ u w → ∃ vs v, u = .tuple vs ∧ vs[i]? = some v ∧ ψ v w)
    (next : DW P N ds .weak ops w Fin rest (dins D d G (.pr ψ))) : DW P N ds .weak ops w Fin (⟨d, .extract x i, ty, pos, af, gu⟩ :: rest) D := by
  refine DW.gen hg hd rfl hm (fun hG a w' hb ha => ?_) next
  have h1 : φ (a.eval x) w' := ha.evalP (o := ⟨d, .extract x i, ty, pos, af, gu⟩) hx (by simp [Op.operands]) (ix hG)
  obtain ⟨vs, v, h2, h3, h4⟩ := h _ _ h1
  exact ⟨v, w', X.extract h3 h2, Below.refl _ _, h4⟩

theorem DW.assignP {φ : Value → World → Prop} (hg : dgd ops D gu = some G) (hd : okDst N d = true) (hx : dev D x = some (cx, .pr φ)) (ix : Cnd G → Cnd cx) (hm : Ent.mono (.pr φ))
    (next : DW P N ds .weak ops w Fin rest (dins D d G (.pr φ))) : DW P N ds .weak ops w Fin (⟨d, .assign x, ty, pos, af, gu⟩ :: rest) D := by
  refine DW.gen hg hd rfl hm (fun hG a w' hb ha => ?_) next
  have h1 : φ (a.eval x) w' := ha.evalP (o := ⟨d, .assign x, ty, pos, af, gu⟩) hx (by simp [Op.operands]) (ix hG)
  exact ⟨_, w', by simp [execOp], Below.refl _ _, h1⟩
theorem DW.moveP {φ : Value → World → Prop} (hg : dgd ops D gu = some G) (hd : okDst N d = true) (hx : dev D x = some (cx, .pr φ)) (ix : Cnd G → Cnd cx) (hm : Ent.mono (.pr φ))
    (next : DW P N ds .weak ops w Fin rest (dins D d G (.pr φ))) : DW P N ds .weak ops w Fin (⟨d, .move x, ty, pos, af, gu⟩ :: rest) D := by
  refine DW.gen hg hd rfl hm (fun hG a w' hb ha => ?_) next
  have h1 : φ (a.eval x) w' := ha.evalP (o := ⟨d, .move x, ty, pos, af, gu⟩) hx (by simp [Op.operands]) (ix hG)
  exact ⟨_, w', by simp [execOp], Below.refl _ _, h1⟩

theorem DW.buildSliceP {t : TypeId} (e : TypeId) {sz len : Nat} {parts : Array (Nat × Operand)} (xs : List Operand) {es : List Ent} (ψ : Value → World → Prop) (hm : Ent.mono (.pr ψ)) (hg : dgd ops D gu = some G) (hd : okDst N d = true) (hp : parts.toList = number xs) (he : elemOK P t e sz = true)
    (hx : PArgs (Oper.looksAt ops.toArray ⟨d, .buildSlice t len parts, ty, pos, af, gu⟩) N ds D G xs es) (hl : len = xs.length) (hsm : Nat.ble (xs.length * sz) 16777216 = true) (hpos : Nat.blt 0 xs.length = true)
    (h : ∀ vs w, Sats es vs w → (∀ v ∈ vs, v.cells.size = sz) ∧ ∀ g w', Fresh w w' g e (vs.flatMap (fun v => v.cells.toList)) → ψ (.slice (some ⟨g, 0, none⟩) len len) w')
    (next : DW P N ds .weak ops w Fin rest (dins D d G (.pr ψ))) : DW P N ds .weak ops w Fin (⟨d, .buildSlice t len parts, ty, pos, af, gu⟩ :: rest) D := by
  refine DW.gen hg hd rfl hm (fun hG a w' hb ha => ?_) next
  have hs := hx (fun t ht => mem_looks ?_) a w' ha hG
  · obtain ⟨h1, h2⟩ := h _ _ hs
    refine ⟨_, _, X.buildSlice hp (by simpa using hl) he rfl h1 (by simpa using Nat.le_of_ble_eq_true hsm) (by simpa using blt_iff.1 hpos), (Below.refl _ _).alloc (Nat.le_refl _) _, ?_⟩
    have := h2 _ _ (Fresh.mk' w' e _)
    rw [hl] at this
    show ψ _ _
    simpa using this
  · simp only [Op.operands]
    rw [hp]
    simp only [number, List.map_map]
    rw [List.mem_map]
    obtain ⟨i, hi, hit⟩ := List.getElem_of_mem ht
    exact ⟨(.tmp t, i), by rw [List.mem_zipIdx_iff_getElem?]; rw [List.getElem?_eq_getElem hi, hit], rfl⟩

/-- A guarded operation that is known to run. -/
theorem TW.known {r : Option Nat} {Q : Exit → Act → World → Prop} {E : Env} {op : Op} (hg : gd ops E gu = some G) (hG : Cnd G) (next : TW P r Q N ds ops (⟨d, op, ty, pos, af, none⟩ :: rest) E w) : TW P r Q N ds ops (⟨d, op, ty, pos, af, gu⟩ :: rest) E w := by
  intro a ha
  have h1 := next a ha
  have h2 := (wanted_of (o := ⟨d, op, ty, pos, af, gu⟩) ha hg).1 hG
  unfold wpListIn at h1 ⊢
  rw [if_pos h2]
  rw [if_pos (by simp [Region.wanted])] at h1
  exact h1

def dsel (D : DE) : List Nat → Option (List Ent)
  | [] => some []
  | i :: is => match dlook D i with
    | some (none, e) => match dsel D is with
      | some es => some (e :: es)
      | none => none
    | _ => none
def zipE : List Nat → List Value → Env
  | i :: is, v :: vs => (i, none, v) :: zipE is vs
  | _, _ => []

theorem FitD.sel {a : Act} (h : FitD N ds D a w) : ∀ {is : List Nat} {es : List Ent}, dsel D is = some es → Sats es (is.map fun i => a.tmps.getD i undef) w
  | [], es, hp => by simp [dsel] at hp; subst hp; trivial
  | i :: is, es, hp => by
    simp only [dsel] at hp
    split at hp
    · rename_i e he
      split at hp
      · rename_i es' hes
        simp only [Option.some.injEq] at hp
        subst hp
        exact ⟨(h.slots i none e he).1 trivial, h.sel hes⟩
      · cases hp
    · cases hp
theorem FitD.zip {a : Act} (h : FitD N ds D a w) (is : List Nat) : Fit N ds (zipE is (is.map fun i => a.tmps.getD i undef)) a := by
  refine ⟨h.size, h.defers, ?_⟩
  induction is with
  | nil => intro i c v hl; simp [zipE, look] at hl
  | cons j is ih =>
    intro i c v hl
    simp only [List.map_cons, zipE, look] at hl
    by_cases hi : j = i
    · subst hi
      rw [beq_self] at hl
      simp only [Option.some.injEq, Prod.mk.injEq] at hl
      obtain ⟨rfl, rfl⟩ := hl
      exact ⟨fun _ => rfl, fun h => absurd trivial h⟩
    · rw [beq_ne hi] at hl
      exact ih i c v hl

/-- The region's end: slots of which something is known. -/
theorem DW.finP {K : Act → World → Prop} (is : List Nat) {es : List Ent} (hp : dsel D is = some es) (h : ∀ vs w', Below w.heap.size w w' → Sats es vs w' → KW N ds K (zipE is vs) w') : ∀ a w', Below w.heap.size w w' → FitD N ds D a w' → K a w' :=
  fun a w' hb ha => h _ w' hb (ha.sel hp) a (ha.zip is)
end
end Go.PF
