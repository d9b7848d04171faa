/- Entering, leaving, exits. -/
import Derived.Test.YthldjchogdefjaaDoorBase
import Derived.RangeFuncLeaves
namespace Go.PF
open Go.RowKit

def argEnv : List Value → Nat → Env
  | [], _ => []
  | v :: vs, i => (i, none, v) :: argEnv vs (i + 1)

theorem look_argEnv : ∀ (vs : List Value) (k i : Nat) (c : Option Bool) (v : Value), look (argEnv vs k) i = some (c, v) → c = none ∧ k ≤ i ∧ vs[i - k]? = some v
  | [], k, i, c, v, h => by simp [argEnv, look] at h
  | u :: vs, k, i, c, v, h => by
    simp only [argEnv, look] at h
    by_cases hi : k = i
    · subst hi
      rw [beq_self] at h
      simp only [Option.some.injEq, Prod.mk.injEq] at h
      obtain ⟨rfl, rfl⟩ := h
      simp
    · rw [beq_ne hi] at h
      obtain ⟨h1, h2, h3⟩ := look_argEnv vs (k + 1) i c v h
      refine ⟨h1, by omega, ?_⟩
      have : i - k = (i - (k + 1)) + 1 := by omega
      rw [this]; simpa using h3

section
variable {P : Program} {r : Option Nat} {Q : Exit → Act → World → Prop} {N : Nat} {ds : List Deferred} {E : Env} {w : World}

theorem fit_args {vs : List Value} (hle : vs.length ≤ N) : Fit N [] (argEnv vs 0) { tmps := vs.toArray ++ Array.replicate (N - vs.toArray.size) undef, defers := [] } := by
  refine ⟨by simp; omega, rfl, fun i c v h => ?_⟩
  obtain ⟨rfl, _, h3⟩ := look_argEnv vs 0 i c v h
  refine ⟨fun _ => ?_, fun h => absurd trivial h⟩
  have hlt : i < vs.length := by
    rcases Nat.lt_or_ge i vs.length with h | h
    · exact h
    · simp [List.getElem?_eq_none h] at h3
  simp only [Nat.sub_zero] at h3
  rw [List.getElem?_eq_getElem hlt] at h3
  simp only [Option.some.injEq] at h3
  simp [Array.getElem?_append, hlt, h3]

/-- A function's contract from its body. -/
theorem gives_of {f : FuncId} {fn : Func} {c : Code} {vs : List Value} {R : Value → World → Prop} (E0 : Env) (hf : P.funcs[f]? = some fn) (hb : fn.body = some c) (hn : fn.ntmps = N) (hle : Nat.ble vs.length N = true) (hE : argEnv vs 0 = E0)
    (h : CW P none (bodyPost P fn fun e w' => ∃ v, e = .returned v ∧ R v w') N [] c E0 w) : Gives P f vs.toArray w R := by
  unfold Gives
  have hle' : vs.length ≤ N := Nat.le_of_ble_eq_true hle
  refine (callsIn_wide (n := 0)).1 (callsIn_of_wp hf hb trivial ?_)
  rw [hn]
  exact h _ (hE ▸ fit_args hle')

/-- A function's contract from its body, where the body holds a range over a function. -/
theorem gives_ofM {f : FuncId} {fn : Func} {c : Code} {vs : List Value} {R : Value → World → Prop} (E0 : Env) (hf : P.funcs[f]? = some fn) (hb : fn.body = some c) (hn : fn.ntmps = N) (hle : Nat.ble vs.length N = true) (hE : argEnv vs 0 = E0)
    (h : CW P none (bodyPostM (FR none) 0 P fn fun e w' => ∃ v, e = .returned v ∧ R v w') N [] c E0 w) : Gives P f vs.toArray w R := by
  unfold Gives
  have hle' : vs.length ≤ N := Nat.le_of_ble_eq_true hle
  refine (callsIn_wide (n := 0)).1 (callsIn_of_wp_marks hf hb trivial ?_)
  rw [hn]
  exact h _ (hE ▸ fit_args hle')

theorem KW.then_ {y : Code} (h : CW P r Q N ds y E w) : KW N ds (Exit.then (y.wpIn (FR r) 0 P Q) Q .normal) E w := h
theorem KW.thenX {K : Act → World → Prop} {id : Nat} (h : KW N ds (Q (.exit id)) E w) : KW N ds (Exit.then K Q (.exit id)) E w := h
theorem KW.thenR {K : Act → World → Prop} (h : KW N ds (Q .ret) E w) : KW N ds (Exit.then K Q .ret) E w := h
theorem KW.blockN {id : Nat} (h : KW N ds (Q .normal) E w) : KW N ds (Exit.inBlock id Q .normal) E w := h
theorem KW.blockR {id : Nat} (h : KW N ds (Q .ret) E w) : KW N ds (Exit.inBlock id Q .ret) E w := h
theorem KW.blockX {id : Nat} (h : KW N ds (Q .normal) E w) : KW N ds (Exit.inBlock id Q (.exit id)) E w := fun a ha => by
  simp only [Exit.inBlock, if_true]; exact h a ha
theorem KW.blockY {id id' : Nat} (hne : Nat.beq id' id = false) (h : KW N ds (Q (.exit id')) E w) : KW N ds (Exit.inBlock id Q (.exit id')) E w := fun a ha => by
  have : id' ≠ id := fun e => by rw [e, beq_self] at hne; cases hne
  simp only [Exit.inBlock, if_neg this]; exact h a ha

theorem KW.round {α : Type} {F : α → Env} {J : α → World → Prop} {m : α → Nat} {x : α} (x' : α) (is : List Nat) (hp : PF.pick E is = some (F x')) (hJ : J x' w) (hm : m x' < m x) :
    KW N ds (Exit.then (fun a' w' => ∃ x', Fit N ds (F x') a' ∧ J x' w' ∧ m x' < m x) Q .normal) E w :=
  fun _ ha => ⟨x', ha.pick hp, hJ, hm⟩

/-- The loop, by slots. -/
theorem CW.loopS {α : Type} {c : Code} (F : α → Env) (J : α → World → Prop) (m : α → Nat) (x0 : α) (is : List Nat) (h0 : J x0 w) (hE : PF.pick E is = some (F x0))
    (round : ∀ x w, J x w → CW P r (Exit.then (fun a' w' => ∃ x', Fit N ds (F x') a' ∧ J x' w' ∧ m x' < m x) Q) N ds c (F x) w) : CW P r Q N ds (.loop c) E w :=
  CW.loop F J m x0 h0 (fun _ ha => ha.pick hE) round

theorem CW.condP {c : Operand} {x y : Code} {p : Prop} [Decidable p] (hc : ev E c = some (none, .bool (decide p))) (ht : p → CW P r Q N ds x E w) (hf : ¬ p → CW P r Q N ds y E w) : CW P r Q N ds (.cond c x y) E w :=
  CW.cond hc (fun h => ht (of_decide_eq_true h)) (fun h => hf (of_decide_eq_false h))

variable {fn : Func} {R : Value → World → Prop}

theorem ret0 (hres : fn.results = #[]) (hR : R (.tuple #[]) w) : KW N [] (bodyPost P fn (fun e w' => ∃ v, e = .returned v ∧ R v w') .ret) E w := fun _ ha =>
  bodyPost_ret (results_none hres _ _ _) ha.defers ⟨_, rfl, hR⟩
theorem end0 (hres : fn.results = #[]) (hR : R (.tuple #[]) w) : KW N [] (bodyPost P fn (fun e w' => ∃ v, e = .returned v ∧ R v w') .normal) E w := fun a ha =>
  (bodyPost_ret (R := fun e w' => ∃ v, e = .returned v ∧ R v w') (results_none hres a.tmps P w) ha.defers ⟨_, rfl, hR⟩ : bodyPost P fn _ .ret a w)
theorem ret1 {s : Nat} {v : Value} (hres : fn.results = #[.tmp s]) (hs : look E s = some (none, v)) (hR : R v w) : KW N [] (bodyPost P fn (fun e w' => ∃ v, e = .returned v ∧ R v w') .ret) E w := fun a ha =>
  bodyPost_ret (R := fun e w' => ∃ v, e = .returned v ∧ R v w') (results_tmp hres a.tmps P w) ha.defers ⟨_, rfl, by rw [(ha.slots s none v hs).1 trivial]; exact hR⟩
theorem ret2 {s t : Nat} {v u : Value} (hres : fn.results = #[.tmp s, .tmp t]) (hs : look E s = some (none, v)) (ht : look E t = some (none, u)) (hR : R (.tuple #[v, u]) w) :
    KW N [] (bodyPost P fn (fun e w' => ∃ v, e = .returned v ∧ R v w') .ret) E w := fun a ha =>
  bodyPost_ret (R := fun e w' => ∃ v, e = .returned v ∧ R v w') (results_tmp2 hres a.tmps P w) ha.defers ⟨_, rfl, by rw [(ha.slots s none v hs).1 trivial, (ha.slots t none u ht).1 trivial]; exact hR⟩
theorem retC {s : Nat} {t : TypeId} {ad : Addr} {v : Value} (hres : fn.results = #[.cell s t]) (h1 : one P t = true) (hs : look E s = some (none, .pointer (some ad))) (hc : w.cell? ad = some v) (hR : R v w) :
    KW N [] (bodyPost P fn (fun e w' => ∃ v, e = .returned v ∧ R v w') .ret) E w := fun a ha => by
  refine bodyPost_ret (v := v) ?_ ha.defers ⟨_, rfl, hR⟩
  have e : a.tmps.getD s undef = .pointer (some ad) := (ha.slots s none _ hs).1 trivial
  simp only [Array.getD_eq_getD_getElem?] at e
  simp [results, hres, e, asAddr, run_loadVar1 h1 hc]
end
end Go.PF
