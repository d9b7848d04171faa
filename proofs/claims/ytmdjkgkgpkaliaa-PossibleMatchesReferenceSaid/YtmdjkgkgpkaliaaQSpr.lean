/- The cells of a slice, one after another: what an append of a whole slice copies. -/
import Derived.Test.YtmdjkgkgpkaliaaQOb
set_option linter.unusedSimpArgs false
set_option linter.unusedVariables false
namespace Go.PF
open Go.RowKit
variable {α : Type}

theorem len_flat {β : Type} (f : β → List Value) (n : Nat) : ∀ (ps : List β), (∀ p ∈ ps, (f p).length = n) → (ps.flatMap f).length = ps.length * n
  | [], _ => by simp
  | p :: ps, h => by
    rw [List.flatMap_cons, List.length_append, len_flat f n ps (fun q hq => h q (List.mem_cons_of_mem _ hq)), h p (List.mem_cons_self ..), List.length_cons, Nat.add_mul]
    omega
theorem SL.flat {T : Ty α} (h0 : 0 < T.n) {F : Nat → Prop} {w : World} {A : Option Addr} {n cap : Nat} {l : List α} (h : SL T F w (.slice A n cap) l) :
    ∃ ps : List (List Value × α), ps.map (·.2) = l ∧ (∀ p ∈ ps, T.rep F w p.1 p.2) ∧ (ps.flatMap (·.1)).length = n * T.n ∧ ∀ j u, (ps.flatMap (·.1))[j]? = some u → ∃ ad, A = some ad ∧ w.cell? (ad.add j) = some u := by
  obtain ⟨A', cap', hv, h1, h2, h3⟩ := h
  simp only [Value.slice.injEq] at hv
  obtain ⟨rfl, rfl, rfl⟩ := hv
  have key : ∀ (k : Nat), k ≤ l.length → ∃ ps : List (List Value × α), ps.map (·.2) = l.take k ∧ (∀ p ∈ ps, T.rep F w p.1 p.2) ∧ ∀ i p, ps[i]? = some p → ∃ ad, A = some ad ∧ ∀ j u, p.1[j]? = some u → w.cell? ((ad.add (i * T.n)).add j) = some u := by
    intro k
    induction k with
    | zero => exact fun _ => ⟨[], by simp, (fun p hp => by cases hp), (fun i p hp => by simp at hp)⟩
    | succ k ih =>
      intro hk
      obtain ⟨ps, q1, q2, q3⟩ := ih (by omega)
      have hx : l[k]? = some l[k] := List.getElem?_eq_getElem (by omega)
      obtain ⟨ad, cs, ha, _, hc, hr⟩ := h3 k _ hx
      have hpl : ps.length = k := by have := congrArg List.length q1; simp at this; omega
      refine ⟨ps ++ [(cs, l[k])], by rw [List.map_append, q1, List.take_add_one, hx]; rfl, fun p hp => ?_, fun i p hp => ?_⟩
      · rcases List.mem_append.1 hp with hp | hp
        · exact q2 p hp
        · rw [List.mem_singleton] at hp; subst hp; exact hr
      · rcases Nat.lt_trichotomy i k with hi | hi | hi
        · rw [List.getElem?_append_left (by omega)] at hp
          exact q3 i p hp
        · rw [List.getElem?_append_right (by omega), hpl, hi] at hp
          simp at hp
          subst hp
          subst hi
          exact ⟨ad, ha, hc⟩
        · rw [List.getElem?_eq_none (by simp; omega)] at hp
          cases hp
  obtain ⟨ps, q1, q2, q3⟩ := key l.length (Nat.le_refl _)
  rw [List.take_length] at q1
  have hlen : ∀ p ∈ ps, p.1.length = T.n := fun p hp => T.len _ _ _ _ (q2 p hp)
  have hpl : ps.length = l.length := by rw [← q1]; simp
  have hfl : (ps.flatMap (·.1)).length = ps.length * T.n := by
    exact len_flat (fun p : List Value × α => p.1) T.n ps hlen
  refine ⟨ps, q1, q2, by rw [hfl, hpl], fun j u hj => ?_⟩
  have hjl : j < ps.length * T.n := by rw [← hfl]; exact (List.getElem?_eq_some_iff.1 hj).1
  have hd := Nat.div_add_mod' j T.n
  have hm := Nat.mod_lt j h0
  have hi : j / T.n < ps.length := (Nat.div_lt_iff_lt_mul h0).2 hjl
  have hp : ps[j / T.n]? = some ps[j / T.n] := List.getElem?_eq_getElem hi
  have hf := flatP_at T.n ps hlen (j / T.n) (j % T.n) _ hp hm
  rw [hd, hj] at hf
  obtain ⟨ad, ha, hc⟩ := q3 _ _ hp
  refine ⟨ad, ha, ?_⟩
  have := hc (j % T.n) u hf.symm
  rwa [add_add, hd] at this

theorem SL.takeS {T : Ty α} {F : Nat → Prop} {w : World} {A : Option Addr} {n c : Nat} {l : List α} (h : SL T F w (.slice A n c) l) {i : Nat} (hi : i ≤ l.length) : SL T F w (.slice A i c) (l.take i) := by
  obtain ⟨A', cap', hv, h1, h2, h3⟩ := h
  simp only [Value.slice.injEq] at hv
  obtain ⟨rfl, rfl, rfl⟩ := hv
  refine ⟨A, c, by simp [Nat.min_eq_left hi], by simp; omega, by simp; omega, fun k x hx => ?_⟩
  rw [List.getElem?_take] at hx
  split at hx
  · exact h3 k x hx
  · cases hx

/-- every cell of T's is one cell -/
def Ty.One (T : Ty α) : Prop := ∀ F w cs x, T.rep F w cs x → ∀ u ∈ cs, Value.oneCell' u = true
theorem intT_one : Ty.One intT := fun _ _ _ _ h u hu => by rw [h.1] at hu; simp at hu; subst hu; rfl
theorem boolT_one : Ty.One boolT := fun _ _ _ _ h u hu => by rw [h] at hu; simp at hu; subst hu; rfl
theorem sliceT_one (T : Ty α) : Ty.One (sliceT T) := fun _ _ _ _ ⟨_, h, A, cap, hv, _⟩ u hu => by rw [h] at hu; simp at hu; subst hu; rw [hv]; rfl
theorem one_flat {T : Ty α} (hT : T.One) {F : Nat → Prop} {w : World} {ps : List (List Value × α)} (h : ∀ p ∈ ps, T.rep F w p.1 p.2) : ∀ u ∈ ps.flatMap (·.1), Value.oneCell' u = true := fun u hu => by
  obtain ⟨p, hp, hup⟩ := List.mem_flatMap.1 hu
  exact hT _ _ _ _ (h p hp) u hup

/-- A row made by appending slices, read as the lists one after another: 'b': what is older has not turned. -/
theorem OwnS.toSLn {T : Ty α} (h0 : 0 < T.n) {w0 w : World} {e : TypeId} {v : Value} {n : Nat} {F : Nat → Prop} (hb : Below w0.heap.size w0 w) {ps : List (List Value × α)} (hr : ∀ p ∈ ps, T.rep F w0 p.1 p.2) (h : OwnS w e T.n v n (ps.flatMap (·.1))) (hn : n = ps.length) (hbig : ps.length ≤ 9223372036854775807) :
    SL T (fun k => F k ∨ v.ownBlock = some k) w v (ps.map (·.2)) :=
  OwnS.toSLp ps (fun p hp => T.wider _ _ _ _ _ (fun _ hk => .inl hk) (T.mono _ _ _ _ _ (Kept.of_below hb) (hr p hp))) h0 h hn (fun _ hg => .inr hg) hbig

theorem look_app : ∀ {E E' : Env} {i : Nat} {c : Option Bool} {v : Value}, look (E ++ E') i = some (c, v) → look E i = some (c, v) ∨ look E' i = some (c, v)
  | [], _, _, _, _, h => .inr h
  | (j, c0, v0) :: E, E', i, c, v, h => by
    simp only [List.cons_append, look] at h ⊢
    by_cases hi : j = i
    · subst hi
      rw [beq_self] at h ⊢
      exact .inl h
    · rw [beq_ne hi] at h ⊢
      exact look_app h
/-- The region's end: slots whose values are known, and slots of which something is known. -/
theorem DW.finX {N : Nat} {ds : List Deferred} {D : DE} {w : World} {K : Act → World → Prop} (ks : List Nat) (E : Env) (hE : dpick D ks = some E) (is : List Nat) {es : List Ent} (hp : dsel D is = some es) (h : ∀ vs w', Below w.heap.size w w' → Sats es vs w' → KW N ds K (E ++ zipE is vs) w') :
    ∀ a w', Below w.heap.size w w' → FitD N ds D a w' → K a w' :=
  fun a w' hb ha => h _ w' hb (ha.sel hp) a ⟨ha.size, ha.defers, fun i c v hl => (look_app hl).elim ((ha.pick hE).slots i c v) ((ha.zip is).slots i c v)⟩
end Go.PF
