/- A range over a function: the loop's statement, its rounds, the iterator's contract. -/
import Derived.Test.YthldjchogdefjaaDoorMem
import Derived.RangeFuncNested
namespace Go.PF
open Go.RowKit

/-- Blocks that hold a loop's record, deferred calls, a walk. -/
def ctl : Obj → Bool
  | .loop _ | .deferred _ | .mapIter .. | .stringIter .. => true
  | _ => false

/-- w' extends w; of the blocks from n on, those that are ctl may have turned. -/
structure ExtF (n : Nat) (w w' : World) : Prop where
  os : w'.os = w.os
  tape : w'.tape = w.tape
  output : w'.output = w.output
  size : w.heap.size ≤ w'.heap.size
  block : ∀ (k : Nat) (o : Obj), w.heap[k]? = some o → (k < n ∨ ctl o = false) → w'.heap[k]? = some o

theorem ExtF.refl (n : Nat) (w : World) : ExtF n w w := ⟨rfl, rfl, rfl, Nat.le_refl _, fun _ _ h _ => h⟩
theorem ExtF.trans {n : Nat} {a b c : World} (h : ExtF n a b) (k : ExtF n b c) : ExtF n a c :=
  ⟨k.os.trans h.os, k.tape.trans h.tape, k.output.trans h.output, Nat.le_trans h.size k.size, fun i o ho hc => k.block i o (h.block i o ho hc) hc⟩
theorem ExtF.less {n n' : Nat} {a b : World} (h : ExtF n' a b) (hn : n ≤ n') : ExtF n a b :=
  ⟨h.os, h.tape, h.output, h.size, fun i o ho hc => h.block i o ho (hc.imp (fun h => by omega) id)⟩
theorem ExtF.of_below {n : Nat} {a b : World} (h : Below a.heap.size a b) : ExtF n a b :=
  ⟨h.os, h.tape, h.output, h.size, fun i o ho _ => (h.block i (Array.getElem?_eq_some_iff.1 ho).1).trans ho⟩
theorem ExtF.putObj {n l : Nat} {w : World} {o o' : Obj} (h : w.heap[l]? = some o) (hc : ctl o = true) (hn : n ≤ l) : ExtF n w (w.putObj l o') := by
  refine ⟨rfl, rfl, rfl, by simp [World.putObj], fun k p hp hk => ?_⟩
  by_cases e : l = k
  · subst e
    rw [h] at hp
    simp only [Option.some.injEq] at hp
    subst hp
    rcases hk with hk | hk
    · omega
    · rw [hc] at hk; cases hk
  · exact (World.putObj_heap_other (by omega)).trans hp
theorem ExtF.below {n : Nat} {w0 w w' : World} (h : Below n w0 w) (k : ExtF n w w') (hn : n ≤ w0.heap.size) : Below n w0 w' :=
  ⟨k.os.trans h.os, k.tape.trans h.tape, k.output.trans h.output, Nat.le_trans h.size k.size, fun i hi => by
    have hb := h.block i hi
    have hlt : i < w0.heap.size := by omega
    have e : w0.heap[i]? = some w0.heap[i] := Array.getElem?_eq_getElem hlt
    rw [e] at hb ⊢
    exact k.block i _ hb (.inl hi)⟩
theorem ExtF.kept {n : Nat} {F : Nat → Prop} {w w' : World} (k : ExtF n w w') : Kept F w w' := fun p v _ hc => by
  unfold World.cell? at hc ⊢
  split at hc
  · rename_i c e fr hb
    rw [k.block _ _ hb (.inr rfl)]
    exact hc
  · cases hc
theorem Blk.ext {n : Nat} {w w' : World} {g : Nat} {t : TypeId} {cs : List Value} (h : Blk w g t cs) (k : ExtF n w w') : Blk w' g t cs := k.block g _ h (.inr rfl)
theorem SL.ext {α : Type} {T : Ty α} {n : Nat} {F : Nat → Prop} {w w' : World} {v : Value} {l : List α} (h : SL T F w v l) (k : ExtF n w w') : SL T F w' v l := h.mono k.kept
theorem OwnS.ext {m : Nat} {w w' : World} {e : TypeId} {sz n : Nat} {v : Value} {xs : List Value} (h : OwnS w e sz v n xs) (k : ExtF m w w') : OwnS w' e sz v n xs := by
  refine ⟨h.1, ?_⟩
  rcases h.2 with h2 | ⟨g, cap, cur, hv, hg, hh, hr⟩
  · exact .inl h2
  · exact .inr ⟨g, cap, cur, hv, hg, k.block g _ hh (.inr rfl), hr⟩
theorem MapIs.ext {P : Program} {kt : TypeId} {κ : Type} {K : Key P kt κ} {n : Nat} {w w' : World} {b : Nat} {m : List (κ × Value)} (h : MapIs K w b m) (k : ExtF n w w') : MapIs K w' b m := by
  obtain ⟨es, cl, hh, he⟩ := h
  exact ⟨es, cl, k.block b _ hh (.inr rfl), he⟩

/-- Calling yield of loop l: it says true or false, and R holds of that and of the world. -/
def Yields (P : Program) (l : Nat) (args : Array Value) (W : World) (R : Bool → World → Prop) : Prop :=
  ∃ fn tmps assign body, (Instr.yield l args).run P W = .ok (.round l fn tmps assign body) W ∧ RoundIn (FR none) 0 P l fn tmps assign body W (fun e W' => ∃ b, e = .returned (.bool b) ∧ R b W')

theorem Yields.mono {P : Program} {l : Nat} {args : Array Value} {W : World} {R R' : Bool → World → Prop} (h : Yields P l args W R) (hr : ∀ b W', R b W' → R' b W') : Yields P l args W R' := by
  obtain ⟨fn, tmps, assign, body, h1, h2⟩ := h
  exact ⟨fn, tmps, assign, body, h1, h2.mono fun e W' ⟨b, he, hR⟩ => ⟨b, he, hr b W' hR⟩⟩

/-- What one round may do: M: the blocks that the loop's body may write. -/
structure Rnd {α : Type} (l : Nat) (J Jx : List α → (Nat → Prop) → World → Prop) (pre : List α) (M : Nat → Prop) (W : World) (b : Bool) (W' : World) : Prop where
  size : W.heap.size ≤ W'.heap.size
  kept : ∀ k, k < W.heap.size → ¬ M k → k ≠ l → W'.heap[k]? = W.heap[k]?
  yes : b = true → ∃ M', J pre M' W' ∧ ∀ k, M' k → (M k ∨ W.heap.size ≤ k) ∧ k < W'.heap.size
  no : b = false → ∃ M', Jx pre M' W'

/-- An iterator: called with whatever yield, it hands over a list of which 'Done' holds, or stops where a round said so. 'own': the blocks that it reads. -/
def IterOK {α : Type} (P : Program) (gf : FuncId) (cap : List Value) (enc : α → List Value) (Pos : List α → α → Prop) (Done : List α → Prop) (own : Nat → Prop) (w0 : World) : Prop :=
  ∀ (l : Nat) (J Jx : List α → (Nat → Prop) → World → Prop) (W : World) (M : Nat → Prop),
    (∀ k, own k → k < w0.heap.size → W.heap[k]? = w0.heap[k]?) → w0.heap.size ≤ W.heap.size → l < W.heap.size → (∀ k, own k → ¬ M k ∧ k ≠ l) → (∀ k, M k → k < W.heap.size) →
    (∀ pre M W1 W2, J pre M W1 → ExtF W.heap.size W1 W2 → J pre M W2) → (∀ pre M W1 W2, Jx pre M W1 → ExtF W.heap.size W1 W2 → Jx pre M W2) →
    (∀ pre x M W1, J pre M W1 → Pos pre x → (∀ k, M k → k < W1.heap.size) → l < W1.heap.size → Yields P l (enc x).toArray W1 (Rnd l J Jx (pre ++ [x]) M W1)) →
    J [] M W →
    Gives P gf (.func (.yield l) #[] #[] :: cap).toArray W fun _ W' => (∃ xs M', Done xs ∧ J xs M' W') ∨ (∃ pre M', Jx pre M' W')

section
variable {P : Program} {r : Option Nat} {Q : Exit → Act → World → Prop} {N : Nat} {ds : List Deferred} {ops rest : List Oper} {E : Env} {w : World} {G : Option Bool}
variable {d : Option Tmp} {ty : TypeId} {pos : String} {af : Array Edge} {gu : Option (Nat × Bool)}

/-- A call of yield. -/
theorem TW.yield {f : Operand} {l : Nat} {xs : List Operand} {vs : List Value} {ts : Array TypeId} {R : Bool → World → Prop} (hg : gu = none) (hd : okDst N d = true) (hf : ev E f = some (none, .func (.yield l) #[] #[])) (hv : Args N ds E none xs vs)
    (hy : Yields P l vs.toArray w R) (next : ∀ b w', R b w' → TW P r Q N ds ops rest (ins E d none (.bool b)) w') : TW P r Q N ds ops (⟨d, .call ⟨.value f, xs.toArray, ts⟩, ty, pos, af, gu⟩ :: rest) E w := by
  intro a ha
  obtain ⟨fn, tmps, assign, body, h1, h2⟩ := hy
  unfold wpListIn
  rw [if_pos (by simp [Region.wanted, hg])]
  refine ⟨fun _ _ => trivial, ?_⟩
  have hrun : (execOp a.eval ⟨d, .call ⟨.value f, xs.toArray, ts⟩, ty, pos, af, gu⟩).run P w = .ok (.round l fn tmps assign body) w := by
    simp [execOp, resolve, ha.eval hf trivial, hv a ha trivial, Deferred.ofValue, invoke, h1]
  rw [semAt_of rfl, hrun]
  refine ⟨fun h => by simp [Fence.wide] at h, ?_⟩
  have h3 : RoundIn (FR r) (0 - 1) P l fn tmps assign body w (fun e W' => ∃ b, e = .returned (.bool b) ∧ R b W') := h2
  refine h3.mono ?_
  rintro e W' ⟨b, rfl, hR⟩
  exact next b W' hR _ (ha.put hd (fun _ => rfl) (fun h => absurd trivial h))

/-- yield's parameters, in the round's frame -/
def insP (E : Env) : List Tmp → List Value → Env
  | t :: ts, v :: vs => insP ((t, none, v) :: E) ts vs
  | _, _ => E

theorem fit_insP : ∀ (ts : List Tmp) (vs : List Value) (E : Env) (tmps : Array Value), Fit N [] E { tmps := tmps, defers := [] } → ts.all (fun t => Nat.blt t N) = true →
    Fit N [] (insP E ts vs) { tmps := (ts.zip vs).foldl (fun t (p, v) => t.setIfInBounds p v) tmps, defers := [] }
  | [], vs, E, tmps, h, _ => by simpa [insP] using h
  | t :: ts, [], E, tmps, h, _ => by simpa [insP] using h
  | t :: ts, v :: vs, E, tmps, h, ht => by
    simp only [List.all_cons, Bool.and_eq_true] at ht
    simp only [insP, List.zip_cons_cons, List.foldl_cons]
    exact fit_insP ts vs _ _ (h.put (d := some t) (c := none) (v := v) (u := v) ht.1 (fun _ => rfl) (fun h => absurd trivial h)) ht.2

/-- The record of a loop. -/
def RecIs (N : Nat) (E : Env) (ps : List Tmp) (assign body : Code) (D : Nat) (W : World) (L : Nat) (st : LoopState) (pe : Option Code) : Prop :=
  ∃ fn tmps, Fit N [] E { tmps := tmps, defers := [] } ∧ W.heap[L]? = some (.loop { state := st, pending := pe, fn := fn, tmps := tmps, params := ps.toArray, assign := assign, body := body, defers := D })

/-- What a round's body must come to. -/
def rndPost (P : Program) (L : Nat) (R : Bool → World → Prop) : Exit → Act → World → Prop := roundPost P L (fun e W' => ∃ b, e = .returned (.bool b) ∧ R b W')

theorem Yields.of_round {ps : List Tmp} {assign body : Code} {D L : Nat} {W : World} {vs : List Value} {R : Bool → World → Prop} (hr : RecIs N E ps assign body D W L .ready none) (hl : vs.length = ps.length) (hps : ps.all (fun t => Nat.blt t N) = true)
    (h : CW P (some L) (Exit.then (fun a1 W1 => ∃ W2, (Instr.beginRound L).run P W1 = .ok () W2 ∧ body.wpIn (FR (some L)) 0 P (rndPost P L R) a1 W2) (fun _ _ _ => False)) N [] assign (insP E ps vs) W) : Yields P L vs.toArray W R := by
  obtain ⟨fn, tmps, hf, hh⟩ := hr
  refine ⟨fn, _, assign, body, run_yield hh (by simpa using hl), ?_⟩
  refine roundIn_of_wpIn trivial ?_
  have := h _ (fit_insP ps vs E tmps hf hps)
  have e : (ps.toArray.zip vs.toArray).foldl (fun tmps (t, a) => tmps.setIfInBounds t a) tmps = (ps.zip vs).foldl (fun t (p, v) => t.setIfInBounds p v) tmps := by simp
  rw [e]
  exact this

/-- the assignment of the loop's variables is over: the round begins -/
theorem KW.begin {ps : List Tmp} {assign body : Code} {D L : Nat} {W : World} {E' : Env} {R : Bool → World → Prop} (hr : RecIs N E ps assign body D W L .ready none)
    (h : ∀ W2, ExtF L W W2 → W2.heap.size = W.heap.size → (∀ k, k ≠ L → W2.heap[k]? = W.heap[k]?) → RecIs N E ps assign body D W2 L .busy none → CW P (some L) (rndPost P L R) N [] body E' W2) :
    KW N [] (Exit.then (fun a1 W1 => ∃ W2, (Instr.beginRound L).run P W1 = .ok () W2 ∧ body.wpIn (FR (some L)) 0 P (rndPost P L R) a1 W2) (fun _ _ _ => False) .normal) E' W := by
  intro a ha
  obtain ⟨fn, tmps, hf, hh⟩ := hr
  refine ⟨_, run_beginRound hh rfl, ?_⟩
  have hlt : L < W.heap.size := (Array.getElem?_eq_some_iff.1 hh).1
  exact h _ (ExtF.putObj hh rfl (Nat.le_refl _)) (by simp [World.putObj]) (fun k hk => World.putObj_heap_other hk) ⟨fn, tmps, hf, World.putObj_heap_same hlt⟩ a ha

theorem KW.endN {ps : List Tmp} {assign body : Code} {D L : Nat} {W : World} {E' : Env} {R : Bool → World → Prop} {st : LoopState} {pe : Option Code} (hr : RecIs N E ps assign body D W L st pe)
    (h : ∀ W2, ExtF L W W2 → W2.heap.size = W.heap.size → (∀ k, k ≠ L → W2.heap[k]? = W.heap[k]?) → RecIs N E ps assign body D W2 L .ready none → R true W2) : KW N [] (rndPost P L R .normal) E' W := by
  intro a _
  obtain ⟨fn, tmps, hf, hh⟩ := hr
  have hlt : L < W.heap.size := (Array.getElem?_eq_some_iff.1 hh).1
  exact ⟨_, _, run_endRound none hh, true, rfl, h _ (ExtF.putObj hh rfl (Nat.le_refl _)) (by simp [World.putObj]) (fun k hk => World.putObj_heap_other hk) ⟨fn, tmps, hf, World.putObj_heap_same hlt⟩⟩
theorem KW.endR {ps : List Tmp} {assign body : Code} {D L : Nat} {W : World} {E' : Env} {R : Bool → World → Prop} {st : LoopState} {pe : Option Code} (hr : RecIs N E ps assign body D W L st pe)
    (h : ∀ W2, ExtF L W W2 → W2.heap.size = W.heap.size → (∀ k, k ≠ L → W2.heap[k]? = W.heap[k]?) → RecIs N E ps assign body D W2 L .done (some .ret) → R false W2) : KW N [] (rndPost P L R .ret) E' W := by
  intro a _
  obtain ⟨fn, tmps, hf, hh⟩ := hr
  have hlt : L < W.heap.size := (Array.getElem?_eq_some_iff.1 hh).1
  exact ⟨_, _, run_endRound (some .ret) hh, false, rfl, h _ (ExtF.putObj hh rfl (Nat.le_refl _)) (by simp [World.putObj]) (fun k hk => World.putObj_heap_other hk) ⟨fn, tmps, hf, World.putObj_heap_same hlt⟩⟩
theorem KW.endX {ps : List Tmp} {assign body : Code} {D L id : Nat} {W : World} {E' : Env} {R : Bool → World → Prop} {st : LoopState} {pe : Option Code} (hr : RecIs N E ps assign body D W L st pe)
    (h : ∀ W2, ExtF L W W2 → W2.heap.size = W.heap.size → (∀ k, k ≠ L → W2.heap[k]? = W.heap[k]?) → RecIs N E ps assign body D W2 L .done (some (.exit id)) → R false W2) : KW N [] (rndPost P L R (.exit id)) E' W := by
  intro a _
  obtain ⟨fn, tmps, hf, hh⟩ := hr
  have hlt : L < W.heap.size := (Array.getElem?_eq_some_iff.1 hh).1
  exact ⟨_, _, run_endRound (some (.exit id)) hh, false, rfl, h _ (ExtF.putObj hh rfl (Nat.le_refl _)) (by simp [World.putObj]) (fun k hk => World.putObj_heap_other hk) ⟨fn, tmps, hf, World.putObj_heap_same hlt⟩⟩

theorem RecIs.ext {ps : List Tmp} {assign body : Code} {D L : Nat} {W W' : World} {st : LoopState} {pe : Option Code} {n : Nat} (hr : RecIs N E ps assign body D W L st pe) (h : ExtF n W W') (hn : L < n) : RecIs N E ps assign body D W' L st pe := by
  obtain ⟨fn, tmps, hf, hh⟩ := hr
  exact ⟨fn, tmps, hf, h.block L _ hh (.inl hn)⟩
theorem RecIs.kept {ps : List Tmp} {assign body : Code} {D L : Nat} {W W' : World} {st : LoopState} {pe : Option Code} (hr : RecIs N E ps assign body D W L st pe) (h : W'.heap[L]? = W.heap[L]?) : RecIs N E ps assign body D W' L st pe := by
  obtain ⟨fn, tmps, hf, hh⟩ := hr
  exact ⟨fn, tmps, hf, h.trans hh⟩
theorem RecIs.lt {ps : List Tmp} {assign body : Code} {D L : Nat} {W : World} {st : LoopState} {pe : Option Code} (hr : RecIs N E ps assign body D W L st pe) : L < W.heap.size := by
  obtain ⟨fn, tmps, hf, hh⟩ := hr
  exact (Array.getElem?_eq_some_iff.1 hh).1

/-- **The statement**, outside of any round. J: what holds between two rounds; Jx: what holds where a round has left by c. -/
theorem CW.range {α : Type} {g : Operand} {ps : List Tmp} {assign body : Code} {gf : FuncId} {cap : List Value} {enc : α → List Value} {Pos : List α → α → Prop} {Done : List α → Prop} {own : Nat → Prop}
    (hg : ev E g = some (none, .func (.func gf) #[] cap.toArray)) (he : enters P gf = true) (hit : IterOK P gf cap enc Pos Done own w) (hps : ps.all (fun t => Nat.blt t N) = true) (hlen : ∀ x, (enc x).length = ps.length)
    (J : List α → (Nat → Prop) → World → Prop) (Jx : Code → List α → (Nat → Prop) → World → Prop) (M : Nat → Prop) (hM : ∀ k, M k → k < w.heap.size ∧ ¬ own k) (hown : ∀ k, own k → k < w.heap.size)
    (hJ : ∀ pre M W1 W2, J pre M W1 → ExtF w.heap.size W1 W2 → J pre M W2) (hJx : ∀ c pre M W1 W2, Jx c pre M W1 → ExtF w.heap.size W1 W2 → Jx c pre M W2) (h0 : J [] M w)
    (round : ∀ D L pre x M W, w.heap.size ≤ D → D < L → J pre M W → Pos pre x → (∀ k, M k → k < W.heap.size) → ¬ M L → ¬ M D → RecIs N E ps assign body D W L .ready none →
      CW P (some L) (Exit.then (fun a1 W1 => ∃ W2, (Instr.beginRound L).run P W1 = .ok () W2 ∧
        body.wpIn (FR (some L)) 0 P (rndPost P L (Rnd L (fun pre M' W' => J pre M' W' ∧ ¬ M' L ∧ ¬ M' D ∧ RecIs N E ps assign body D W' L .ready none) (fun pre M' W' => ∃ c, Jx c pre M' W' ∧ RecIs N E ps assign body D W' L .done (some c)) (pre ++ [x]) M W)) a1 W2) (fun _ _ _ => False)) N [] assign (insP E ps (enc x)) W)
    (done : ∀ D xs M W, w.heap.size ≤ D → Done xs → J xs M W → W.heap[D]? = some (.deferred (some [])) → KW N ({ target := .collected D, args := #[] } :: ds) (Q .normal) E W)
    (stop : ∀ D c pre M W, w.heap.size ≤ D → Jx c pre M W → W.heap[D]? = some (.deferred (some [])) → CW P none Q N ({ target := .collected D, args := #[] } :: ds) c E W) :
    CW P none Q N ds (.rangeFunc g ps.toArray assign body) E w := by
  intro a ha
  refine wpIn_rangeFunc fun fn _ => ?_
  obtain ⟨W1, hW1⟩ : ∃ W1, (w.alloc (.deferred (some []))).alloc (.loop { state := .ready, pending := none, fn := fn, tmps := a.tmps, params := ps.toArray, assign := assign, body := body, defers := w.heap.size }) = W1 := ⟨_, rfl⟩
  have hsz : W1.heap.size = w.heap.size + 2 := by rw [← hW1]; simp
  have hL1 : W1.heap[w.heap.size + 1]? = some (.loop { state := .ready, pending := none, fn := fn, tmps := a.tmps, params := ps.toArray, assign := assign, body := body, defers := w.heap.size }) := by
    rw [← hW1]; have := World.alloc_heap_new (w.alloc (.deferred (some []))) (.loop { state := .ready, pending := none, fn := fn, tmps := a.tmps, params := ps.toArray, assign := assign, body := body, defers := w.heap.size }); rwa [World.size_alloc] at this
  have hD1 : W1.heap[w.heap.size]? = some (.deferred (some [])) := by
    rw [← hW1]; exact (Below.heap_alloc _ _ _ (by simp)).trans (World.alloc_heap_new w _)
  have hb1 : Below w.heap.size w W1 := by
    rw [← hW1]; exact ((Below.refl _ w).alloc (Nat.le_refl _) _).alloc (by simp) _
  have hrec : RecIs N E ps assign body w.heap.size W1 (w.heap.size + 1) .ready none := ⟨fn, a.tmps, ⟨ha.size, rfl, ha.slots⟩, hL1⟩
  let J' : List α → (Nat → Prop) → World → Prop := fun pre M W => (J pre M W ∧ ¬ M (w.heap.size + 1) ∧ ¬ M w.heap.size ∧ RecIs N E ps assign body w.heap.size W (w.heap.size + 1) .ready none) ∧ W.heap[w.heap.size]? = some (.deferred (some []))
  let Jx' : List α → (Nat → Prop) → World → Prop := fun pre M W => (∃ c, Jx c pre M W ∧ RecIs N E ps assign body w.heap.size W (w.heap.size + 1) .done (some c)) ∧ W.heap[w.heap.size]? = some (.deferred (some []))
  have hM' : ∀ k, M k → k < w.heap.size := fun k hk => (hM k hk).1
  have hgives := hit (w.heap.size + 1) J' Jx' W1 M (fun k hk hlt => hb1.block k hlt) (by omega) (by omega)
    (fun k hk => ⟨fun hm => (hM k hm).2 hk, by have := hown k hk; omega⟩) (fun k hk => by have := hM' k hk; omega)
    (fun pre M Wa Wb ⟨⟨h1, h2, h3, h4⟩, h5⟩ hx => ⟨⟨hJ _ _ _ _ h1 (hx.less (by omega)), h2, h3, h4.ext hx (by omega)⟩, hx.block _ _ h5 (.inl (by omega))⟩)
    (fun pre M Wa Wb ⟨⟨c, h1, h2⟩, h5⟩ hx => ⟨⟨c, hJx _ _ _ _ _ h1 (hx.less (by omega)), h2.ext hx (by omega)⟩, hx.block _ _ h5 (.inl (by omega))⟩)
    (fun pre x M2 Wa ⟨⟨h1, h2, h3, h4⟩, h5⟩ hpos hMlt hlt => by
      have hy := Yields.of_round (P := P) (R := Rnd (w.heap.size + 1) (fun pre M' W' => J pre M' W' ∧ ¬ M' (w.heap.size + 1) ∧ ¬ M' w.heap.size ∧ RecIs N E ps assign body w.heap.size W' (w.heap.size + 1) .ready none) (fun pre M' W' => ∃ c, Jx c pre M' W' ∧ RecIs N E ps assign body w.heap.size W' (w.heap.size + 1) .done (some c)) (pre ++ [x]) M2 Wa) (vs := enc x) h4 (hlen x) hps
        (round w.heap.size (w.heap.size + 1) pre x M2 Wa (Nat.le_refl _) (by omega) h1 hpos hMlt h2 h3 h4)
      refine hy.mono fun b W' hR => ⟨hR.size, hR.kept, fun hb => ?_, fun hb => ?_⟩
      · obtain ⟨M', hj, hm⟩ := hR.yes hb
        exact ⟨M', ⟨hj, (hR.kept _ (by omega) h3 (by omega)).trans h5⟩, hm⟩
      · obtain ⟨M', hj⟩ := hR.no hb
        exact ⟨M', hj, (hR.kept _ (by omega) h3 (by omega)).trans h5⟩)
    ⟨⟨hJ _ _ _ _ h0 (.of_below hb1), fun hm => by have := hM' _ hm; omega, fun hm => by have := hM' _ hm; omega, hrec⟩, hD1⟩
  refine ⟨w.heap.size + 1, [{ target := .collected w.heap.size, args := #[] }], W1, { target := .fn (.func gf) cap.toArray, args := #[.func (.yield (w.heap.size + 1)) #[] #[]] }, W1, gf,
    (.func (.yield (w.heap.size + 1)) #[] #[] :: cap).toArray, W1, ?_, ?_, fun _ _ => trivial, ?_, fun h => by simp [Fence.wide] at h, ?_⟩
  · rw [← hW1]; exact run_enterLoop_outer _ _ _ _ _
  · simp only [resolve, ha.eval hg trivial]
    simp [Deferred.ofValue, Act.eval]
  · simp [invoke, run_enters he]
  · refine CallsIn.mono (callsIn_of hgives) ?_
    rintro e W2 ⟨v, rfl, hR⟩
    rcases hR with ⟨xs, M', hdone, ⟨h1, h2, h3, fn', tmps', hf', hh'⟩, h5⟩ | ⟨pre, M', ⟨c, h1, fn', tmps', hf', hh'⟩, h5⟩
    · have hlt : w.heap.size + 1 < W2.heap.size := (Array.getElem?_eq_some_iff.1 hh').1
      refine ⟨_, _, run_endLoop hh' (by simp), ?_⟩
      refine done w.heap.size xs M' _ (Nat.le_refl _) hdone (hJ _ _ _ _ h1 (ExtF.putObj hh' rfl (by omega))) ((World.putObj_heap_other (by omega)).trans h5) _ ⟨ha.size, by simp [ha.defers], ha.slots⟩
    · have hlt : w.heap.size + 1 < W2.heap.size := (Array.getElem?_eq_some_iff.1 hh').1
      refine ⟨_, _, run_endLoop hh' (by simp), ?_⟩
      exact stop w.heap.size c pre M' _ (Nat.le_refl _) (hJx _ _ _ _ _ h1 (ExtF.putObj hh' rfl (by omega))) ((World.putObj_heap_other (by omega)).trans h5) _ ⟨ha.size, by simp [ha.defers], ha.slots⟩

variable {fn : Func} {R : Value → World → Prop}
/-- Leaving a function with loops' marks. -/
theorem retM {D : Nat} {v : Value} (hres : ∀ (a : Act) (W : World), Fit N ({ target := .collected D, args := #[] } :: []) E a → W = w.putObj D (.deferred none) → (results fn a.tmps).run P W = .ok v W) (hD : w.heap[D]? = some (.deferred (some [])))
    (hR : R v (w.putObj D (.deferred none))) (e : Exit) (he : e = .ret ∨ e = .normal) : KW N ({ target := .collected D, args := #[] } :: []) (bodyPostM (FR none) 0 P fn (fun e w' => ∃ v, e = .returned v ∧ R v w') e) E w := by
  intro a ha
  have key : LeavesInM (FR none) 0 P fn a.tmps (fun e w' => ∃ v, e = .returned v ∧ R v w') a.defers .returning w := by
    rw [ha.defers]
    refine ⟨by simp, .inl ⟨D, _, rfl, run_takeDeferred hD, ?_⟩⟩
    exact ⟨v, hres a _ ha rfl, v, rfl, hR⟩
  rcases he with rfl | rfl
  · exact key
  · exact key
/-- Leaving before any loop. -/
theorem ret1M0 {s : Nat} {v : Value} (hres : fn.results = #[.tmp s]) (hs : look E s = some (none, v)) (hR : R v w) : KW N [] (bodyPostM (FR none) 0 P fn (fun e w' => ∃ v, e = .returned v ∧ R v w') .ret) E w := by
  intro a ha
  have key : LeavesInM (FR none) 0 P fn a.tmps (fun e w' => ∃ v, e = .returned v ∧ R v w') a.defers .returning w := by
    rw [ha.defers]
    exact ⟨v, by rw [results_tmp hres a.tmps P w, (ha.slots s none v hs).1 trivial], v, rfl, hR⟩
  exact key
theorem ret1M {D s : Nat} {v : Value} (hres : fn.results = #[.tmp s]) (hs : look E s = some (none, v)) (hD : w.heap[D]? = some (.deferred (some []))) (hR : R v (w.putObj D (.deferred none))) :
    KW N ({ target := .collected D, args := #[] } :: []) (bodyPostM (FR none) 0 P fn (fun e w' => ∃ v, e = .returned v ∧ R v w') .ret) E w :=
  retM (fun a W ha _ => by rw [results_tmp hres a.tmps P W, (ha.slots s none v hs).1 trivial]) hD hR .ret (.inl rfl)
theorem retCM {D s : Nat} {t : TypeId} {g : Nat} {v : Value} (hres : fn.results = #[.cell s t]) (h1 : one P t = true) (hs : look E s = some (none, .pointer (some ⟨g, 0, none⟩))) (hB : Blk w g t [v]) (hD : w.heap[D]? = some (.deferred (some []))) (hR : R v (w.putObj D (.deferred none))) :
    KW N ({ target := .collected D, args := #[] } :: []) (bodyPostM (FR none) 0 P fn (fun e w' => ∃ v, e = .returned v ∧ R v w') .ret) E w := by
  refine retM (fun a W ha hW => ?_) hD hR .ret (.inl rfl)
  have e : a.tmps.getD s undef = .pointer (some ⟨g, 0, none⟩) := (ha.slots s none _ hs).1 trivial
  have hne : g ≠ D := fun e => by subst e; unfold Blk at hB; rw [hD] at hB; cases hB
  have hc : W.cell? ⟨g, 0, none⟩ = some v := by
    rw [hW]
    have : Blk (w.putObj D (.deferred none)) g t [v] := (World.putObj_heap_other hne).trans hB
    exact this.cell 0
  simp only [Array.getD_eq_getD_getElem?] at e
  simp [results, hres, e, asAddr, run_loadVar1 h1 hc]
end
end Go.PF
