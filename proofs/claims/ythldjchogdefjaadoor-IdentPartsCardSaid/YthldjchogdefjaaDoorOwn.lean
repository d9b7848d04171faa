/- Between slices that read as lists and rows that the call owns. -/
import Derived.Test.YthldjchogdefjaaDoorRange
namespace Go.PF
open Go.RowKit
variable {α : Type}

theorem add_add (a : Addr) (i j : Nat) : (a.add i).add j = a.add (i + j) := by
  unfold Addr.add
  by_cases hi : i = 0 <;> by_cases hj : j = 0 <;> simp [hi, hj, Nat.add_assoc]

theorem flat_at (f : α → List Value) (n : Nat) : ∀ (l : List α), (∀ x ∈ l, (f x).length = n) → ∀ (i j : Nat) (x : α), l[i]? = some x → j < n → (l.flatMap f)[i * n + j]? = (f x)[j]?
  | [], _, i, j, x, hx, _ => by simp at hx
  | y :: l, h, 0, j, x, hx, hj => by
    simp at hx
    subst hx
    rw [List.flatMap_cons, List.getElem?_append_left (by rw [h y (by simp)]; omega)]
    simp
  | y :: l, h, i + 1, j, x, hx, hj => by
    simp at hx
    rw [List.flatMap_cons, List.getElem?_append_right (by rw [h y (by simp), Nat.succ_mul]; omega), h y (by simp)]
    have : (i + 1) * n + j - n = i * n + j := by rw [Nat.succ_mul]; omega
    rw [this]
    exact flat_at f n l (fun z hz => h z (by simp [hz])) i j x hx hj

theorem flat_len (f : α → List Value) (n : Nat) : ∀ (l : List α), (∀ x ∈ l, (f x).length = n) → (l.flatMap f).length = l.length * n
  | [], _ => by simp
  | y :: l, h => by
    rw [List.flatMap_cons, List.length_append, h y (by simp), flat_len f n l (fun z hz => h z (by simp [hz])), List.length_cons, Nat.succ_mul]
    omega

theorem flat_inv (f : α → List Value) (n : Nat) (hn : 0 < n) (l : List α) (h : ∀ x ∈ l, (f x).length = n) (j : Nat) (u : Value) (hj : (l.flatMap f)[j]? = some u) : ∃ x, l[j / n]? = some x ∧ (f x)[j % n]? = some u := by
  have hlt : j < l.length * n := by rw [← flat_len f n l h]; exact (List.getElem?_eq_some_iff.1 hj).1
  have hd : j / n < l.length := (Nat.div_lt_iff_lt_mul hn).2 hlt
  refine ⟨l[j / n], List.getElem?_eq_getElem hd, ?_⟩
  rw [← flat_at f n l h (j / n) (j % n) l[j / n] (List.getElem?_eq_getElem hd) (Nat.mod_lt _ hn)]
  rw [← hj]
  congr 1
  rw [Nat.mul_comm]
  exact Nat.div_add_mod j n

/-- An owned row read as a list. -/
theorem OwnS.toSL {T : Ty α} {F : Nat → Prop} {w : World} {e : TypeId} {v : Value} {l : List α} (f : α → List Value) (hf : ∀ x ∈ l, T.rep F w (f x) x) (h : OwnS w e T.n v l.length (l.flatMap f)) (hF : ∀ g, v.ownBlock = some g → F g) (hn : l.length ≤ 9223372036854775807) : SL T F w v l := by
  obtain ⟨A, cap, hv, h1, h2, h3⟩ := h.form
  refine ⟨A, cap, hv, h1, hn, fun i x hx => ?_⟩
  have hmem : x ∈ l := List.mem_of_getElem? hx
  have hlen : ∀ y ∈ l, (f y).length = T.n := fun y hy => T.len _ _ _ _ (hf y hy)
  have hrep := hf x hmem
  rcases Nat.eq_zero_or_pos T.n with h0 | h0
  · -- no cells at all
    have hil : i < l.length := (List.getElem?_eq_some_iff.1 hx).1
    rcases h.2 with ⟨rfl, hl⟩ | ⟨g, cap', cur, hv', _, _, _⟩
    · omega
    · rw [hv'] at hv
      simp only [Value.slice.injEq] at hv
      obtain ⟨rfl, _, _⟩ := hv
      refine ⟨⟨g, 0, none⟩, f x, rfl, hF g (by rw [hv']; rfl), fun j u hj => ?_, hrep⟩
      have : (f x).length = 0 := by rw [hlen x hmem, h0]
      rw [List.eq_nil_of_length_eq_zero this] at hj
      simp at hj
  · obtain ⟨u0, hu0⟩ : ∃ u, (f x)[0]? = some u := ⟨_, List.getElem?_eq_getElem (by rw [hlen x hmem]; exact h0)⟩
    have h00 := flat_at f T.n l hlen i 0 x hx h0
    rw [hu0] at h00
    obtain ⟨g, hA, hown, _⟩ := h3 _ _ h00
    refine ⟨⟨g, 0, none⟩, f x, hA, hF g hown, fun j u hj => ?_, hrep⟩
    have hjn : j < T.n := by rw [← hlen x hmem]; exact (List.getElem?_eq_some_iff.1 hj).1
    obtain ⟨g', hA', _, hc, _⟩ := h3 (i * T.n + j) u (by rw [flat_at f T.n l hlen i j x hx hjn]; exact hj)
    rw [hA] at hA'
    simp only [Option.some.injEq, Addr.mk.injEq] at hA'
    obtain ⟨rfl, _, _⟩ := hA'
    rw [add_add]
    have e1 : Addr.add ⟨g, 0, none⟩ (i * T.n + j) = ⟨g, i * T.n + j, none⟩ := by unfold Addr.add; split <;> simp_all
    rw [e1]
    exact hc

/-- The cells of a slice whose elements' cells are known. -/
theorem SL.cells {T : Ty α} {F : Nat → Prop} {w : World} {A : Option Addr} {n cap : Nat} {l : List α} (f : α → List Value) (hf : ∀ F w cs x, T.rep F w cs x → cs = f x) (h0 : 0 < T.n) (h : SL T F w (.slice A n cap) l) (hlen : ∀ x ∈ l, (f x).length = T.n) :
    ∀ j u, (l.flatMap f)[j]? = some u → ∃ ad, A = some ad ∧ w.cell? (ad.add j) = some u := by
  intro j u hj
  obtain ⟨A', cap', hv, _, _, h3⟩ := h
  simp only [Value.slice.injEq] at hv
  obtain ⟨rfl, _, rfl⟩ := hv
  obtain ⟨x, hx, hu⟩ := flat_inv f T.n h0 l hlen j u hj
  obtain ⟨ad, cs, ha, _, hc, hr⟩ := h3 _ x hx
  rw [hf _ _ _ _ hr] at hc
  refine ⟨ad, ha, ?_⟩
  have := hc (j % T.n) u hu
  rw [add_add, Nat.mul_comm, Nat.div_add_mod] at this
  exact this

theorem flat_int (l : List Int) : l.flatMap (fun x => [Value.int .i64 x]) = l.map (Value.int .i64) := by
  induction l with
  | nil => rfl
  | cons x l ih => simp [ih]

theorem OwnS.toInts {F : Nat → Prop} {w : World} {e : TypeId} {v : Value} {l : List Int} (h : OwnS w e 1 v l.length (l.map (Value.int .i64))) (hi : ∀ x ∈ l, I64 x) (hF : ∀ g, v.ownBlock = some g → F g) (hn : l.length ≤ 9223372036854775807) : SL intT F w v l :=
  OwnS.toSL (T := intT) (fun x => [Value.int .i64 x]) (fun x hx => ⟨rfl, hi x hx⟩) (by rw [flat_int]; exact h) hF hn

/-- A literal just made is owned. -/
theorem OwnS.of_blk {w : World} {g : Nat} {e : TypeId} {cs : List Value} {n sz : Nat} (h : Blk w g e cs) (hl : cs.length = n * sz) (hn : n ≤ 9223372036854775807) : OwnS w e sz (.slice (some ⟨g, 0, none⟩) n n) n cs :=
  ⟨hl, .inr ⟨g, n, cs.toArray, rfl, Nat.zero_le _, h, Nat.le_refl _, by simp only [maxLen]; omega, by simp [hl], by simp [← hl]⟩⟩

theorem grown_below {w w' : World} {v : Value} (hg : w.grownBy w' v.ownBlock) {w0 : World} (hb : Below w0.heap.size w0 w) (hv : ∀ g, v.ownBlock = some g → w0.heap.size ≤ g) : Below w0.heap.size w0 w' := hb.grown hg hb.size hv

/-- What is new in an append: where the row lies now. -/
theorem new_own {w : World} {v v' : Value} {n0 : Nat} (h : v'.ownBlock = v.ownBlock ∨ v'.ownBlock = some w.heap.size) (hv : ∀ g, v.ownBlock = some g → n0 ≤ g) (hn : n0 ≤ w.heap.size) : ∀ g, v'.ownBlock = some g → n0 ≤ g := by
  intro g hg
  rcases h with h | h
  · exact hv g (h ▸ hg)
  · rw [h] at hg; simp only [Option.some.injEq] at hg; omega

/-! ### stores into an owned row -/
theorem addr0 (g j : Nat) : Addr.add ⟨g, 0, none⟩ j = ⟨g, j, none⟩ := by unfold Addr.add; split <;> simp_all

theorem OwnS.set {w : World} {e : TypeId} {sz n : Nat} {v : Value} {xs : List Value} {g : Nat} (h : OwnS w e sz v n xs) (hg : v.ownBlock = some g) {j : Nat} (hj : j < xs.length) (u : Value) : OwnS (w.setCell ⟨g, j, none⟩ u) e sz v n (xs.set j u) := by
  refine ⟨by simp [h.1], ?_⟩
  rcases h.2 with ⟨rfl, _⟩ | ⟨g', cap, cur, hv, hb, hh, h1, h2, h3, h4⟩
  · simp [Value.ownBlock] at hg
  · rw [hv] at hg
    simp [Value.ownBlock] at hg
    subst hg
    refine .inr ⟨g', cap, cur.setIfInBounds j u, hv, hb, ?_, h1, h2, by simp [h3], ?_⟩
    · simp [World.setCell, Array.getElem?_modify, hh]
    · rw [← h4]
      simp [List.take_set]

theorem grown_setCell (w : World) (g j : Nat) (u : Value) : w.grownBy (w.setCell ⟨g, j, none⟩ u) (some g) :=
  ⟨rfl, rfl, rfl, by simp [World.setCell], fun k hk hne => Below.heap_setCell w ⟨g, j, none⟩ u k (fun e => hne (by rw [e]))⟩

theorem grown_trans {a b c : World} {row : Option Nat} (h : a.grownBy b row) (k : b.grownBy c row) : a.grownBy c row :=
  ⟨k.os.trans h.os, k.tape.trans h.tape, k.output.trans h.output, Nat.le_trans h.size k.size, fun i hi hne => (k.block i (Nat.lt_of_lt_of_le hi h.size) hne).trans (h.block i hi hne)⟩

def splice (xs : List Value) (o : Nat) (cs : List Value) : List Value := xs.take o ++ cs ++ xs.drop (o + cs.length)

theorem splice_cons (xs : List Value) (o : Nat) (c : Value) (cs : List Value) (h : o < xs.length) : splice (xs.set o c) (o + 1) cs = splice xs o (c :: cs) := by
  unfold splice
  have e1 : (xs.set o c).take (o + 1) = xs.take o ++ [c] := by
    rw [List.take_add_one, List.take_set_of_le (Nat.le_refl _)]
    simp [h]
  have e2 : (xs.set o c).drop (o + 1 + cs.length) = xs.drop (o + (c :: cs).length) := by
    rw [List.drop_set_of_lt (by omega)]
    congr 1
    simp; omega
  rw [e1, e2]
  simp

theorem run_storeCells_own {P : Program} {e : TypeId} {sz n : Nat} {v : Value} {g : Nat} (hg : v.ownBlock = some g) : ∀ (cs : List Value) (w : World) (xs : List Value) (o k : Nat), OwnS w e sz v n xs → o + k + cs.length ≤ xs.length → (∀ c ∈ cs, c.oneCell' = true) →
    ∃ w', (storeCells ⟨g, o, none⟩ cs k).run P w = .ok () w' ∧ OwnS w' e sz v n (splice xs (o + k) cs) ∧ w.grownBy w' (some g) ∧ w'.heap.size = w.heap.size
  | [], w, xs, o, k, h, hl, _ => ⟨w, by simp [storeCells], by simpa [splice] using h, ⟨rfl, rfl, rfl, Nat.le_refl _, fun _ _ _ => rfl⟩, rfl⟩
  | c :: cs, w, xs, o, k, h, hl, h1 => by
    simp only [List.length_cons] at hl
    have hlt : o + k < xs.length := by omega
    have hlx := h.1
    obtain ⟨A, cap, hv, _, _, hc⟩ := h.form
    obtain ⟨g', hA, hown, hcell, hfr⟩ := hc (o + k) xs[o + k] (List.getElem?_eq_getElem hlt)
    rw [hg] at hown
    simp only [Option.some.injEq] at hown
    subst hown
    have e1 : Addr.add ⟨g, o, none⟩ k = ⟨g, o + k, none⟩ := by unfold Addr.add; split <;> simp_all
    have hst : (store (Addr.add ⟨g, o, none⟩ k) c).run P w = .ok () (w.setCell ⟨g, o + k, none⟩ c) := by
      rw [e1, run_store P w _ c .plain (h1 c (by simp))]
      simp [hcell, hfr]
    obtain ⟨w', hr, ho, hgw, hsz⟩ := run_storeCells_own (P := P) hg cs (w.setCell ⟨g, o + k, none⟩ c) (xs.set (o + k) c) o (k + 1) (h.set hg hlt c) (by simp; omega) (fun c' hc' => h1 c' (by simp [hc']))
    refine ⟨w', ?_, ?_, grown_trans (grown_setCell w g (o + k) c) hgw, by rw [hsz]; simp⟩
    · simp only [storeCells, Sem.run_bind, hst, Result.andThen_ok, hr]
    · rw [show o + (k + 1) = (o + k) + 1 by omega, splice_cons xs (o + k) c cs hlt] at ho
      exact ho

section
variable {P : Program} {r : Option Nat} {Q : Exit → Act → World → Prop} {N : Nat} {ds : List Deferred} {ops rest : List Oper} {E : Env} {w : World}
variable {ty : TypeId} {pos : String} {af : Array Edge} {gu : Option (Nat × Bool)} {x y : Operand}

/-- 's[i] = v', s the call's own, v a struct -/
theorem TW.storeOwnS {t e : TypeId} {sz n c g i m : Nat} {xs cs : List Value} (hg : gu = none) (hs : (P.info? t).map (·.size) = some m) (hx : ev E x = some (none, .pointer (some (Addr.add ⟨g, 0, none⟩ (i * sz))))) (hy : ev E y = some (none, .agg cs.toArray)) (hown : OwnS w e sz (.slice (some ⟨g, 0, none⟩) n c) n xs)
    (hi : i < n) (hm : cs.length = m) (hmz : m = sz) (h1 : cs.all (·.oneCell') = true)
    (next : ∀ w', OwnS w' e sz (.slice (some ⟨g, 0, none⟩) n c) n (splice xs (i * sz) cs) → w.grownBy w' (some g) → w'.heap.size = w.heap.size → TW P r Q N ds ops rest E w') : TW P r Q N ds ops (⟨none, .store t x y, ty, pos, af, gu⟩ :: rest) E w := by
  subst hm
  have hle : i * sz + sz ≤ xs.length := by rw [hown.1, ← Nat.succ_mul]; exact Nat.mul_le_mul_right _ hi
  obtain ⟨w', hr, ho, hgw, hsz⟩ := run_storeCells_own (P := P) (e := e) (sz := sz) (n := n) (v := .slice (some ⟨g, 0, none⟩) n c) (g := g) rfl cs w xs (i * sz) 0 hown (by omega) (fun c hc => List.all_eq_true.1 h1 c hc)
  refine TW.eff0 (w' := w') hg rfl rfl (fun a ha => ?_) (next w' (by simpa using ho) hgw hsz)
  simp only [execOp]
  rw [ha.eval hx trivial, ha.eval hy trivial]
  rw [addr0]
  simp [Instr.storeAt, Instr.sureAddr, storeVar, run_sizeOf hs, Value.cells, hr]

/-- 's[i].f = v', s the call's own, f of one cell -/
theorem TW.storeOwn1 {t e : TypeId} {sz n c g i f : Nat} {xs : List Value} {u : Value} (hg : gu = none) (hs : (P.info? t).map (·.size) = some 1) (hx : ev E x = some (none, .pointer (some ((Addr.add ⟨g, 0, none⟩ (i * sz)).add f)))) (hy : ev E y = some (none, u)) (hown : OwnS w e sz (.slice (some ⟨g, 0, none⟩) n c) n xs)
    (hi : i < n) (hf : f < sz) (h1 : u.oneCell' = true)
    (next : ∀ w', OwnS w' e sz (.slice (some ⟨g, 0, none⟩) n c) n (xs.set (i * sz + f) u) → w.grownBy w' (some g) → w'.heap.size = w.heap.size → TW P r Q N ds ops rest E w') : TW P r Q N ds ops (⟨none, .store t x y, ty, pos, af, gu⟩ :: rest) E w := by
  have hle : i * sz + sz ≤ xs.length := by rw [hown.1, ← Nat.succ_mul]; exact Nat.mul_le_mul_right _ hi
  have hlt : i * sz + f < xs.length := by omega
  obtain ⟨A, cap, hv, _, _, hc⟩ := hown.form
  obtain ⟨g', _, hown', hcell, hfr⟩ := hc (i * sz + f) _ (List.getElem?_eq_getElem hlt)
  simp [Value.ownBlock] at hown'
  subst hown'
  have e1 : (Addr.add ⟨g, 0, none⟩ (i * sz)).add f = ⟨g, i * sz + f, none⟩ := by rw [add_add, addr0]
  refine TW.store1 hg hs hx hy (by rw [e1]; exact hcell) (by rw [e1]; exact hfr) h1 ?_
  rw [e1]
  exact next _ (hown.set rfl hlt u) (grown_setCell w g _ u) (by simp)
end

theorem splice_flat (f : α → List Value) (n : Nat) : ∀ (l : List α), (∀ x ∈ l, (f x).length = n) → ∀ (i : Nat) (x : α), i < l.length → (f x).length = n → splice (l.flatMap f) (i * n) (f x) = (l.set i x).flatMap f
  | [], _, i, x, hi, _ => by simp at hi
  | y :: l, h, 0, x, hi, hx => by
    have hy := h y (by simp)
    have e : ((f y) ++ l.flatMap f).drop n = l.flatMap f := by rw [← hy]; simp
    simp [splice, hx, e]
  | y :: l, h, i + 1, x, hi, hx => by
    have hy := h y (by simp)
    have ih := splice_flat f n l (fun z hz => h z (by simp [hz])) i x (by simpa using hi) hx
    unfold splice at ih ⊢
    simp only [List.flatMap_cons, List.set_cons_succ]
    have e1 : (i + 1) * n = (f y).length + i * n := by rw [hy, Nat.succ_mul]; omega
    rw [e1, List.take_length_add_append, Nat.add_assoc, List.drop_length_add_append]
    rw [List.append_assoc, List.append_assoc, ← ih]
    simp

theorem set_flat (f : α → List Value) (n : Nat) : ∀ (l : List α), (∀ x ∈ l, (f x).length = n) → ∀ (i j : Nat) (x y : α) (u : Value), l[i]? = some x → j < n → f y = (f x).set j u → (l.flatMap f).set (i * n + j) u = (l.set i y).flatMap f
  | [], _, i, j, x, y, u, hx, _, _ => by simp at hx
  | z :: l, h, 0, j, x, y, u, hx, hj, hy => by
    simp at hx
    subst hx
    simp only [List.flatMap_cons, List.set_cons_zero, Nat.zero_mul, Nat.zero_add]
    rw [List.set_append_left _ _ (by rw [h z (by simp)]; exact hj), hy]
  | z :: l, h, i + 1, j, x, y, u, hx, hj, hy => by
    simp at hx
    have ih := set_flat f n l (fun w hw => h w (by simp [hw])) i j x y u hx hj hy
    simp only [List.flatMap_cons, List.set_cons_succ]
    have e1 : (i + 1) * n + j = (f z).length + (i * n + j) := by rw [h z (by simp), Nat.succ_mul]; omega
    rw [e1, List.set_append_right _ _ (by omega), ← ih]
    congr 2
    omega
end Go.PF
