/- Literals, append, maps. -/
import Derived.Test.YthldjchogdefjaaDoorRep
import Derived.Maps.AppendAt
namespace Go.PF
open Go.RowKit

section
variable {P : Program} {r : Option Nat} {Q : Exit → Act → World → Prop} {N : Nat} {ds : List Deferred} {ops rest : List Oper} {E : Env} {D : DE} {w : World} {G : Option Bool} {Fin : DE → Prop} {md : Mode}
variable {d : Option Tmp} {ty : TypeId} {pos : String} {af : Array Edge} {gu : Option (Nat × Bool)}
variable {x y z : Operand} {cx cy cz : Option Bool} {ρ : Operand → Value}

/-! ### '[]T{..}', every place written -/
def number {α : Type} (l : List α) : List (Nat × α) := (l.zipIdx 0).map fun p => (p.2, p.1)

theorem map_number {α β : Type} (f : α → β) (l : List α) : (number l).map (fun p => (p.1, f p.2)) = number (l.map f) := by
  simp [number, List.zipIdx_map, Function.comp_def]

/-- the size of a type's values, which is not 0, and that a zero value is at hand -/
def elemOK (P : Program) (t e : TypeId) (sz : Nat) : Bool := match P.underlying t, P.info? e with
  | some (.slice e'), some i => match i.zero with
    | some zv => Nat.beq e' e && Nat.beq i.size sz && Nat.beq zv.cells.size sz && Nat.blt 0 sz
    | none => false
  | _, _ => false

theorem elemOK_spec {t e : TypeId} {sz : Nat} (h : elemOK P t e sz = true) : ∃ i zv, P.underlying t = some (.slice e) ∧ P.info? e = some i ∧ i.zero = some zv ∧ i.size = sz ∧ zv.cells.size = sz ∧ 0 < sz := by
  unfold elemOK at h
  split at h
  · rename_i e' i hu hi
    split at h
    · rename_i zv hz
      simp only [Bool.and_eq_true] at h
      obtain ⟨⟨⟨h1, h2⟩, h3⟩, h4⟩ := h
      have := Nat.eq_of_beq_eq_true h1
      subst this
      exact ⟨i, zv, hu, hi, hz, Nat.eq_of_beq_eq_true h2, Nat.eq_of_beq_eq_true h3, blt_iff.1 h4⟩
    · cases h
  · cases h

theorem run_buildSlice_dense {t e : TypeId} {sz : Nat} (he : elemOK P t e sz = true) {vs : List Value} (hv : ∀ v ∈ vs, v.cells.size = sz) (hsm : vs.length * sz ≤ 16777216) (hpos : 0 < vs.length) (w : World) :
    (Instr.buildSlice t vs.length (number vs).toArray).run P w = .ok (.slice (some ⟨w.heap.size, 0, none⟩) vs.length vs.length) (w.alloc (.cells (vs.flatMap fun v => v.cells.toList).toArray e)) := by
  obtain ⟨i, zv, hu, hi, hz, rfl, hzs, hs⟩ := elemOK_spec he
  have hp : 0 < vs.length * i.size := Nat.mul_pos hpos hs
  refine run_buildSlice w t e vs.length _ _ i zv hu hi hz (by simp only [Nat.reducePow]; omega) (by omega) ?_
  simp only [number]
  exact Great.fill_whole hs vs _ hv (by simp)

theorem X.buildSlice {t e : TypeId} {sz len : Nat} {parts : Array (Nat × Operand)} {xs : List Operand} {vs : List Value} (hp : parts.toList = number xs) (hl : len = vs.length) (he : elemOK P t e sz = true) (hx : xs.map ρ = vs) (hv : ∀ v ∈ vs, v.cells.size = sz) (hsm : vs.length * sz ≤ 16777216) (hpos : 0 < vs.length) :
    (execOp ρ ⟨d, .buildSlice t len parts, ty, pos, af, gu⟩).run P w = .ok (.value (.slice (some ⟨w.heap.size, 0, none⟩) vs.length vs.length)) (w.alloc (.cells (vs.flatMap fun v => v.cells.toList).toArray e)) := by
  subst hl
  have e1 : parts.map (fun (i, x) => (i, ρ x)) = (number vs).toArray := by
    apply Array.toList_inj.1
    rw [Array.toList_map, hp, ← hx, ← map_number]
  simp only [execOp]
  rw [e1]
  simp [run_buildSlice_dense he hv hsm hpos w]

theorem TW.buildSlice {t : TypeId} (e : TypeId) {sz len : Nat} {parts : Array (Nat × Operand)} (xs : List Operand) {vs cs : List Value} (hg : gu = none) (hd : okDst N d = true) (hp : parts.toList = number xs) (he : elemOK P t e sz = true) (hx : Args N ds E none xs vs) (hl : len = vs.length)
    (hv : vs.all (fun v => Nat.beq v.cells.size sz) = true) (hsm : Nat.ble (vs.length * sz) 16777216 = true) (hpos : Nat.blt 0 vs.length = true) (hcs : vs.flatMap (fun v => v.cells.toList) = cs)
    (next : ∀ g w', Fresh w w' g e cs → TW P r Q N ds ops rest (ins E d none (.slice (some ⟨g, 0, none⟩) len len)) w') : TW P r Q N ds ops (⟨d, .buildSlice t len parts, ty, pos, af, gu⟩ :: rest) E w := by
  subst hl
  have hv' : ∀ v ∈ vs, v.cells.size = sz := fun v hm => Nat.eq_of_beq_eq_true (List.all_eq_true.1 hv v hm)
  refine TW.eff hg hd rfl (fun a ha => X.buildSlice hp rfl he (hx a ha trivial) hv' (Nat.le_of_ble_eq_true hsm) (blt_iff.1 hpos)) ?_
  rw [hcs]
  exact next _ _ (Fresh.mk' w e cs)

/-- '[]T{}' -/
theorem TW.buildSlice0 {t : TypeId} (e : TypeId) {sz : Nat} (hg : gu = none) (hd : okDst N d = true) (he : elemOK P t e sz = true)
    (next : ∀ g w', Fresh w w' g e [] → TW P r Q N ds ops rest (ins E d none (.slice (some ⟨g, 0, none⟩) 0 0)) w') : TW P r Q N ds ops (⟨d, .buildSlice t 0 #[], ty, pos, af, gu⟩ :: rest) E w := by
  obtain ⟨i, zv, hu, hi, hz, rfl, hzs, hs⟩ := elemOK_spec he
  refine TW.eff (v := .slice (some ⟨w.heap.size, 0, none⟩) 0 0) (w' := w.alloc (.cells [].toArray e)) hg hd rfl (fun a ha => ?_) (next _ _ (Fresh.mk' w e []))
  simp [execOp, Instr.buildSlice, run_underlying hu, sizeOf, typeInfo, hi, Instr.fill, newRow, Array.range_zero']

/-- a literal made in a drawn order: some block holds just this -/
def Lies (e : TypeId) (len : Nat) (cs : List Value) (v : Value) (w : World) : Prop := ∃ g, v = .slice (some ⟨g, 0, none⟩) len len ∧ Blk w g e cs
theorem Lies.mono (e : TypeId) (len : Nat) (cs : List Value) : Ent.mono (.pr (Lies e len cs)) := fun _ _ _ hb ⟨g, hv, hB⟩ => ⟨g, hv, hB.next hb⟩

theorem DW.buildSlice {t : TypeId} (e : TypeId) {sz len : Nat} {parts : Array (Nat × Operand)} (xs : List Operand) {vs cs : List Value} (hg : dgd ops D gu = some G) (hd : okDst N d = true) (hp : parts.toList = number xs) (he : elemOK P t e sz = true)
    (hx : DArgs (Oper.looksAt ops.toArray ⟨d, .buildSlice t len parts, ty, pos, af, gu⟩) N ds D G xs vs) (hl : len = vs.length)
    (hv : vs.all (fun v => Nat.beq v.cells.size sz) = true) (hsm : Nat.ble (vs.length * sz) 16777216 = true) (hpos : Nat.blt 0 vs.length = true) (hcs : vs.flatMap (fun v => v.cells.toList) = cs)
    (next : DW P N ds .weak ops w Fin rest (dins D d G (.pr (Lies e len cs)))) : DW P N ds .weak ops w Fin (⟨d, .buildSlice t len parts, ty, pos, af, gu⟩ :: rest) D := by
  subst hl
  have hv' : ∀ v ∈ vs, v.cells.size = sz := fun v hm => Nat.eq_of_beq_eq_true (List.all_eq_true.1 hv v hm)
  refine DW.gen hg hd rfl (Lies.mono e _ cs) (fun hG a w' hb ha => ?_) next
  refine ⟨_, _, X.buildSlice hp rfl he (hx (fun t ht => mem_looks ?_) a w' ha hG) hv' (Nat.le_of_ble_eq_true hsm) (blt_iff.1 hpos), (Below.refl _ _).alloc (Nat.le_refl _) _, w'.heap.size, rfl, ?_⟩
  · have : (t, Operand.tmp t) = (t, Operand.tmp t) := rfl
    simp only [Op.operands]
    rw [hp]
    simp only [number, List.map_map]
    rw [List.mem_map]
    obtain ⟨j, hj, he⟩ := List.getElem_of_mem ht
    exact ⟨(Operand.tmp t, j), by rw [List.mem_zipIdx_iff_getElem?]; simp [he.symm], rfl⟩
  · rw [hcs]; exact Blk.new w' e cs

/-! ### 'T{..}' -/
theorem X.build {t : TypeId} {parts : Array (Nat × Operand)} {is : List Nat} {xs : List Operand} {vs : List Value} {cs : List Value} (hp : parts.toList = is.zip xs) (hx : xs.map ρ = vs) (hb : P.built t (is.zip vs) = some cs.toArray) :
    (execOp ρ ⟨d, .build t parts, ty, pos, af, gu⟩).run P w = .ok (.value (.agg cs.toArray)) w := by
  have e1 : (parts.map fun (i, x) => (i, ρ x)).toList = is.zip vs := by
    rw [Array.toList_map, hp, ← hx]
    clear hp hb hx
    induction is generalizing xs with
    | nil => simp
    | cons i is ih => cases xs with
      | nil => simp
      | cons x xs => simp [ih]
  simp only [execOp]
  simp [run_build w t _ cs.toArray (by rw [e1]; exact hb)]
theorem TW.build {t : TypeId} {parts : Array (Nat × Operand)} (is : List Nat) (xs : List Operand) {vs : List Value} (cs : List Value) (hg : gd ops E gu = some G) (hd : okDst N d = true) (hp : parts.toList = is.zip xs) (hx : Args N ds E G xs vs) (hb : P.built t (is.zip vs) = some cs.toArray)
    (next : TW P r Q N ds ops rest (ins E d G (.agg cs.toArray)) w) : TW P r Q N ds ops (⟨d, .build t parts, ty, pos, af, gu⟩ :: rest) E w :=
  TW.val hg hd rfl (fun hG a ha => X.build hp (hx a ha hG) hb) next
theorem mem_parts {parts : Array (Nat × Operand)} {is : List Nat} {xs : List Operand} (hp : parts.toList = is.zip xs) (hle : Nat.ble xs.length is.length = true) {t : Nat} (h : Operand.tmp t ∈ xs) : Operand.tmp t ∈ ((parts.toList.map (·.2)).toArray).toList := by
  have hle' := Nat.le_of_ble_eq_true hle
  rw [hp]
  simp only [List.map_snd_zip hle']
  exact h
theorem DW.build {t : TypeId} {parts : Array (Nat × Operand)} (is : List Nat) (xs : List Operand) {vs : List Value} (cs : List Value) (hg : dgd ops D gu = some G) (hd : okDst N d = true) (hp : parts.toList = is.zip xs) (hle : Nat.ble xs.length is.length = true)
    (hx : DArgs (Oper.looksAt ops.toArray ⟨d, .build t parts, ty, pos, af, gu⟩) N ds D G xs vs) (hb : P.built t (is.zip vs) = some cs.toArray)
    (next : DW P N ds md ops w Fin rest (dins D d G (.ex (.agg cs.toArray)))) : DW P N ds md ops w Fin (⟨d, .build t parts, ty, pos, af, gu⟩ :: rest) D :=
  DW.val hg hd rfl (fun hG a w' _ ha => X.build hp (hx (fun t ht => mem_looks (mem_parts hp hle ht)) a w' ha hG) hb) next

/-! ### append -/
/-- the element's type, for append -/
def growOK (P : Program) (t e : TypeId) (sz bytes : Nat) : Bool := match P.underlying t, P.info? e with
  | some (.slice e'), some i => match i.zero with
    | some zv => Nat.beq e' e && Nat.beq i.size sz && Nat.beq i.bytes bytes && Nat.beq zv.cells.size sz && Nat.blt 0 sz
    | none => false
  | _, _ => false
theorem growOK_spec {t e : TypeId} {sz bytes : Nat} (h : growOK P t e sz bytes = true) : ∃ i zv, P.underlying t = some (.slice e) ∧ P.info? e = some i ∧ i.zero = some zv ∧ i.size = sz ∧ i.bytes = bytes ∧ zv.cells.size = sz ∧ 0 < sz := by
  unfold growOK at h
  split at h
  · rename_i e' i hu hi
    split at h
    · rename_i zv hz
      simp only [Bool.and_eq_true] at h
      obtain ⟨⟨⟨⟨h1, h2⟩, h5⟩, h3⟩, h4⟩ := h
      have := Nat.eq_of_beq_eq_true h1
      subst this
      exact ⟨i, zv, hu, hi, hz, Nat.eq_of_beq_eq_true h2, Nat.eq_of_beq_eq_true h5, Nat.eq_of_beq_eq_true h3, blt_iff.1 h4⟩
    · cases h
  · cases h

/-- A slice that the call owns: nil, or the head of a row known up to its length; its block may grow and move. -/
def OwnS (w : World) (e : TypeId) (sz : Nat) (v : Value) (n : Nat) (xs : List Value) : Prop := w.ownsRow 0 e sz v n xs

theorem OwnS.nil (w : World) (e : TypeId) (sz : Nat) : OwnS w e sz (.slice none 0 0) 0 [] := ⟨by simp, .inl ⟨rfl, rfl⟩⟩
theorem OwnS.kept {w w' : World} {e : TypeId} {sz n : Nat} {v : Value} {xs : List Value} (h : OwnS w e sz v n xs) (hk : ∀ g, v.ownBlock = some g → w'.heap[g]? = w.heap[g]?) : OwnS w' e sz v n xs := by
  refine ⟨h.1, ?_⟩
  rcases h.2 with h2 | ⟨g, cap, cur, hv, hg, hh, hr⟩
  · exact .inl h2
  · exact .inr ⟨g, cap, cur, hv, hg, by rw [hk g (by rw [hv]; rfl)]; exact hh, hr⟩
theorem OwnS.lt {w : World} {e : TypeId} {sz n : Nat} {v : Value} {xs : List Value} (h : OwnS w e sz v n xs) {g : Nat} (hg : v.ownBlock = some g) : g < w.heap.size := by
  rcases h.2 with ⟨rfl, _⟩ | ⟨g', cap, cur, hv, _, hh, _⟩
  · simp [Value.ownBlock] at hg
  · rw [hv] at hg
    simp [Value.ownBlock] at hg
    subst hg
    exact (Array.getElem?_eq_some_iff.1 hh).1
theorem OwnS.below {w w' : World} {e : TypeId} {sz n : Nat} {v : Value} {xs : List Value} (h : OwnS w e sz v n xs) (hb : Below w.heap.size w w') : OwnS w' e sz v n xs := h.kept fun _ hg => hb.block _ (h.lt hg)
theorem OwnS.form {w : World} {e : TypeId} {sz n : Nat} {v : Value} {xs : List Value} (h : OwnS w e sz v n xs) : ∃ A cap, v = .slice A n cap ∧ n ≤ cap ∧ xs.length = n * sz ∧
    (∀ j u, xs[j]? = some u → ∃ g, A = some ⟨g, 0, none⟩ ∧ v.ownBlock = some g ∧ w.cell? ⟨g, j, none⟩ = some u ∧ w.frozen? ⟨g, j, none⟩ = false) := by
  rcases h.2 with ⟨rfl, rfl⟩ | ⟨g, cap, cur, hv, hg, hh, h1, h2, h3, h4⟩
  · refine ⟨none, 0, rfl, Nat.le_refl _, h.1, fun j u hj => ?_⟩
    have : xs = [] := List.eq_nil_of_length_eq_zero (by simpa using h.1)
    rw [this] at hj
    simp at hj
  · refine ⟨some ⟨g, 0, none⟩, cap, hv, h1, h.1, fun j u hj => ⟨g, rfl, by rw [hv]; rfl, ?_, ?_⟩⟩
    · rw [← h4] at hj
      rw [List.getElem?_take] at hj
      split at hj
      · simp [World.cell?, hh]; simpa using hj
      · cases hj
    · simp [World.frozen?, hh]

/-- 'append(s, x...)', s the call's own, x any slice whose cells are known -/
theorem append_run {t e : TypeId} {sz bytes n m c : Nat} {v : Value} {xs : List Value} {A : Option Addr} {news : List Value} (ho : growOK P t e sz bytes = true) (hown : OwnS w e sz v n xs) (hl : news.length = m * sz) (hn : ∀ j u, news[j]? = some u → ∃ ad, A = some ad ∧ w.cell? (ad.add j) = some u) (h1 : ∀ u ∈ news, u.oneCell' = true)
    (hb : (n + m) * bytes ≤ 140737488355328) (hb0 : 1 ≤ bytes) : ∃ v' w', (Builtin.append_ #[t, t] ty #[v, .slice A m c]).run P w = .ok v' w' ∧ OwnS w' e sz v' (n + m) (xs ++ news) ∧ w.grownBy w' v.ownBlock ∧ (v'.ownBlock = v.ownBlock ∨ v'.ownBlock = some w.heap.size) := by
  obtain ⟨i, zv, hu, hi, hz, h2, h3, h4, h5⟩ := growOK_spec ho
  have h63 : n + m ≤ maxLen := by
    have : n + m ≤ (n + m) * bytes := Nat.le_mul_of_pos_right _ hb0
    simp only [maxLen]; omega
  rcases A with _ | ad
  · have hnil : news = [] := by
      cases news with
      | nil => rfl
      | cons u us => obtain ⟨ad, h, _⟩ := hn 0 u rfl; cases h
    subst hnil
    have hm : m = 0 := by
      rcases Nat.eq_zero_or_pos m with h | h
      · exact h
      · have := Nat.mul_pos h h5; simp at hl; omega
    subst hm
    refine ⟨v, w, ?_, by simpa [OwnS] using hown, ⟨rfl, rfl, rfl, Nat.le_refl _, fun _ _ _ => rfl⟩, .inl rfl⟩
    rcases hown.2 with ⟨rfl, rfl⟩ | ⟨g, cap, cur, rfl, _, _, hnc, _⟩
    · simp [Builtin.append_, run_underlying hu, sizeOf, typeInfo, hi, Builtin.lenOf, Builtin.firstCells]
    · simp [Builtin.append_, run_underlying hu, sizeOf, typeInfo, hi, Builtin.lenOf, Builtin.firstCells, hnc, storeCells]
  · obtain ⟨v', w', a1, a2, a3, _, a5⟩ := run_append_own_at (P := P) w 0 t ty e i zv sz bytes hu hi hz h2 h3 h4 h5 v n xs hown ad m c news hl (fun j u hj => by
      obtain ⟨ad', e1, e2⟩ := hn j u hj
      simp only [Option.some.injEq] at e1
      subst e1; exact e2) h1 h63 hb (Nat.zero_le _)
    exact ⟨v', w', a1, a2, a3, a5⟩
theorem TW.append {t e : TypeId} {sz bytes n m c : Nat} {s : Operand} {v : Value} {xs : List Value} {A : Option Addr} (news : List Value) (hg : gu = none) (hd : okDst N d = true) (ho : growOK P t e sz bytes = true)
    (hs : ev E s = some (none, v)) (hown : OwnS w e sz v n xs) (hx : ev E x = some (none, .slice A m c)) (hl : news.length = m * sz) (hn : ∀ j u, news[j]? = some u → ∃ ad, A = some ad ∧ w.cell? (ad.add j) = some u) (h1 : ∀ u ∈ news, u.oneCell' = true)
    (hb : (n + m) * bytes ≤ 140737488355328) (hb0 : 1 ≤ bytes)
    (next : ∀ v' w', OwnS w' e sz v' (n + m) (xs ++ news) → w.grownBy w' v.ownBlock → (v'.ownBlock = v.ownBlock ∨ v'.ownBlock = some w.heap.size) → TW P r Q N ds ops rest (ins E d none v') w') :
    TW P r Q N ds ops (⟨d, .call ⟨.builtin .append, #[s, x], #[t, t]⟩, ty, pos, af, gu⟩ :: rest) E w := by
  obtain ⟨v', w', a1, a2, a3, a5⟩ := append_run (ty := ty) (c := c) ho hown hl hn h1 hb hb0
  refine TW.eff (v := v') (w' := w') hg hd rfl (fun a ha => ?_) (next v' w' a2 a3 a5)
  simp only [execOp, resolve, invoke, builtin, Sem.run_bind, Sem.run_pure, Result.andThen_ok, List.map_toArray, List.map_cons, List.map_nil, ha.eval hs trivial, ha.eval hx trivial, a1]

/-! ### maps -/
theorem run_checkKey_string {kt : TypeId} (h : P.underlying kt = some .string) (e : Bool) (n : Nat) (a : ByteArray) (w : World) : (Instr.checkKey e (n + 1) kt (.string a)).run P w = .ok () w := by
  simp [Instr.checkKey, run_underlying h]
theorem run_checkKey_int {kt : TypeId} {k : IntKind} (h : P.underlying kt = some (.int k)) (e : Bool) (n : Nat) (a : Int) (w : World) : (Instr.checkKey e (n + 1) kt (.int k a)).run P w = .ok () w := by
  simp [Instr.checkKey, run_underlying h]

/-- A key's type: int, string. -/
structure Key (P : Program) (kt : TypeId) (κ : Type) where
  enc : κ → Value
  eqb : κ → κ → Bool
  kd : TypeDesc
  und : P.underlying kt = some kd
  same : ∀ a b, Instr.sameNow kd (enc a) (enc b) = some (eqb a b)
  bits : ∀ a b, eqb a b = true → Instr.sameBits 10000 (enc b) (enc a) = true
  ok : ∀ (e : Bool) (a : κ) (w : World), (Instr.checkKey e 10000 kt (enc a)).run P w = .ok () w

def strKey (P : Program) (kt : TypeId) (h : P.underlying kt = some .string) : Key P kt ByteArray where
  enc := .string
  eqb := fun a b => a.toList == b.toList
  kd := .string
  und := h
  same := fun a b => by show some (a == b) = _; rw [beq_toListBytes]
  bits := fun a b h => by show (b == a) = true; rw [beq_toListBytes, beq_iff_eq] at *; exact h.symm
  ok := fun e a w => run_checkKey_string h e 9999 a w

def intKey (P : Program) (kt : TypeId) (k : IntKind) (h : P.underlying kt = some (.int k)) : Key P kt Int where
  enc := .int k
  eqb := fun a b => a == b
  kd := .int k
  und := h
  same := fun a b => by simp [Instr.sameNow]
  bits := fun a b h => by
    have : a = b := by simpa using h
    subst this; simp [Instr.sameBits]
  ok := fun e a w => run_checkKey_int h e 9999 a w

variable {κ : Type} {kt : TypeId}

/-- Block b is a map with these entries, in the order of their birth. -/
def MapIs (K : Key P kt κ) (w : World) (b : Nat) (m : List (κ × Value)) : Prop := ∃ es clock, w.heap[b]? = some (.map es clock) ∧ es.toList.map (fun e => (e.key, e.val)) = m.map fun p => (K.enc p.1, p.2)

def mget (K : Key P kt κ) (m : List (κ × Value)) (k : κ) : Option Value := match m with
  | [] => none
  | (k', v) :: m => if K.eqb k k' then some v else mget K m k
def mput (K : Key P kt κ) (m : List (κ × Value)) (k : κ) (v : Value) : List (κ × Value) := match m with
  | [] => [(k, v)]
  | (k', v') :: m => if K.eqb k k' then (k, v) :: m else (k', v') :: mput K m k v

theorem MapIs.lt {K : Key P kt κ} {b : Nat} {m : List (κ × Value)} (h : MapIs K w b m) : b < w.heap.size := by
  obtain ⟨es, cl, hh, _⟩ := h; exact (Array.getElem?_eq_some_iff.1 hh).1
theorem MapIs.kept {K : Key P kt κ} {b : Nat} {m : List (κ × Value)} {w' : World} (h : MapIs K w b m) (hk : w'.heap[b]? = w.heap[b]?) : MapIs K w' b m := by
  obtain ⟨es, cl, hh, hm⟩ := h; exact ⟨es, cl, hk.trans hh, hm⟩
theorem MapIs.below {K : Key P kt κ} {b : Nat} {m : List (κ × Value)} {w' : World} (h : MapIs K w b m) (hb : Below w.heap.size w w') : MapIs K w' b m := h.kept (hb.block b h.lt)

theorem findNow_map (K : Key P kt κ) (k : κ) : ∀ (m : List (κ × Value)) (es : List MapEntry) (i : Nat), es.map (fun e => (e.key, e.val)) = m.map (fun p => (K.enc p.1, p.2)) →
    ∃ r, Instr.findNow K.kd (K.enc k) es i = some r ∧ r.map (·.2) = mget K m k ∧ (r = none → ∀ p ∈ m, K.eqb k p.1 = false) ∧
      ∀ j u, r = some (j, u) → ∃ j', j = i + j' ∧ j' < m.length ∧ (∀ h : j' < m.length, K.eqb k (m[j'].1) = true) ∧ ∀ v : Value, mput K m k v = (m.take j') ++ (k, v) :: m.drop (j' + 1)
  | [], es, i, h => by
    have : es = [] := by simpa using h
    subst this
    exact ⟨none, rfl, rfl, (fun _ p hp => by simp at hp), (fun j u h => by cases h)⟩
  | (k', v') :: m, [], i, h => by simp at h
  | (k', v') :: m, e :: es, i, h => by
    simp only [List.map_cons, List.cons.injEq, Prod.mk.injEq] at h
    obtain ⟨⟨h1, h2⟩, h3⟩ := h
    simp only [Instr.findNow]
    rw [h1, K.same k k']
    cases hb : K.eqb k k' with
    | true =>
      refine ⟨some (i, e.val), rfl, by simp [mget, hb, h2], (fun h => by cases h), fun j u hj => ?_⟩
      simp only [Option.some.injEq, Prod.mk.injEq] at hj
      obtain ⟨rfl, rfl⟩ := hj
      exact ⟨0, rfl, by simp, fun _ => by simpa using hb, fun v => by simp [mput, hb]⟩
    | false =>
      obtain ⟨r, hr, hg, hn, hs⟩ := findNow_map K k m es (i + 1) h3
      refine ⟨r, hr, by simp [mget, hb, hg], fun h p hp => ?_, fun j u hj => ?_⟩
      · simp at hp
        rcases hp with rfl | hp
        · exact hb
        · exact hn h p hp
      · obtain ⟨j', h1, h2, h3, h4⟩ := hs j u hj
        exact ⟨j' + 1, by omega, by simp; omega, fun hlt => by simpa using h3 h2, fun v => by simp [mput, hb, h4 v]⟩

theorem mput_new (K : Key P kt κ) {m : List (κ × Value)} {k : κ} (v : Value) (h : ∀ p ∈ m, K.eqb k p.1 = false) : mput K m k v = m ++ [(k, v)] := by
  induction m with
  | nil => rfl
  | cons p m ih => obtain ⟨k', v'⟩ := p; simp [mput, h (k', v') (by simp), ih (fun q hq => h q (by simp [hq]))]

theorem TW.makeMap {t : TypeId} (K : Key P kt κ) (hg : gu = none) (hd : okDst N d = true)
    (next : ∀ b w', b = w.heap.size → w'.heap.size = b + 1 → Below w.heap.size w w' → MapIs K w' b [] → TW P r Q N ds ops rest (ins E d none (.map (some b))) w') : TW P r Q N ds ops (⟨d, .makeMap t none, ty, pos, af, gu⟩ :: rest) E w :=
  TW.eff (v := .map (some w.heap.size)) (w' := w.alloc (.map #[] 0)) hg hd rfl (fun a ha => by simp [execOp, Instr.makeMap])
    (next _ _ rfl (by simp) ((Below.refl _ _).alloc (Nat.le_refl _) _) ⟨#[], 0, heap_alloc_new w _, rfl⟩)

theorem run_lookup (K : Key P kt κ) {t et : TypeId} (ht : P.underlying t = some (.map kt et)) {zv : Value} (hz : (P.info? et).bind (·.zero) = some zv) {b : Nat} {m : List (κ × Value)} (hm : MapIs K w b m) (k : κ) :
    (Instr.lookup t (.map (some b)) (K.enc k) false).run P w = .ok ((mget K m k).getD zv) w := by
  obtain ⟨es, cl, hh, he⟩ := hm
  obtain ⟨rr, hr, hg, _⟩ := findNow_map K k m es.toList 0 he
  cases hi : P.info? et with
  | none => simp [hi] at hz
  | some i =>
    simp [hi] at hz
    have hobj : (getObj b).run P w = .ok (.map es cl) w := by simp [getObj, Sem.run, hh]
    cases rr with
    | none =>
      simp at hg
      simp [Instr.lookup, run_underlying ht, hobj, K.ok, Instr.findKey, run_underlying K.und, hr, zeroValue, typeInfo, hi, hz, ← hg]
    | some p =>
      obtain ⟨j, u⟩ := p
      simp at hg
      simp [Instr.lookup, run_underlying ht, hobj, K.ok, Instr.findKey, run_underlying K.und, hr, ← hg]

theorem X.lookup (K : Key P kt κ) {t et : TypeId} {zv : Value} {b : Nat} {m : List (κ × Value)} {k : κ} (ht : P.underlying t = some (.map kt et)) (hz : (P.info? et).bind (·.zero) = some zv) (hx : ρ x = .map (some b)) (hy : ρ y = K.enc k) (hm : MapIs K w b m) :
    (execOp ρ ⟨d, .lookup t x y false, ty, pos, af, gu⟩).run P w = .ok (.value ((mget K m k).getD zv)) w := by
  simp only [execOp]; rw [hx, hy]; simp [run_lookup K ht hz hm k]
theorem TW.lookup (K : Key P kt κ) {t et : TypeId} {zv v : Value} {b : Nat} {m : List (κ × Value)} (k : κ) (hg : gd ops E gu = some G) (hd : okDst N d = true) (ht : P.underlying t = some (.map kt et)) (hz : (P.info? et).bind (·.zero) = some zv)
    (hx : ev E x = some (cx, .map (some b))) (ix : Cnd G → Cnd cx) (hy : ev E y = some (cy, K.enc k)) (iy : Cnd G → Cnd cy) (hm : MapIs K w b m) (hv : (mget K m k).getD zv = v)
    (next : TW P r Q N ds ops rest (ins E d G v) w) : TW P r Q N ds ops (⟨d, .lookup t x y false, ty, pos, af, gu⟩ :: rest) E w :=
  TW.val hg hd rfl (fun hG _ ha => by rw [← hv]; exact X.lookup K ht hz (ha.eval hx (ix hG)) (ha.eval hy (iy hG)) hm) next

theorem TW.mapUpdate (K : Key P kt κ) {t et : TypeId} {b : Nat} {m : List (κ × Value)} (k : κ) {vz : Value} (hg : gu = none) (ht : P.underlying t = some (.map kt et))
    (hx : ev E x = some (none, .map (some b))) (hy : ev E y = some (none, K.enc k)) (hz : ev E z = some (none, vz)) (hm : MapIs K w b m)
    (next : ∀ w', w'.heap.size = w.heap.size → w.grownBy w' (some b) → MapIs K w' b (mput K m k vz) → TW P r Q N ds ops rest E w') : TW P r Q N ds ops (⟨none, .mapUpdate t x y z, ty, pos, af, gu⟩ :: rest) E w := by
  obtain ⟨es, cl, hh, he⟩ := id hm
  obtain ⟨rr, hr, hgt, hnone, hsome⟩ := findNow_map K k m es.toList 0 he
  have hlt : b < w.heap.size := hm.lt
  have hobj : (getObj b).run P w = .ok (.map es cl) w := by simp [getObj, Sem.run, hh]
  have hset : ∀ o, (setObj b o).run P w = .ok () { w with heap := w.heap.setIfInBounds b o } := fun o => by simp [setObj, Sem.run, hh]
  have fin : ∀ (es' : Array MapEntry) (cl' : Nat), (Instr.mapUpdate t (.map (some b)) (K.enc k) vz).run P w = .ok () { w with heap := w.heap.setIfInBounds b (.map es' cl') } →
      es'.toList.map (fun e => (e.key, e.val)) = (mput K m k vz).map (fun p => (K.enc p.1, p.2)) → TW P r Q N ds ops (⟨none, .mapUpdate t x y z, ty, pos, af, gu⟩ :: rest) E w := by
    intro es' cl' hrun hes
    refine TW.eff0 (w' := { w with heap := w.heap.setIfInBounds b (.map es' cl') }) hg rfl rfl (fun a ha => ?_) (next _ (by simp) ⟨rfl, rfl, rfl, by simp, fun i hi hne => ?_⟩ ⟨es', cl', by simp [hlt], hes⟩)
    · simp only [execOp]; rw [ha.eval hx trivial, ha.eval hy trivial, ha.eval hz trivial]; simp [hrun]
    · have : b ≠ i := fun e => hne (by rw [e])
      simp [Array.getElem?_setIfInBounds_ne this]
  cases rr with
  | none =>
    refine fin (es.push { key := K.enc k, val := vz, born := cl }) (cl + 1) ?_ ?_
    · simp [Instr.mapUpdate, run_underlying ht, hobj, K.ok, Instr.findKey, run_underlying K.und, hr, hset]
    · rw [mput_new K vz (hnone rfl)]; simp [he]
  | some p =>
    obtain ⟨j, u⟩ := p
    obtain ⟨j', h1, h2, h3, h4⟩ := hsome j u rfl
    simp only [Nat.zero_add] at h1
    subst h1
    have hlen : es.toList.length = m.length := by have := congrArg List.length he; simpa using this
    have hje : j < es.size := by simpa using (show j < es.toList.length by omega)
    have hkey : es[j].key = K.enc (m[j].1) := by
      have := congrArg (fun l => l[j]?) he
      simp [hje, h2] at this
      exact this.1
    have hbits := K.bits k (m[j].1) (h3 h2)
    refine fin (es.modify j fun e => { e with key := K.enc k, val := vz }) cl ?_ ?_
    · have hb2 : Instr.sameBits 10000 (((es[j]?).map (·.key)).getD (K.enc k)) (K.enc k) = true := by
        simp [hje, hkey, hbits]
      simp only [Instr.mapUpdate]
      simp [run_underlying ht, hobj, K.ok, Instr.findKey, run_underlying K.und, hr, Instr.keyThatStays, hje, hkey, hbits, hset]
    · rw [h4 vz]
      apply List.ext_getElem?
      intro i
      have hi := congrArg (fun l => l[i]?) he
      simp only [List.getElem?_map] at hi
      simp only [List.getElem?_map, Array.getElem?_toList, Array.getElem?_modify]
      by_cases hij : j = i
      · subst hij
        simp [hje, List.getElem?_append, Nat.min_eq_left (Nat.le_of_lt h2)]
      · rw [if_neg hij]
        rcases Nat.lt_or_ge i j with hlt' | hge
        · rw [List.getElem?_append_left (by simp; omega)]
          rw [List.getElem?_take_of_lt hlt']
          simpa using hi
        · rw [List.getElem?_append_right (by simp; omega)]
          have e1 : i - (m.take j).length = (i - j - 1) + 1 := by simp [Nat.min_eq_left (Nat.le_of_lt h2)]; omega
          rw [e1, List.getElem?_cons_succ, List.getElem?_drop]
          have e2 : j + 1 + (i - j - 1) = i := by omega
          rw [e2]
          simpa using hi

/-! ### structs of plain fields, compared -/
def eqV : Value → Value → Bool
  | .int _ a, .int _ b => a == b
  | .bool a, .bool b => a == b
  | .string a, .string b => a.toList == b.toList
  | _, _ => false
def fitV : TypeDesc → Value → Bool
  | .int k, .int k' _ => decide (k = k')
  | .bool, .bool _ => true
  | .string, .string _ => true
  | _, _ => false
def eqVs : List Value → List Value → Bool
  | [], [] => true
  | x :: xs, y :: ys => eqV x y && eqVs xs ys
  | _, _ => false
def flatFs (P : Program) : List Field → Nat → List Value → List Value → Bool
  | [], _, [], [] => true
  | f :: fs, i, x :: xs, y :: ys => match P.underlying f.type with
    | some dsc => Nat.beq f.offset i && (f.name != "_") && fitV dsc x && fitV dsc y && flatFs P fs (i + 1) xs ys
    | none => false
  | _, _, _, _ => false

theorem run_eqFields_flat (n : Nat) (X Y : Array Value) : ∀ (fs : List Field) (i : Nat) (xs ys : List Value), flatFs P fs i xs ys = true → (∀ j v, xs[j]? = some v → X[i + j]? = some v) → (∀ j v, ys[j]? = some v → Y[i + j]? = some v) →
    (Op.eqFields (n + 1) X Y fs).run P w = .ok (eqVs xs ys) w
  | [], i, xs, ys, h, _, _ => by
    cases xs <;> cases ys <;> simp [flatFs] at h
    simp [Op.eqFields, eqVs]
  | f :: fs, i, [], ys, h, _, _ => by simp [flatFs] at h
  | f :: fs, i, x :: xs, [], h, _, _ => by simp [flatFs] at h
  | f :: fs, i, x :: xs, y :: ys, h, hX, hY => by
    simp only [flatFs] at h
    split at h
    · rename_i dsc hu
      simp only [Bool.and_eq_true] at h
      obtain ⟨⟨⟨⟨h1, h2⟩, h3⟩, h4⟩, h5⟩ := h
      have ho : f.offset = i := Nat.eq_of_beq_eq_true h1
      have hname : f.name ≠ "_" := by simpa using h2
      have ih := run_eqFields_flat n X Y fs (i + 1) xs ys h5 (fun j v hj => by have := hX (j + 1) v (by simpa using hj); rwa [show i + (j + 1) = i + 1 + j by omega] at this)
        (fun j v hj => by have := hY (j + 1) v (by simpa using hj); rwa [show i + (j + 1) = i + 1 + j by omega] at this)
      have hx0 : X[f.offset]? = some x := by rw [ho]; exact hX 0 x rfl
      have hy0 : Y[f.offset]? = some y := by rw [ho]; exact hY 0 y rfl
      have hagg : (isAgg f.type).run P w = .ok false w := by
        cases dsc <;> first | (simp [fitV] at h3; done) | simp [isAgg, run_underlying hu]
      have hp1 : (part f.type X f.offset).run P w = .ok x w := by simp [part, hagg, hx0]
      have hp2 : (part f.type Y f.offset).run P w = .ok y w := by simp [part, hagg, hy0]
      have heq : (Op.equalIn (n + 1) f.type x y).run P w = .ok (eqV x y) w := by
        cases dsc <;> cases x <;> first | (simp [fitV] at h3; done) | skip
        all_goals cases y <;> first | (simp [fitV] at h4; done) | skip
        · exact run_equalIn_bool w n _ _ _ hu
        · rename_i k k1 a1 k2 a2
          have e1 : k = k1 := of_decide_eq_true h3
          have e2 : k = k2 := of_decide_eq_true h4
          subst e1; subst e2
          exact run_equalIn_int w n _ _ _ _ _ hu
        · exact run_equalIn_string w n _ _ _ hu
      simp only [Op.eqFields, Sem.run_bind, Sem.run_ite, if_pos hname, hp1, hp2, heq, Result.andThen_ok]
      cases hb : eqV x y with
      | false => simp [eqVs, hb]
      | true => simp [eqVs, hb, ih]
    · cases h

def flatT (P : Program) (t : TypeId) (xs ys : List Value) : Bool := match P.underlying t with
  | some (.struct fs) => !P.stoodInHeld t && !P.eqGuardType P.depth t && flatFs P fs.toList 0 xs ys
  | _ => false

theorem run_equalIn_flat {t : TypeId} {xs ys : List Value} (h : flatT P t xs ys = true) : (Op.equalIn 10000 t (.agg xs.toArray) (.agg ys.toArray)).run P w = .ok (eqVs xs ys) w ∧ P.eqGuardType P.depth t = false := by
  unfold flatT at h
  split at h
  · rename_i fs hu
    simp only [Bool.and_eq_true, Bool.not_eq_true'] at h
    obtain ⟨⟨h1, h2⟩, h3⟩ := h
    have hfo : P.fieldsOf t = fs := by simp [Program.fieldsOf, hu]
    refine ⟨?_, h2⟩
    rw [show (10000 : Nat) = 9999 + 1 from rfl, run_equalIn_struct w 9999 t _ _ (by rw [hfo]; exact hu) h1, hfo]
    exact run_eqFields_flat 9998 _ _ fs.toList 0 xs ys h3 (fun j v hj => by simpa using hj) (fun j v hj => by simpa using hj)
  · cases h

theorem X.eqlT {t t' : TypeId} {xs ys : List Value} (h : flatT P t xs ys = true) (hx : ρ x = .agg xs.toArray) (hy : ρ y = .agg ys.toArray) : (execOp ρ ⟨d, .binOp .eql t x y t', ty, pos, af, gu⟩).run P w = .ok (.value (.bool (eqVs xs ys))) w := by
  obtain ⟨h1, h2⟩ := run_equalIn_flat (w := w) h
  simp only [execOp]; rw [hx, hy]
  simp only [Sem.run_bind, run_eqGuard_agg w .eql t x y _ _ h2, Result.andThen_ok, run_eql_struct, h1, Sem.run_pure]
theorem X.neqT {t t' : TypeId} {xs ys : List Value} (h : flatT P t xs ys = true) (hx : ρ x = .agg xs.toArray) (hy : ρ y = .agg ys.toArray) : (execOp ρ ⟨d, .binOp .neq t x y t', ty, pos, af, gu⟩).run P w = .ok (.value (.bool (!eqVs xs ys))) w := by
  obtain ⟨h1, h2⟩ := run_equalIn_flat (w := w) h
  simp only [execOp]; rw [hx, hy]
  simp only [Sem.run_bind, run_eqGuard_agg w .neq t x y _ _ h2, Result.andThen_ok, run_neq_struct, h1, Sem.run_pure]
theorem TW.eqlT {t t' : TypeId} {xs ys : List Value} (hg : gd ops E gu = some G) (hd : okDst N d = true) (hx : ev E x = some (cx, .agg xs.toArray)) (ix : Cnd G → Cnd cx) (hy : ev E y = some (cy, .agg ys.toArray)) (iy : Cnd G → Cnd cy) (h : flatT P t xs ys = true)
    (next : TW P r Q N ds ops rest (ins E d G (.bool (eqVs xs ys))) w) : TW P r Q N ds ops (⟨d, .binOp .eql t x y t', ty, pos, af, gu⟩ :: rest) E w :=
  TW.val hg hd rfl (fun hG _ ha => X.eqlT h (ha.eval hx (ix hG)) (ha.eval hy (iy hG))) next
theorem TW.neqT {t t' : TypeId} {xs ys : List Value} (hg : gd ops E gu = some G) (hd : okDst N d = true) (hx : ev E x = some (cx, .agg xs.toArray)) (ix : Cnd G → Cnd cx) (hy : ev E y = some (cy, .agg ys.toArray)) (iy : Cnd G → Cnd cy) (h : flatT P t xs ys = true)
    (next : TW P r Q N ds ops rest (ins E d G (.bool (!eqVs xs ys))) w) : TW P r Q N ds ops (⟨d, .binOp .neq t x y t', ty, pos, af, gu⟩ :: rest) E w :=
  TW.val hg hd rfl (fun hG _ ha => X.neqT h (ha.eval hx (ix hG)) (ha.eval hy (iy hG))) next
theorem DW.eqlT {t t' : TypeId} {xs ys : List Value} (hg : dgd ops D gu = some G) (hd : okDst N d = true) (hx : dev D x = some (cx, .ex (.agg xs.toArray))) (ix : Cnd G → Cnd cx) (hy : dev D y = some (cy, .ex (.agg ys.toArray))) (iy : Cnd G → Cnd cy) (h : flatT P t xs ys = true)
    (next : DW P N ds md ops w Fin rest (dins D d G (.ex (.bool (eqVs xs ys))))) : DW P N ds md ops w Fin (⟨d, .binOp .eql t x y t', ty, pos, af, gu⟩ :: rest) D :=
  DW.val hg hd rfl (fun hG _ _ _ ha => X.eqlT h (ha.eval (o := ⟨d, .binOp .eql t x y t', ty, pos, af, gu⟩) hx (by simp [Op.operands]) (ix hG)) (ha.eval (o := ⟨d, .binOp .eql t x y t', ty, pos, af, gu⟩) hy (by simp [Op.operands]) (iy hG))) next
theorem DW.neqT {t t' : TypeId} {xs ys : List Value} (hg : dgd ops D gu = some G) (hd : okDst N d = true) (hx : dev D x = some (cx, .ex (.agg xs.toArray))) (ix : Cnd G → Cnd cx) (hy : dev D y = some (cy, .ex (.agg ys.toArray))) (iy : Cnd G → Cnd cy) (h : flatT P t xs ys = true)
    (next : DW P N ds md ops w Fin rest (dins D d G (.ex (.bool (!eqVs xs ys))))) : DW P N ds md ops w Fin (⟨d, .binOp .neq t x y t', ty, pos, af, gu⟩ :: rest) D :=
  DW.val hg hd rfl (fun hG _ _ _ ha => X.neqT h (ha.eval (o := ⟨d, .binOp .neq t x y t', ty, pos, af, gu⟩) hx (by simp [Op.operands]) (ix hG)) (ha.eval (o := ⟨d, .binOp .neq t x y t', ty, pos, af, gu⟩) hy (by simp [Op.operands]) (iy hG))) next

/-- A call whose result is known: guarded or not. -/
theorem TW.callF {f : Operand} {k : FuncId} {cap : List Value} {cf : Option Bool} {xs : List Operand} {vs : List Value} {ts : Array TypeId} {u : Value} (hg : gd ops E gu = some G) (hd : okDst N d = true) (he : enters P k = true)
    (hf : ev E f = some (cf, .func (.func k) #[] cap.toArray)) (jf : Cnd G → Cnd cf) (hv : Args N ds E G xs vs) (hc : Cnd G → Gives P k (vs ++ cap).toArray w fun v w' => Below w.heap.size w w' ∧ v = u)
    (next : ∀ w', Below w.heap.size w w' → TW P r Q N ds ops rest (ins E d G u) w') : TW P r Q N ds ops (⟨d, .call ⟨.value f, xs.toArray, ts⟩, ty, pos, af, gu⟩ :: rest) E w := by
  intro a ha
  obtain ⟨h1, h2⟩ := wanted_of (o := ⟨d, .call ⟨.value f, xs.toArray, ts⟩, ty, pos, af, gu⟩) ha hg
  unfold wpListIn
  by_cases hcG : Cnd G
  · rw [if_pos (h1 hcG)]
    refine ⟨fun _ _ => trivial, ?_⟩
    rw [semAt_of rfl, X.call he (ha.eval hf (jf hcG)) (hv a ha hcG)]
    refine ⟨fun h => by simp [Fence.wide] at h, ?_⟩
    refine CallsIn.mono (callsIn_of (hc hcG)) ?_
    rintro e w' ⟨v, rfl, hb, rfl⟩
    exact next w' hb _ (ha.put hd (fun _ => rfl) (fun h => absurd hcG h))
  · rw [if_neg (by rw [h2 hcG]; simp)]
    exact ⟨fun _ _ => trivial, next w (Below.refl _ _) _ (ha.put hd (fun h => absurd h hcG) (fun _ => rfl))⟩
end
end Go.PF
