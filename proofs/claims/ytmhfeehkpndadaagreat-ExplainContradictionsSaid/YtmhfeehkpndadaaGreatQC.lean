/- Texts joined: Str Now Dec Bits Cho MapG Fu Dp Plus PrL Spr. -/
import Derived.Test.YtmhfeehkpndadaaGreatQB
import Derived.Scope
import Derived.Laws.IdiomStrings
import Derived.Laws.Strings3
import Derived.Laws.Runes
import Derived.DataElems
import Derived.Test.YtmhfeehkpndadaaGreatQA
import Derived.Laws.MakeOwn
set_option linter.unusedSimpArgs false
set_option linter.unusedVariables false

/- Rules on strings and bytes; slicing; arrays; scopes; what a region's own mode needs. -/
namespace Go.PF
open Go.RowKit

theorem wrap8_fits {z : Int} (h : 0 ≤ z ∧ z ≤ 255) : IntKind.u8.wrap z = z := by
  rw [IntKind.wrap_u8]; omega

section
variable {P : Program} {r : Option Nat} {Q : Exit → Act → World → Prop} {N : Nat} {ds : List Deferred} {ops rest : List Oper} {E : Env} {D : DE} {w : World} {G : Option Bool} {Fin : DE → Prop} {md : Mode}
variable {d : Option Tmp} {ty : TypeId} {pos : String} {af : Array Edge} {gu : Option (Nat × Bool)}
variable {x y z : Operand} {cx cy cz : Option Bool} {ρ : Operand → Value}

theorem CW.scope {c : Code} (h : CW P none (Exit.noGoto Q) N ds c E w) : CW P none Q N ds (.scope c) E w := fun a ha => wpIn_wide.2 (wp_scope_straight (wpIn_wide.1 (h a ha)))
theorem CW.label {l : Nat} (h : KW N ds (Q .normal) E w) : CW P r Q N ds (.label l) E w := fun a ha => wpIn_label (h a ha)
theorem KW.scopeN (h : KW N ds (Q .normal) E w) : KW N ds (Exit.noGoto Q .normal) E w := h
theorem KW.scopeX {id : Nat} (h : KW N ds (Q (.exit id)) E w) : KW N ds (Exit.noGoto Q (.exit id)) E w := h
theorem KW.scopeR (h : KW N ds (Q .ret) E w) : KW N ds (Exit.noGoto Q .ret) E w := h
/-- an operation whose guard is known false -/
theorem TW.dead {o : Oper} (v : Value) (hg : gd ops E o.guard = some G) (hn : ¬ Cnd G) (hd : okDst N o.dst = true) (next : TW P r Q N ds ops rest (ins E o.dst G v) w) : TW P r Q N ds ops (o :: rest) E w := by
  intro a ha
  obtain ⟨_, h2⟩ := wanted_of ha hg
  unfold wpListIn
  rw [if_neg (by rw [h2 hn]; simp)]
  exact ⟨fun _ _ => trivial, next _ (ha.put hd (fun h => absurd h hn) (fun _ => rfl))⟩
theorem DW.dead {o : Oper} (v : Value) (hg : dgd ops D o.guard = some G) (hn : ¬ Cnd G) (hd : okDst N o.dst = true) (hno : noDefer o.op = true) (next : DW P N ds md ops w Fin rest (dins D o.dst G (.ex v))) : DW P N ds md ops w Fin (o :: rest) D :=
  DW.val hg hd hno (fun hG => absurd hG hn) next
theorem RW.end {s : Nat} (hs : s = ops.length) (h : KW N ds (Q .normal) E w) : RW P r Q N ds ops s E w := by subst hs; exact RW.nil h
theorem KW.rk {s : Nat} (h : RW P r Q N ds ops s E w) : KW N ds (Exit.then (RK P r Q ops s) Q .normal) E w := h
theorem KW.rk' {s : Nat} (h : RW P r Q N ds ops s E w) : KW N ds (RK P r Q ops s) E w := h

theorem X.sliceH {A : Option Addr} {l c sz : Nat} {k : IntKind} {i : Int} {t e : TypeId} (ht : P.underlying t = some (.slice e)) (hs : (P.info? e).map (·.size) = some sz) (hx : ρ x = .slice A l c) (hy : ρ y = .int k i) (hb : 0 ≤ i ∧ i ≤ (c : Int)) : (execOp ρ ⟨d, .slice t x none (some y) none, ty, pos, af, gu⟩).run P w = .ok (.value (.slice A i.toNat c)) w := by 
    simp only [execOp, Option.map_some, Option.map_none]; rw [hx, hy]
    simp [Instr.sliceAt, Instr.slice, run_underlying ht, Instr.sliceBounds, Instr.sliceBound, asIntOf, hb, run_sizeOf hs]
    intro _
    cases A with
    | none => rfl
    | some a => obtain ⟨b, o, f⟩ := a; cases f <;> simp [Addr.add]
theorem TW.sliceH {A : Option Addr} {l c sz : Nat} {k : IntKind} {i : Int} {t e : TypeId} (hg : gd ops E gu = some G) (hd : okDst N d = true) (ht : P.underlying t = some (.slice e)) (hs : (P.info? e).map (·.size) = some sz) (hx : ev E x = some (cx, .slice A l c)) (ix : Cnd G → Cnd cx) (hy : ev E y = some (cy, .int k i)) (iy : Cnd G → Cnd cy) (hb : Cnd G → 0 ≤ i ∧ i ≤ (c : Int))
    (next : TW P r Q N ds ops rest (ins E d G (.slice A i.toNat c)) w) : TW P r Q N ds ops (⟨d, .slice t x none (some y) none, ty, pos, af, gu⟩ :: rest) E w :=
  TW.val hg hd rfl (fun hG _ ha => X.sliceH ht hs (ha.eval hx (ix hG)) (ha.eval hy (iy hG)) (hb hG)) next
theorem DW.sliceH {A : Option Addr} {l c sz : Nat} {k : IntKind} {i : Int} {t e : TypeId} (hg : dgd ops D gu = some G) (hd : okDst N d = true) (ht : P.underlying t = some (.slice e)) (hs : (P.info? e).map (·.size) = some sz) (hx : dev D x = some (cx, .ex (.slice A l c))) (ix : Cnd G → Cnd cx) (hy : dev D y = some (cy, .ex (.int k i))) (iy : Cnd G → Cnd cy) (hb : Cnd G → 0 ≤ i ∧ i ≤ (c : Int))
    (next : DW P N ds md ops w Fin rest (dins D d G (.ex (.slice A i.toNat c)))) : DW P N ds md ops w Fin (⟨d, .slice t x none (some y) none, ty, pos, af, gu⟩ :: rest) D :=
  DW.val hg hd rfl (fun hG _ _ _ ha => X.sliceH ht hs (ha.eval (o := ⟨d, .slice t x none (some y) none, ty, pos, af, gu⟩) hx (by simp [Op.operands, Call.operands]) (ix hG)) (ha.eval (o := ⟨d, .slice t x none (some y) none, ty, pos, af, gu⟩) hy (by simp [Op.operands, Call.operands]) (iy hG)) (hb hG)) next
theorem X.sliceL {A : Option Addr} {l c sz : Nat} {k : IntKind} {i : Int} {t e : TypeId} (ht : P.underlying t = some (.slice e)) (hs : (P.info? e).map (·.size) = some sz) (hx : ρ x = .slice A l c) (hy : ρ y = .int k i) (hb : 0 ≤ i ∧ i ≤ (l : Int)) : (execOp ρ ⟨d, .slice t x (some y) none none, ty, pos, af, gu⟩).run P w = .ok (.value (.slice (if c = i.toNat then A else A.map (·.add (i.toNat * sz))) (l - i.toNat) (c - i.toNat))) w := by 
    simp only [execOp, Option.map_some, Option.map_none]; rw [hx, hy]
    simp [Instr.sliceAt, Instr.slice, run_underlying ht, Instr.sliceBounds, Instr.sliceBound, asIntOf, hb, run_sizeOf hs]
theorem TW.sliceL {A : Option Addr} {l c sz : Nat} {k : IntKind} {i : Int} {t e : TypeId} (hg : gd ops E gu = some G) (hd : okDst N d = true) (ht : P.underlying t = some (.slice e)) (hs : (P.info? e).map (·.size) = some sz) (hx : ev E x = some (cx, .slice A l c)) (ix : Cnd G → Cnd cx) (hy : ev E y = some (cy, .int k i)) (iy : Cnd G → Cnd cy) (hb : Cnd G → 0 ≤ i ∧ i ≤ (l : Int))
    (next : TW P r Q N ds ops rest (ins E d G (.slice (if c = i.toNat then A else A.map (·.add (i.toNat * sz))) (l - i.toNat) (c - i.toNat))) w) : TW P r Q N ds ops (⟨d, .slice t x (some y) none none, ty, pos, af, gu⟩ :: rest) E w :=
  TW.val hg hd rfl (fun hG _ ha => X.sliceL ht hs (ha.eval hx (ix hG)) (ha.eval hy (iy hG)) (hb hG)) next
theorem DW.sliceL {A : Option Addr} {l c sz : Nat} {k : IntKind} {i : Int} {t e : TypeId} (hg : dgd ops D gu = some G) (hd : okDst N d = true) (ht : P.underlying t = some (.slice e)) (hs : (P.info? e).map (·.size) = some sz) (hx : dev D x = some (cx, .ex (.slice A l c))) (ix : Cnd G → Cnd cx) (hy : dev D y = some (cy, .ex (.int k i))) (iy : Cnd G → Cnd cy) (hb : Cnd G → 0 ≤ i ∧ i ≤ (l : Int))
    (next : DW P N ds md ops w Fin rest (dins D d G (.ex (.slice (if c = i.toNat then A else A.map (·.add (i.toNat * sz))) (l - i.toNat) (c - i.toNat))))) : DW P N ds md ops w Fin (⟨d, .slice t x (some y) none none, ty, pos, af, gu⟩ :: rest) D :=
  DW.val hg hd rfl (fun hG _ _ _ ha => X.sliceL ht hs (ha.eval (o := ⟨d, .slice t x (some y) none none, ty, pos, af, gu⟩) hx (by simp [Op.operands, Call.operands]) (ix hG)) (ha.eval (o := ⟨d, .slice t x (some y) none none, ty, pos, af, gu⟩) hy (by simp [Op.operands, Call.operands]) (iy hG)) (hb hG)) next
/-! ### own mode -/

/-- a row that the region has made -/
def rowE (w0 : World) (e : TypeId) (sz n : Nat) (xs : List Value) : Ent := .own (fun v w => OwnS w e sz v n xs ∧ ∀ g, v.ownBlock = some g → w0.heap.size ≤ g) (fun v g => v.ownBlock = some g)
theorem rowE_strong (w0 : World) (e : TypeId) (sz n : Nat) (xs : List Value) : (rowE w0 e sz n xs).strong w0 :=
  ⟨fun _ _ _ _ hk h => ⟨h.1.kept hk, h.2⟩, fun _ _ h g hg => ⟨h.2 g hg, h.1.lt hg⟩⟩

theorem OW.gen {o : Oper} (e : Ent) (eats : List Nat) (hg : dgd ops D o.guard = some G) (hd : okDst N o.dst = true) (hn : noDefer o.op = true) (hst : e.strong w) (hso : sole ops o eats = true) (heo : ∀ s, s ∈ eats → ∃ c φ S, dlook D s = some (c, .own φ S))
    (hrun : Cnd G → ∀ a w', Below w.heap.size w w' → FitL N ds (o.looksAt ops.toArray) D a w' → ∃ v w'', (execOp a.eval o).run P w' = .ok (.value v) w'' ∧ StepO w w' w'' (EatF D eats a) ∧ e.sat v w'' ∧ ∀ g, e.foot v g → EatF D eats a g ∨ w'.heap.size ≤ g)
    (next : DW P N ds .own ops w Fin rest (dins (ddrop D eats) o.dst G e)) : DW P N ds .own ops w Fin (o :: rest) D :=
  ⟨G, e, eats, ⟨hg, hd, hn, hst, hso, heo, fun hG a w' hb ha => .inl (hrun hG a w' hb ha)⟩, next⟩
theorem stepO_below {w0 w w' : World} {E : Nat → Prop} (hb : Below w0.heap.size w0 w) (h : Below w.heap.size w w') : StepO w0 w w' E := ⟨h.mono hb.size, fun b _ hb _ => h.block b hb⟩

/-- a slice literal -/
theorem OW.buildSlice {t : TypeId} (e : TypeId) {sz len : Nat} {parts : Array (Nat × Operand)} (xs : List Operand) {vs cs : List Value} (hg : dgd ops D gu = some G) (hd : okDst N d = true) (hp : parts.toList = number xs) (he : elemOK P t e sz = true)
    (hx : DArgs (Oper.looksAt ops.toArray ⟨d, .buildSlice t len parts, ty, pos, af, gu⟩) N ds D G xs vs) (hl : len = vs.length) (hsz : vs.all (fun v => Nat.beq v.cells.size sz) = true) (hsm : Nat.ble (vs.length * sz) 16777216 = true) (hpos : Nat.blt 0 vs.length = true) (hc : (vs.map fun v => v.cells.toList).flatten = cs)
    (next : DW P N ds .own ops w Fin rest (dins D d G (rowE w e sz len cs))) : DW P N ds .own ops w Fin (⟨d, .buildSlice t len parts, ty, pos, af, gu⟩ :: rest) D := by
  subst hl
  have hv' : ∀ v ∈ vs, v.cells.size = sz := fun v hm => Nat.eq_of_beq_eq_true (List.all_eq_true.1 hsz v hm)
  have hcl : cs.length = vs.length * sz := by
    have key : ∀ us : List Value, (∀ v ∈ us, v.cells.size = sz) → ((us.map fun v => v.cells.toList).flatten).length = us.length * sz := by
      intro us
      induction us with
      | nil => simp
      | cons v us ih =>
        intro h
        have h1 := h v (by simp)
        have h2 := ih (fun u hu => h u (by simp [hu]))
        simp only [List.map_cons, List.flatten_cons, List.length_append, List.length_cons, h2, Array.length_toList, h1]
        rw [Nat.succ_mul]; omega
    rw [← hc]; exact key vs hv'
  have hfl : vs.flatMap (fun v => v.cells.toList) = cs := by rw [← hc]; simp [List.flatMap]
  refine OW.gen (rowE w e sz vs.length cs) [] hg hd rfl (rowE_strong _ _ _ _ _) rfl (fun s hs => by simp at hs) (fun hG a w' hb ha => ?_) (by rw [ddrop_nil]; exact next)
  refine ⟨_, _, X.buildSlice hp rfl he (hx (fun t ht => mem_looks ?_) a w' ha hG) hv' (Nat.le_of_ble_eq_true hsm) (blt_iff.1 hpos), stepO_below hb ((Below.refl _ _).alloc (Nat.le_refl _) _), ⟨?_, ?_⟩, ?_⟩
  · simp only [Op.operands]
    rw [hp]
    simp only [number, List.map_map]
    rw [List.mem_map]
    obtain ⟨j, hj, he⟩ := List.getElem_of_mem ht
    exact ⟨(Operand.tmp t, j), by rw [List.mem_zipIdx_iff_getElem?]; simp [he.symm], rfl⟩
  · rw [hfl]
    refine OwnS.of_blk (Blk.new w' e cs) hcl ?_
    have h1 := Nat.le_of_ble_eq_true hsm
    obtain ⟨_, _, _, _, _, _, _, h0⟩ := elemOK_spec he
    have : vs.length ≤ vs.length * sz := Nat.le_mul_of_pos_right _ h0
    omega
  · intro g hg
    simp [Value.ownBlock] at hg
    subst hg
    exact hb.size
  · intro g hg
    simp [Ent.foot, rowE, Value.ownBlock] at hg
    exact .inr (by omega)

theorem OW.buildSlice0 {t : TypeId} (e : TypeId) {sz : Nat} (hg : dgd ops D gu = some G) (hd : okDst N d = true) (he : elemOK P t e sz = true)
    (next : DW P N ds .own ops w Fin rest (dins D d G (rowE w e sz 0 []))) : DW P N ds .own ops w Fin (⟨d, .buildSlice t 0 #[], ty, pos, af, gu⟩ :: rest) D := by
  obtain ⟨i, zv, hu, hi, hz, rfl, hzs, hs⟩ := elemOK_spec he
  refine OW.gen (rowE w e i.size 0 []) [] hg hd rfl (rowE_strong _ _ _ _ _) rfl (fun s hs => by simp at hs) (fun hG a w' hb ha => ?_) (by rw [ddrop_nil]; exact next)
  refine ⟨.slice (some ⟨w'.heap.size, 0, none⟩) 0 0, w'.alloc (.cells [].toArray e), ?_, stepO_below hb ((Below.refl _ _).alloc (Nat.le_refl _) _), ⟨?_, ?_⟩, ?_⟩
  · simp [execOp, Instr.buildSlice, run_underlying hu, sizeOf, typeInfo, hi, Instr.fill, newRow, Array.range_zero']
  · exact OwnS.of_blk (Blk.new w' e []) (by simp) (by omega)
  · intro g hg
    simp [Value.ownBlock] at hg
    subst hg
    exact hb.size
  · intro g hg
    simp [Ent.foot, rowE, Value.ownBlock] at hg
    exact .inr (by omega)

/-- append onto a row that the region has made -/
theorem OW.appendG {t e : TypeId} {sz bytes n m : Nat} {st : Tmp} {xs : List Value} (news : List Value) (hg : dgd ops D gu = some G) (hd : okDst N d = true) (ho : growOK P t e sz bytes = true) (hs : dlook D st = some (none, rowE w e sz n xs)) (hso : sole ops ⟨d, .call ⟨.builtin .append, #[.tmp st, x], #[t, t]⟩, ty, pos, af, gu⟩ [st] = true)
    (hx : Cnd G → ∀ a w', Below w.heap.size w w' → FitL N ds (Oper.looksAt ops.toArray ⟨d, .call ⟨.builtin .append, #[.tmp st, x], #[t, t]⟩, ty, pos, af, gu⟩) D a w' → ∃ A c, a.eval x = .slice A m c ∧ ∀ j u, news[j]? = some u → ∃ ad, A = some ad ∧ w'.cell? (ad.add j) = some u)
    (hl : news.length = m * sz) (h1 : ∀ u ∈ news, u.oneCell' = true) (hb : (n + m) * bytes ≤ 140737488355328) (hb0 : 1 ≤ bytes)
    (next : DW P N ds .own ops w Fin rest (dins (ddrop D [st]) d G (rowE w e sz (n + m) (xs ++ news)))) : DW P N ds .own ops w Fin (⟨d, .call ⟨.builtin .append, #[.tmp st, x], #[t, t]⟩, ty, pos, af, gu⟩ :: rest) D := by
  refine OW.gen (rowE w e sz (n + m) (xs ++ news)) [st] hg hd rfl (rowE_strong _ _ _ _ _) hso (fun s hs' => ⟨none, _, _, by simp at hs'; subst hs'; exact hs⟩) (fun hG a w' hb' ha => ?_) next
  have hst : OwnS w' e sz (a.eval (.tmp st)) n xs ∧ ∀ g, (a.eval (.tmp st)).ownBlock = some g → w.heap.size ≤ g :=
    (ha.slots st (mem_looks (o := ⟨d, .call ⟨.builtin .append, #[.tmp st, x], #[t, t]⟩, ty, pos, af, gu⟩) (by simp [Op.operands, Call.operands])) none _ hs).1 trivial
  obtain ⟨A, c, hev, hcell⟩ := hx hG a w' hb' ha
  obtain ⟨v', w'', a1, a2, a3, a5⟩ := append_run (ty := ty) (c := c) ho hst.1 hl hcell h1 hb hb0
  refine ⟨v', w'', ?_, ⟨?_, ?_⟩, ⟨a2, ?_⟩, ?_⟩
  · simp only [execOp, resolve, invoke, builtin, Sem.run_bind, Sem.run_pure, Result.andThen_ok, List.map_toArray, List.map_cons, List.map_nil, hev, a1]
  · exact (Below.refl _ _).grown a3 hb'.size hst.2
  · intro b hb1 hb2 hE
    refine a3.block b hb2 (fun h => hE ⟨st, none, _, by simp [hasN, beq_self], hs, trivial, ?_⟩)
    exact h.symm
  · intro g hg
    rcases a5 with h | h
    · exact hst.2 g (by rw [← h]; exact hg)
    · rw [hg] at h; simp at h; have := hb'.size; omega
  · intro g hg
    rcases a5 with h | h
    · exact .inl ⟨st, none, _, by simp [hasN, beq_self], hs, trivial, by show (a.eval (.tmp st)).ownBlock = some g; rw [← h]; exact hg⟩
    · have hg : v'.ownBlock = some g := hg
      rw [hg] at h; simp at h; exact .inr (by omega)

/-- .. of what lies in old memory -/
theorem OW.append {t e : TypeId} {sz bytes n m c : Nat} {st : Tmp} {xs : List Value} {A : Option Addr} (news : List Value) (hg : dgd ops D gu = some G) (hd : okDst N d = true) (ho : growOK P t e sz bytes = true) (hs : dlook D st = some (none, rowE w e sz n xs)) (hso : sole ops ⟨d, .call ⟨.builtin .append, #[.tmp st, x], #[t, t]⟩, ty, pos, af, gu⟩ [st] = true)
    (hx : dev D x = some (cx, .ex (.slice A m c))) (ix : Cnd G → Cnd cx) (hn : ∀ j u, news[j]? = some u → ∃ ad, A = some ad ∧ w.cell? (ad.add j) = some u)
    (hl : news.length = m * sz) (h1 : ∀ u ∈ news, u.oneCell' = true) (hb : (n + m) * bytes ≤ 140737488355328) (hb0 : 1 ≤ bytes)
    (next : DW P N ds .own ops w Fin rest (dins (ddrop D [st]) d G (rowE w e sz (n + m) (xs ++ news)))) : DW P N ds .own ops w Fin (⟨d, .call ⟨.builtin .append, #[.tmp st, x], #[t, t]⟩, ty, pos, af, gu⟩ :: rest) D :=
  OW.appendG news hg hd ho hs hso (fun hG a w' hb' ha => ⟨A, c, ha.eval (o := ⟨d, .call ⟨.builtin .append, #[.tmp st, x], #[t, t]⟩, ty, pos, af, gu⟩) hx (by simp [Op.operands, Call.operands]) (ix hG), fun j u hj => by
    obtain ⟨ad, h1, h2⟩ := hn j u hj
    exact ⟨ad, h1, (hb'.cell (block_lt_of_cell h2)).trans h2⟩⟩) hl h1 hb hb0 next

/-- .. of another row that the region has made -/
theorem OW.appendR {t e e' : TypeId} {sz bytes n m : Nat} {st sx : Tmp} {xs : List Value} (news : List Value) (hg : dgd ops D gu = some G) (hd : okDst N d = true) (ho : growOK P t e sz bytes = true) (hs : dlook D st = some (none, rowE w e sz n xs)) (hso : sole ops ⟨d, .call ⟨.builtin .append, #[.tmp st, .tmp sx], #[t, t]⟩, ty, pos, af, gu⟩ [st] = true)
    (hx : dlook D sx = some (cx, rowE w e' sz m news)) (ix : Cnd G → Cnd cx)
    (h1 : ∀ u ∈ news, u.oneCell' = true) (hb : (n + m) * bytes ≤ 140737488355328) (hb0 : 1 ≤ bytes) (hl : news.length = m * sz)
    (next : DW P N ds .own ops w Fin rest (dins (ddrop D [st]) d G (rowE w e sz (n + m) (xs ++ news)))) : DW P N ds .own ops w Fin (⟨d, .call ⟨.builtin .append, #[.tmp st, .tmp sx], #[t, t]⟩, ty, pos, af, gu⟩ :: rest) D :=
  OW.appendG news hg hd ho hs hso (fun hG a w' hb' ha => by
    have hr : OwnS w' e' sz (a.eval (.tmp sx)) m news ∧ _ := (ha.slots sx (mem_looks (o := ⟨d, .call ⟨.builtin .append, #[.tmp st, .tmp sx], #[t, t]⟩, ty, pos, af, gu⟩) (by simp [Op.operands, Call.operands])) cx _ hx).1 (ix hG)
    obtain ⟨A, cap, h1, _, _, h2⟩ := hr.1.form
    refine ⟨A, cap, h1, fun j u hj => ?_⟩
    obtain ⟨g, q1, _, q3, _⟩ := h2 j u hj
    exact ⟨_, q1, by
      have e : Addr.add ⟨g, 0, none⟩ j = ⟨g, j, none⟩ := by unfold Addr.add; split <;> simp_all
      rw [e]; exact q3⟩) hl h1 hb hb0 next

theorem OW.assign {φ : Value → World → Prop} {S : Value → Nat → Prop} {st : Tmp} (hg : dgd ops D gu = some G) (hd : okDst N d = true) (hs : dlook D st = some (cx, .own φ S)) (ix : Cnd G → Cnd cx) (hst : (Ent.own φ S).strong w) (hso : sole ops ⟨d, .assign (.tmp st), ty, pos, af, gu⟩ [st] = true)
    (next : DW P N ds .own ops w Fin rest (dins (ddrop D [st]) d G (.own φ S))) : DW P N ds .own ops w Fin (⟨d, .assign (.tmp st), ty, pos, af, gu⟩ :: rest) D :=
  OW.gen (.own φ S) [st] hg hd rfl hst hso (fun s hs' => ⟨cx, φ, S, by simp at hs'; subst hs'; exact hs⟩) (fun hG a w' hb' ha =>
    have h := (ha.slots st (mem_looks (o := ⟨d, .assign (.tmp st), ty, pos, af, gu⟩) (by simp [Op.operands])) cx _ hs).1 (ix hG)
    ⟨a.tmps.getD st undef, w', rfl, ⟨Below.refl _ _, fun _ _ _ _ => rfl⟩, h, fun g hg => .inl ⟨st, cx, _, by simp [hasN, beq_self], hs, ix hG, hg⟩⟩) next
end
end Go.PF

/- Data that lies in the world as it is; rows of rows. -/
namespace Go.PF
open Go.RowKit

/-- What is read of memory lies in blocks that are there. -/
structure Ty.Now {α : Type} (T : Ty α) : Prop where
  pos : 0 < T.n
  now : ∀ F w cs x, T.rep F w cs x → T.rep (fun k => k < w.heap.size) w cs x
theorem intT_now : Ty.Now intT := ⟨by decide, fun _ _ _ _ h => h⟩
theorem strT_now : Ty.Now strT := ⟨by decide, fun _ _ _ _ h => h⟩
theorem boolT_now : Ty.Now boolT := ⟨by decide, fun _ _ _ _ h => h⟩
theorem SL.now {α : Type} {T : Ty α} (hT : T.Now) {F : Nat → Prop} {w : World} {v : Value} {l : List α} (h : SL T F w v l) : SL T (fun k => k < w.heap.size) w v l := by
  obtain ⟨A, cap, rfl, h1, h2, h3⟩ := h
  refine ⟨A, cap, rfl, h1, h2, fun i x hx => ?_⟩
  obtain ⟨ad, cs, ha, hF, hc, hr⟩ := h3 i x hx
  refine ⟨ad, cs, ha, ?_, hc, hT.now _ _ _ _ hr⟩
  have hl := T.len _ _ _ _ hr
  have h0 : 0 < cs.length := by rw [hl]; exact hT.pos
  have := block_lt_of_cell (hc 0 cs[0] (List.getElem?_eq_getElem h0))
  rwa [add_block, add_block] at this
theorem sliceT_now {α : Type} {T : Ty α} (hT : T.Now) : Ty.Now (sliceT T) := ⟨by show 0 < 1; decide, fun F w cs x ⟨v, h1, h2⟩ => ⟨v, h1, SL.now hT h2⟩⟩
/-- .. and stays. -/
theorem SL.step {α : Type} {T : Ty α} (hT : T.Now) {F : Nat → Prop} {w w' : World} {v : Value} {l : List α} (h : SL T F w v l) (hb : Below w.heap.size w w') : SL T (fun k => k < w'.heap.size) w' v l := (h.below hb).now hT
theorem SL.form {α : Type} {T : Ty α} {F : Nat → Prop} {w : World} {v : Value} {l : List α} (h : SL T F w v l) : ∃ A cap, v = .slice A l.length cap ∧ l.length ≤ cap := by
  obtain ⟨A, cap, rfl, h1, _⟩ := h
  exact ⟨A, cap, rfl, h1⟩
/-- The cells of an element. -/
theorem SL.at {α : Type} {T : Ty α} {F : Nat → Prop} {w : World} {A : Option Addr} {n cap : Nat} {l : List α} (h : SL T F w (.slice A n cap) l) {i : Nat} {x : α} (hx : l[i]? = some x) :
    ∃ ad cs, A = some ad ∧ F ad.block ∧ T.rep F w cs x ∧ ∀ j u, cs[j]? = some u → w.cell? ((ad.add (i * T.n)).add j) = some u := by
  obtain ⟨A', cap', hv, _, _, h3⟩ := h
  simp only [Value.slice.injEq] at hv
  obtain ⟨rfl, _, rfl⟩ := hv
  obtain ⟨ad, cs, ha, hF, hc, hr⟩ := h3 i x hx
  exact ⟨ad, cs, ha, hF, hr, hc⟩
theorem SL.addr {α : Type} {T : Ty α} {F : Nat → Prop} {w : World} {A : Option Addr} {n cap : Nat} {l : List α} (h : SL T F w (.slice A n cap) l) (hl : 0 < l.length) : ∃ ad, A = some ad := by
  obtain ⟨ad, _, h1, _⟩ := h.at (List.getElem?_eq_getElem hl)
  exact ⟨ad, h1⟩
theorem SL.getI {F : Nat → Prop} {w : World} {ad : Addr} {n cap : Nat} {l : List Int} (h : SL intT F w (.slice (some ad) n cap) l) {i : Nat} {x : Int} (hx : l[i]? = some x) : w.cell? (ad.add ((i : Int).toNat * 1)) = some (.int .i64 x) := by
  obtain ⟨ad', h1, h2, _⟩ := h.int hx
  cases h1
  exact h2
theorem SL.rngI {F : Nat → Prop} {w : World} {v : Value} {l : List Int} (h : SL intT F w v l) {i : Nat} {x : Int} (hx : l[i]? = some x) : I64 x := by
  obtain ⟨A, cap, rfl, _⟩ := h.form
  obtain ⟨_, _, _, h3⟩ := h.int hx
  exact h3
/-- a row of a slice of slices -/
theorem SL.row {α : Type} {T : Ty α} {F : Nat → Prop} {w : World} {ad : Addr} {n cap : Nat} {l : List (List α)} (h : SL (sliceT T) F w (.slice (some ad) n cap) l) {i : Nat} {r : List α} (hr : l[i]? = some r) :
    ∃ v, w.cell? (ad.add ((i : Int).toNat * 1)) = some v ∧ SL T F w v r := by
  obtain ⟨ad', cs, h1, _, ⟨v, rfl, hv⟩, hc⟩ := h.at hr
  cases h1
  refine ⟨v, ?_, hv⟩
  have := hc 0 v rfl
  rw [Addr.add_add, Nat.add_zero] at this
  exact this
end Go.PF

/- Truth values of statements; distances read off rows: plain. -/
namespace Go.PF
noncomputable def dec (p : Prop) : Bool := @decide p (Classical.propDecidable p)
theorem dec_iff {p : Prop} : dec p = true ↔ p := @decide_eq_true_iff p (Classical.propDecidable p)
theorem dec_pos {p : Prop} (h : p) : dec p = true := dec_iff.2 h
theorem dec_neg {p : Prop} (h : ¬ p) : dec p = false := by
  cases hd : dec p with
  | false => rfl
  | true => exact absurd (dec_iff.1 hd) h
theorem dec_congr {p q : Prop} (h : p ↔ q) : dec p = dec q := by rw [show p = q from propext h]
theorem dec_eq_decide {p : Prop} [Decidable p] : dec p = decide p := by
  by_cases h : p
  · rw [dec_pos h]; simp [h]
  · rw [dec_neg h]; simp [h]
theorem nb {p : Prop} [Decidable p] (h : (!decide p) = true) : ¬ p := by simpa using h
theorem nb' {p : Prop} [Decidable p] (h : (!decide p) = false) : p := by simpa using h
theorem ndec {p : Prop} (h : (!dec p) = true) : ¬ p := fun hp => by rw [dec_pos hp] at h; cases h
theorem ndec' {p : Prop} (h : (!dec p) = false) : p := dec_iff.1 (by simpa using h)
end Go.PF
namespace Go.Ord
open Go.PF
structure RowOK (d : Dist) (i : Nat) (r : List Int) : Prop where
  len : r.length = d.length
  diag : r[i]? = some 0
  rng : ∀ (j : Nat) (x : Int), r[j]? = some x → -1 ≤ x ∧ x ≤ 1000000
def Tri (d : Dist) (i k j : Nat) : Prop := at2 d i k ≠ -1 → at2 d k j ≠ -1 → at2 d i j ≠ -1 ∧ at2 d i j ≤ at2 d i k + at2 d k j
theorem at2_eq {d : Dist} {i j : Nat} {r : List Int} {x : Int} (hr : d[i]? = some r) (hx : r[j]? = some x) : at2 d i j = x := by
  unfold at2
  simp [List.getD_eq_getElem?_getD, hr, hx]
theorem wfd_of {d : Dist} (h1 : d.length ≤ 12) (h2 : ∀ (i : Nat) (r : List Int), d[i]? = some r → RowOK d i r) (h3 : ∀ i k j, i < d.length → k < d.length → j < d.length → Tri d i k j) : WfD d := by
  refine ⟨h1, fun i r hr => (h2 i r hr).len, fun i hi => ?_, fun i j hi hj => ?_, h3⟩
  · have hr : d[i]? = some d[i] := List.getElem?_eq_getElem hi
    exact at2_eq hr (h2 i _ hr).diag
  · have hr : d[i]? = some d[i] := List.getElem?_eq_getElem hi
    have hl := (h2 i _ hr).len
    have hx : d[i][j]? = some (d[i][j]'(by omega)) := List.getElem?_eq_getElem (by omega)
    rw [at2_eq hr hx]
    exact (h2 i _ hr).rng j _ hx
theorem WfD.rowOK {d : Dist} (h : WfD d) {i : Nat} {r : List Int} (hr : d[i]? = some r) : RowOK d i r := by
  have hi := (List.getElem?_eq_some_iff.1 hr).1
  have hl := h.row i r hr
  refine ⟨hl, ?_, fun j x hx => ?_⟩
  · have hx : r[i]? = some (r[i]'(by omega)) := List.getElem?_eq_getElem (by omega)
    have := h.diag i hi
    rw [at2_eq hr hx] at this
    rw [hx, this]
  · have hj := (List.getElem?_eq_some_iff.1 hx).1
    have := h.rng i j hi (by omega)
    rw [at2_eq hr hx] at this
    exact this
end Go.Ord

/- max, min; sets of bits; shifts; interface values; slices made. Printed by mkops3.py. -/
namespace Go.PF
open Go.RowKit

/-- m without the bits of n -/
def andN (m n : Nat) : Nat := (BitVec.ofNat 32 m &&& ~~~ (BitVec.ofNat 32 n)).toNat
theorem andN_bit {m n : Nat} (i : Nat) : (andN m n).testBit i = (decide (i < 32) && m.testBit i && !(n.testBit i)) := by
  unfold andN
  rw [← BitVec.getLsbD, BitVec.getLsbD_and, BitVec.getLsbD_not, BitVec.getLsbD_ofNat, BitVec.getLsbD_ofNat]
  by_cases h : i < 32 <;> simp [h]
theorem andN_lt (m n : Nat) : andN m n < 2 ^ 32 := (BitVec.ofNat 32 m &&& ~~~ (BitVec.ofNat 32 n)).isLt
theorem andN_zero {m n : Nat} (hm : m < 2 ^ 32) : andN m n = 0 ↔ ∀ i, m.testBit i = true → n.testBit i = true := by
  constructor
  · intro h i hi
    have h1 := andN_bit (m := m) (n := n) i
    rw [h, Nat.zero_testBit, hi] at h1
    have h2 : i < 32 := by
      rcases Nat.lt_or_ge i 32 with h | h
      · exact h
      · rw [Nat.testBit_lt_two_pow (Nat.lt_of_lt_of_le hm (Nat.pow_le_pow_right (by decide) h))] at hi; cases hi
    simpa [h2] using h1.symm
  · intro h
    apply Nat.eq_of_testBit_eq
    intro i
    rw [andN_bit, Nat.zero_testBit]
    cases hi : m.testBit i with
    | false => simp
    | true => simp [h i hi]
theorem wrap32 {z : Nat} (h : z < 2 ^ 32) : IntKind.u32.wrap (z : Int) = z := by
  rw [IntKind.wrap_u32]; omega
theorem ofInt32 (m : Nat) : BitVec.ofInt IntKind.u32.bits (m : Int) = BitVec.ofNat 32 m := BitVec.ofInt_ofNat ..
theorem run_and32 {m n : Nat} (hm : m < 2 ^ 32) (hn : n < 2 ^ 32) : Op.intBits .and .u32 (m : Int) (n : Int) = pure (.int .u32 ((m &&& n : Nat) : Int)) := by
  have h : (BitVec.ofNat 32 m &&& BitVec.ofNat 32 n).toNat = m &&& n := by
    rw [BitVec.toNat_and, BitVec.toNat_ofNat, BitVec.toNat_ofNat, Nat.mod_eq_of_lt hm, Nat.mod_eq_of_lt hn]
  unfold Op.intBits
  simp only [ofInt32]
  show (pure (Value.int .u32 (IntKind.u32.wrap (((BitVec.ofNat 32 m &&& BitVec.ofNat 32 n).toNat : Nat) : Int))) : Sem Value) = _
  rw [h, wrap32 (Nat.lt_of_le_of_lt Nat.and_le_left hm)]
theorem run_or32 {m n : Nat} (hm : m < 2 ^ 32) (hn : n < 2 ^ 32) : Op.intBits .or .u32 (m : Int) (n : Int) = pure (.int .u32 ((m ||| n : Nat) : Int)) := by
  have h : (BitVec.ofNat 32 m ||| BitVec.ofNat 32 n).toNat = m ||| n := by
    rw [BitVec.toNat_or, BitVec.toNat_ofNat, BitVec.toNat_ofNat, Nat.mod_eq_of_lt hm, Nat.mod_eq_of_lt hn]
  unfold Op.intBits
  simp only [ofInt32]
  show (pure (Value.int .u32 (IntKind.u32.wrap (((BitVec.ofNat 32 m ||| BitVec.ofNat 32 n).toNat : Nat) : Int))) : Sem Value) = _
  rw [h, wrap32 (Nat.or_lt_two_pow hm hn)]
theorem run_andN32 {m n : Nat} : Op.intBits .andNot .u32 (m : Int) (n : Int) = pure (.int .u32 ((andN m n : Nat) : Int)) := by
  unfold Op.intBits
  simp only [ofInt32]
  show (pure (Value.int .u32 (IntKind.u32.wrap (((BitVec.ofNat 32 m &&& ~~~ (BitVec.ofNat 32 n)).toNat : Nat) : Int))) : Sem Value) = _
  have := wrap32 (andN_lt m n)
  unfold andN at this ⊢
  rw [this]

section
variable {P : Program} {r : Option Nat} {Q : Exit → Act → World → Prop} {N : Nat} {ds : List Deferred} {ops rest : List Oper} {E : Env} {D : DE} {w : World} {G : Option Bool} {Fin : DE → Prop} {md : Mode}
variable {d : Option Tmp} {ty : TypeId} {pos : String} {af : Array Edge} {gu : Option (Nat × Bool)}
variable {x y z : Operand} {cx cy cz : Option Bool} {ρ : Operand → Value}

def notIface (P : Program) (t : TypeId) : Bool := match P.underlying t with
  | none | some (.interface _) => false
  | _ => true

theorem X.maxI {k : IntKind} {m n : Int} {ts : Array TypeId}  (hx : ρ x = .int k m) (hy : ρ y = .int k n)  : (execOp ρ ⟨d, .call ⟨.builtin .max, #[x, y], ts⟩, ty, pos, af, gu⟩).run P w = .ok (.value (.int k (max m n))) w := by 
    have e : (if n > m then n else m) = max m n := by omega
    simp [execOp, resolve, invoke, builtin, hx, hy, run_max_int2, e]
theorem TW.maxI {k : IntKind} {m n : Int} {ts : Array TypeId} (hg : gd ops E gu = some G) (hd : okDst N d = true)  (hx : ev E x = some (cx, .int k m)) (ix : Cnd G → Cnd cx) (hy : ev E y = some (cy, .int k n)) (iy : Cnd G → Cnd cy) 
    (next : TW P r Q N ds ops rest (ins E d G (.int k (max m n))) w) : TW P r Q N ds ops (⟨d, .call ⟨.builtin .max, #[x, y], ts⟩, ty, pos, af, gu⟩ :: rest) E w :=
  TW.val hg hd rfl (fun hG _ ha => X.maxI  (ha.eval hx (ix hG)) (ha.eval hy (iy hG)) ) next
theorem DW.maxI {k : IntKind} {m n : Int} {ts : Array TypeId} (hg : dgd ops D gu = some G) (hd : okDst N d = true)  (hx : dev D x = some (cx, .ex (.int k m))) (ix : Cnd G → Cnd cx) (hy : dev D y = some (cy, .ex (.int k n))) (iy : Cnd G → Cnd cy) 
    (next : DW P N ds md ops w Fin rest (dins D d G (.ex (.int k (max m n))))) : DW P N ds md ops w Fin (⟨d, .call ⟨.builtin .max, #[x, y], ts⟩, ty, pos, af, gu⟩ :: rest) D :=
  DW.val hg hd rfl (fun hG _ _ _ ha => X.maxI  (ha.eval (o := ⟨d, .call ⟨.builtin .max, #[x, y], ts⟩, ty, pos, af, gu⟩) hx (by simp [Op.operands, Call.operands]) (ix hG)) (ha.eval (o := ⟨d, .call ⟨.builtin .max, #[x, y], ts⟩, ty, pos, af, gu⟩) hy (by simp [Op.operands, Call.operands]) (iy hG)) ) next
theorem X.minI {k : IntKind} {m n : Int} {ts : Array TypeId}  (hx : ρ x = .int k m) (hy : ρ y = .int k n)  : (execOp ρ ⟨d, .call ⟨.builtin .min, #[x, y], ts⟩, ty, pos, af, gu⟩).run P w = .ok (.value (.int k (min m n))) w := by 
    have e : (if n < m then n else m) = min m n := by omega
    simp [execOp, resolve, invoke, builtin, hx, hy, run_min_int2, e]
theorem TW.minI {k : IntKind} {m n : Int} {ts : Array TypeId} (hg : gd ops E gu = some G) (hd : okDst N d = true)  (hx : ev E x = some (cx, .int k m)) (ix : Cnd G → Cnd cx) (hy : ev E y = some (cy, .int k n)) (iy : Cnd G → Cnd cy) 
    (next : TW P r Q N ds ops rest (ins E d G (.int k (min m n))) w) : TW P r Q N ds ops (⟨d, .call ⟨.builtin .min, #[x, y], ts⟩, ty, pos, af, gu⟩ :: rest) E w :=
  TW.val hg hd rfl (fun hG _ ha => X.minI  (ha.eval hx (ix hG)) (ha.eval hy (iy hG)) ) next
theorem DW.minI {k : IntKind} {m n : Int} {ts : Array TypeId} (hg : dgd ops D gu = some G) (hd : okDst N d = true)  (hx : dev D x = some (cx, .ex (.int k m))) (ix : Cnd G → Cnd cx) (hy : dev D y = some (cy, .ex (.int k n))) (iy : Cnd G → Cnd cy) 
    (next : DW P N ds md ops w Fin rest (dins D d G (.ex (.int k (min m n))))) : DW P N ds md ops w Fin (⟨d, .call ⟨.builtin .min, #[x, y], ts⟩, ty, pos, af, gu⟩ :: rest) D :=
  DW.val hg hd rfl (fun hG _ _ _ ha => X.minI  (ha.eval (o := ⟨d, .call ⟨.builtin .min, #[x, y], ts⟩, ty, pos, af, gu⟩) hx (by simp [Op.operands, Call.operands]) (ix hG)) (ha.eval (o := ⟨d, .call ⟨.builtin .min, #[x, y], ts⟩, ty, pos, af, gu⟩) hy (by simp [Op.operands, Call.operands]) (iy hG)) ) next
theorem X.and32 {m n : Nat} {t t' : TypeId}  (hx : ρ x = .int .u32 (m : Int)) (hy : ρ y = .int .u32 (n : Int)) (hb : m < 2 ^ 32 ∧ n < 2 ^ 32) : (execOp ρ ⟨d, .binOp .and t x y t', ty, pos, af, gu⟩).run P w = .ok (.value (.int .u32 ((m &&& n : Nat) : Int))) w := by simp only [execOp]; rw [hx, hy, eqGuard_and, binOp_and, run_and32 hb.1 hb.2]; rfl
theorem DW.and32 {m n : Nat} {t t' : TypeId} (hg : dgd ops D gu = some G) (hd : okDst N d = true)  (hx : dev D x = some (cx, .ex (.int .u32 (m : Int)))) (ix : Cnd G → Cnd cx) (hy : dev D y = some (cy, .ex (.int .u32 (n : Int)))) (iy : Cnd G → Cnd cy) (hb : Cnd G → m < 2 ^ 32 ∧ n < 2 ^ 32)
    (next : DW P N ds md ops w Fin rest (dins D d G (.ex (.int .u32 ((m &&& n : Nat) : Int))))) : DW P N ds md ops w Fin (⟨d, .binOp .and t x y t', ty, pos, af, gu⟩ :: rest) D :=
  DW.val hg hd rfl (fun hG _ _ _ ha => X.and32  (ha.eval (o := ⟨d, .binOp .and t x y t', ty, pos, af, gu⟩) hx (by simp [Op.operands, Call.operands]) (ix hG)) (ha.eval (o := ⟨d, .binOp .and t x y t', ty, pos, af, gu⟩) hy (by simp [Op.operands, Call.operands]) (iy hG)) (hb hG)) next
theorem X.or32 {m n : Nat} {t t' : TypeId}  (hx : ρ x = .int .u32 (m : Int)) (hy : ρ y = .int .u32 (n : Int)) (hb : m < 2 ^ 32 ∧ n < 2 ^ 32) : (execOp ρ ⟨d, .binOp .or t x y t', ty, pos, af, gu⟩).run P w = .ok (.value (.int .u32 ((m ||| n : Nat) : Int))) w := by simp only [execOp]; rw [hx, hy, eqGuard_or, binOp_or, run_or32 hb.1 hb.2]; rfl
theorem DW.or32 {m n : Nat} {t t' : TypeId} (hg : dgd ops D gu = some G) (hd : okDst N d = true)  (hx : dev D x = some (cx, .ex (.int .u32 (m : Int)))) (ix : Cnd G → Cnd cx) (hy : dev D y = some (cy, .ex (.int .u32 (n : Int)))) (iy : Cnd G → Cnd cy) (hb : Cnd G → m < 2 ^ 32 ∧ n < 2 ^ 32)
    (next : DW P N ds md ops w Fin rest (dins D d G (.ex (.int .u32 ((m ||| n : Nat) : Int))))) : DW P N ds md ops w Fin (⟨d, .binOp .or t x y t', ty, pos, af, gu⟩ :: rest) D :=
  DW.val hg hd rfl (fun hG _ _ _ ha => X.or32  (ha.eval (o := ⟨d, .binOp .or t x y t', ty, pos, af, gu⟩) hx (by simp [Op.operands, Call.operands]) (ix hG)) (ha.eval (o := ⟨d, .binOp .or t x y t', ty, pos, af, gu⟩) hy (by simp [Op.operands, Call.operands]) (iy hG)) (hb hG)) next
theorem X.andNot32 {m n : Nat} {t t' : TypeId}  (hx : ρ x = .int .u32 (m : Int)) (hy : ρ y = .int .u32 (n : Int))  : (execOp ρ ⟨d, .binOp .andNot t x y t', ty, pos, af, gu⟩).run P w = .ok (.value (.int .u32 ((andN m n : Nat) : Int))) w := by simp only [execOp]; rw [hx, hy, eqGuard_andNot, binOp_andNot, run_andN32]; rfl
theorem DW.andNot32 {m n : Nat} {t t' : TypeId} (hg : dgd ops D gu = some G) (hd : okDst N d = true)  (hx : dev D x = some (cx, .ex (.int .u32 (m : Int)))) (ix : Cnd G → Cnd cx) (hy : dev D y = some (cy, .ex (.int .u32 (n : Int)))) (iy : Cnd G → Cnd cy) 
    (next : DW P N ds md ops w Fin rest (dins D d G (.ex (.int .u32 ((andN m n : Nat) : Int))))) : DW P N ds md ops w Fin (⟨d, .binOp .andNot t x y t', ty, pos, af, gu⟩ :: rest) D :=
  DW.val hg hd rfl (fun hG _ _ _ ha => X.andNot32  (ha.eval (o := ⟨d, .binOp .andNot t x y t', ty, pos, af, gu⟩) hx (by simp [Op.operands, Call.operands]) (ix hG)) (ha.eval (o := ⟨d, .binOp .andNot t x y t', ty, pos, af, gu⟩) hy (by simp [Op.operands, Call.operands]) (iy hG)) ) next
theorem X.shl32 {k : IntKind} {n : Nat} {t t' : TypeId}  (hx : ρ x = .int .u32 1) (hy : ρ y = .int k (n : Int)) (hb : n < 32) : (execOp ρ ⟨d, .binOp .shl t x y t', ty, pos, af, gu⟩).run P w = .ok (.value (.int .u32 ((1 <<< n : Nat) : Int))) w := by 
    have h1 : ¬ ((n : Int) < 0) := by omega
    have h2 : min n IntKind.u32.bits = n := Nat.min_eq_left (by show n ≤ 32; omega)
    have h3 : (1 : Int) * (2 : Int) ^ n = ((1 <<< n : Nat) : Int) := by rw [Nat.one_shiftLeft, Int.one_mul]; push_cast; rfl
    have h4 : (1 <<< n : Nat) < 2 ^ 32 := by rw [Nat.one_shiftLeft]; exact Nat.pow_lt_pow_right (by decide) hb
    simp only [execOp]; rw [hx, hy, eqGuard_shl, binOp_shl]
    simp only [Op.shift, if_neg h1, Int.toNat_natCast, h2, h3, wrap32 h4]; rfl
theorem DW.shl32 {k : IntKind} {n : Nat} {t t' : TypeId} (hg : dgd ops D gu = some G) (hd : okDst N d = true)  (hx : dev D x = some (cx, .ex (.int .u32 1))) (ix : Cnd G → Cnd cx) (hy : dev D y = some (cy, .ex (.int k (n : Int)))) (iy : Cnd G → Cnd cy) (hb : Cnd G → n < 32)
    (next : DW P N ds md ops w Fin rest (dins D d G (.ex (.int .u32 ((1 <<< n : Nat) : Int))))) : DW P N ds md ops w Fin (⟨d, .binOp .shl t x y t', ty, pos, af, gu⟩ :: rest) D :=
  DW.val hg hd rfl (fun hG _ _ _ ha => X.shl32  (ha.eval (o := ⟨d, .binOp .shl t x y t', ty, pos, af, gu⟩) hx (by simp [Op.operands, Call.operands]) (ix hG)) (ha.eval (o := ⟨d, .binOp .shl t x y t', ty, pos, af, gu⟩) hy (by simp [Op.operands, Call.operands]) (iy hG)) (hb hG)) next
theorem X.shl64 {k : IntKind} {n : Nat} {t t' : TypeId}  (hx : ρ x = .int .i64 1) (hy : ρ y = .int k (n : Int)) (hb : n < 62) : (execOp ρ ⟨d, .binOp .shl t x y t', ty, pos, af, gu⟩).run P w = .ok (.value (.int .i64 ((2 ^ n : Nat) : Int))) w := by 
    have h1 : ¬ ((n : Int) < 0) := by omega
    have h2 : min n IntKind.i64.bits = n := Nat.min_eq_left (by show n ≤ 64; omega)
    have h3 : (1 : Int) * (2 : Int) ^ n = ((2 ^ n : Nat) : Int) := by rw [Int.one_mul]; push_cast; rfl
    have h4 : (2 ^ n : Nat) ≤ 2 ^ 61 := Nat.pow_le_pow_right (by decide) (by omega)
    have h5 : IntKind.i64.wrap ((2 ^ n : Nat) : Int) = ((2 ^ n : Nat) : Int) := wrap_fits (by generalize (2 ^ n : Nat) = q at *; omega)
    simp only [execOp]; rw [hx, hy, eqGuard_shl, binOp_shl]
    simp only [Op.shift, if_neg h1, Int.toNat_natCast, h2, h3, h5]; rfl
theorem TW.shl64 {k : IntKind} {n : Nat} {t t' : TypeId} (hg : gd ops E gu = some G) (hd : okDst N d = true)  (hx : ev E x = some (cx, .int .i64 1)) (ix : Cnd G → Cnd cx) (hy : ev E y = some (cy, .int k (n : Int))) (iy : Cnd G → Cnd cy) (hb : Cnd G → n < 62)
    (next : TW P r Q N ds ops rest (ins E d G (.int .i64 ((2 ^ n : Nat) : Int))) w) : TW P r Q N ds ops (⟨d, .binOp .shl t x y t', ty, pos, af, gu⟩ :: rest) E w :=
  TW.val hg hd rfl (fun hG _ ha => X.shl64  (ha.eval hx (ix hG)) (ha.eval hy (iy hG)) (hb hG)) next
theorem X.makeIface {vx : Value} {t : TypeId} (ht : notIface P t = true) (hx : ρ x = vx)  : (execOp ρ ⟨d, .makeInterface t x, ty, pos, af, gu⟩).run P w = .ok (.value (.iface t vx)) w := by 
    unfold notIface at ht
    cases hu : P.underlying t with
    | none => simp [hu] at ht
    | some dsc => cases dsc <;> first | (simp [hu] at ht; done) | (simp only [execOp]; rw [hx]; simp [Instr.makeInterface, run_underlying hu])
theorem TW.makeIface {vx : Value} {t : TypeId} (hg : gd ops E gu = some G) (hd : okDst N d = true) (ht : notIface P t = true) (hx : ev E x = some (cx, vx)) (ix : Cnd G → Cnd cx) 
    (next : TW P r Q N ds ops rest (ins E d G (.iface t vx)) w) : TW P r Q N ds ops (⟨d, .makeInterface t x, ty, pos, af, gu⟩ :: rest) E w :=
  TW.val hg hd rfl (fun hG _ ha => X.makeIface ht (ha.eval hx (ix hG)) ) next
theorem X.nilCheck {ad : Addr}  (hx : ρ x = .pointer (some ad))  : (execOp ρ ⟨d, .nilCheck x, ty, pos, af, gu⟩).run P w = .ok (.value (.pointer (some ad))) w := by simp only [execOp]; rw [hx]; rfl
theorem TW.nilCheck {ad : Addr} (hg : gd ops E gu = some G) (hd : okDst N d = true)  (hx : ev E x = some (cx, .pointer (some ad))) (ix : Cnd G → Cnd cx) 
    (next : TW P r Q N ds ops rest (ins E d G (.pointer (some ad))) w) : TW P r Q N ds ops (⟨d, .nilCheck x, ty, pos, af, gu⟩ :: rest) E w :=
  TW.val hg hd rfl (fun hG _ ha => X.nilCheck  (ha.eval hx (ix hG)) ) next
theorem DW.nilCheck {ad : Addr} (hg : dgd ops D gu = some G) (hd : okDst N d = true)  (hx : dev D x = some (cx, .ex (.pointer (some ad)))) (ix : Cnd G → Cnd cx) 
    (next : DW P N ds md ops w Fin rest (dins D d G (.ex (.pointer (some ad))))) : DW P N ds md ops w Fin (⟨d, .nilCheck x, ty, pos, af, gu⟩ :: rest) D :=
  DW.val hg hd rfl (fun hG _ _ _ ha => X.nilCheck  (ha.eval (o := ⟨d, .nilCheck x, ty, pos, af, gu⟩) hx (by simp [Op.operands, Call.operands]) (ix hG)) ) next

/-! ### A method called through an interface value -/
/-- how a method of values of a type is called: the function -/
def Meth (P : Program) (name : String) (t : TypeId) (k : FuncId) : Prop := ∀ (v : Value) (args : Array Value) (w : World), (callMethod (.iface t v) name args).run P w = .ok (.enter k (#[v] ++ args)) w
theorem X.invoke {name : String} {t : TypeId} {k : FuncId} {u : Operand} {v : Value} {xs : List Operand} {vs : List Value} {ts : Array TypeId} (he : Meth P name t k) (hu : ρ u = .iface t v) (hv : xs.map ρ = vs) :
    (execOp ρ ⟨d, .call ⟨.invoke u name, xs.toArray, ts⟩, ty, pos, af, gu⟩).run P w = .ok (.enter k (v :: vs).toArray) w := by
  have h := he v vs.toArray w
  have e : #[v] ++ vs.toArray = (v :: vs).toArray := by simp
  rw [e] at h
  simp [execOp, resolve, hu, hv, Go.invoke, h]
theorem TW.invoke {name : String} {t : TypeId} {k : FuncId} {u : Operand} {v : Value} {cu : Option Bool} {xs : List Operand} {vs : List Value} {ts : Array TypeId} {R : Value → World → Prop} (hg : gd ops E gu = some G) (hd : okDst N d = true) (he : Meth P name t k)
    (hu : ev E u = some (cu, .iface t v)) (ju : Cnd G → Cnd cu) (hv : Args N ds E G xs vs) (hc : Cnd G → Gives P k (v :: vs).toArray w R)
    (next : ∀ v w', (Cnd G → R v w') → (¬ Cnd G → w' = w) → TW P r Q N ds ops rest (ins E d G v) w') : TW P r Q N ds ops (⟨d, .call ⟨.invoke u name, xs.toArray, ts⟩, ty, pos, af, gu⟩ :: rest) E w :=
  TW.enter hg hd rfl (fun hG a ha => X.invoke he (ha.eval hu (ju hG)) (hv a ha hG)) hc next
theorem TW.invoke0 {name : String} {t : TypeId} {k : FuncId} {u : Operand} {v : Value} {xs : List Operand} {vs : List Value} {ts : Array TypeId} {R : Value → World → Prop} (hg : gu = none) (hd : okDst N d = true) (he : Meth P name t k)
    (hu : ev E u = some (none, .iface t v)) (hv : Args N ds E none xs vs) (hc : Gives P k (v :: vs).toArray w R)
    (next : ∀ v w', R v w' → TW P r Q N ds ops rest (ins E d none v) w') : TW P r Q N ds ops (⟨d, .call ⟨.invoke u name, xs.toArray, ts⟩, ty, pos, af, gu⟩ :: rest) E w :=
  TW.invoke (G := none) (by rw [hg]; rfl) hd he hu ct hv (fun _ => hc) (fun v w' h _ => next v w' (h trivial))
/-- the same under a guard, where it leaves what there was -/
theorem TW.invokeF {name : String} {t : TypeId} {k : FuncId} {u : Operand} {v y : Value} {cu : Option Bool} {xs : List Operand} {vs : List Value} {ts : Array TypeId} (hg : gd ops E gu = some G) (hd : okDst N d = true) (he : Meth P name t k)
    (hu : ev E u = some (cu, .iface t v)) (ju : Cnd G → Cnd cu) (hv : Args N ds E G xs vs) (hc : Cnd G → Gives P k (v :: vs).toArray w fun v w' => Below w.heap.size w w' ∧ v = y)
    (next : ∀ w', Below w.heap.size w w' → TW P r Q N ds ops rest (ins E d G y) w') : TW P r Q N ds ops (⟨d, .call ⟨.invoke u name, xs.toArray, ts⟩, ty, pos, af, gu⟩ :: rest) E w := by
  intro a ha
  obtain ⟨h1, h2⟩ := wanted_of (o := ⟨d, .call ⟨.invoke u name, xs.toArray, ts⟩, ty, pos, af, gu⟩) ha hg
  unfold wpListIn
  by_cases hcG : Cnd G
  · rw [if_pos (h1 hcG)]
    refine ⟨fun _ _ => trivial, ?_⟩
    rw [semAt_of rfl, X.invoke he (ha.eval hu (ju hcG)) (hv a ha hcG)]
    refine ⟨fun h => by simp [Fence.wide] at h, ?_⟩
    refine CallsIn.mono (callsIn_of (hc hcG)) ?_
    rintro e w' ⟨v, rfl, hb, rfl⟩
    exact next w' hb _ (ha.put hd (fun _ => rfl) (fun h => absurd hcG h))
  · rw [if_neg (by rw [h2 hcG]; simp)]
    exact ⟨fun _ _ => trivial, next w (Below.refl _ _) _ (ha.put hd (fun h => absurd h hcG) (fun _ => rfl))⟩
theorem DW.invoke {name : String} {t : TypeId} {k : FuncId} {u : Operand} {v : Value} {cu : Option Bool} {xs : List Operand} {vs : List Value} {ts : Array TypeId} (e : Ent) (hm : e.mono) (hg : dgd ops D gu = some G) (hd : okDst N d = true) (he : Meth P name t k)
    (hu : dev D u = some (cu, .ex (.iface t v))) (ju : Cnd G → Cnd cu) (hv : DArgs (Oper.looksAt ops.toArray ⟨d, .call ⟨.invoke u name, xs.toArray, ts⟩, ty, pos, af, gu⟩) N ds D G xs vs)
    (hc : Cnd G → ∀ w', Below w.heap.size w w' → Gives P k (v :: vs).toArray w' fun v w'' => Below w'.heap.size w' w'' ∧ e.sat v w'')
    (next : DW P N ds .weak ops w Fin rest (dins D d G e)) : DW P N ds .weak ops w Fin (⟨d, .call ⟨.invoke u name, xs.toArray, ts⟩, ty, pos, af, gu⟩ :: rest) D :=
  DW.enter (o := ⟨d, .call ⟨.invoke u name, xs.toArray, ts⟩, ty, pos, af, gu⟩) hg hd rfl hm (fun hG a w' hb ha => ⟨_, _, X.invoke he (ha.eval (o := ⟨d, .call ⟨.invoke u name, xs.toArray, ts⟩, ty, pos, af, gu⟩) hu (by simp [Op.operands, Call.operands]) (ju hG))
    (hv (fun t ht => mem_looks (by simp [Op.operands, Call.operands, ht])) a w' ha hG), hc hG w' hb⟩) next

/-! ### make([]T, n) -/
theorem made_cells {z : Value} {u : Value} (hz : z.cells = #[u]) (n : Nat) : (madeCells z.cells (n * 1)).toList = List.replicate n u := by
  unfold madeCells
  rw [hz]
  apply List.ext_getElem?
  intro i
  by_cases h : i < n <;> simp [h, List.getElem?_replicate, Nat.mod_one]
/-- a type of one cell, its zero value and its bytes -/
def zero1 (P : Program) (t e : TypeId) (u : Value) (bytes : Nat) : Prop := ∃ i z, P.underlying t = some (.slice e) ∧ P.info? e = some i ∧ i.zero = some z ∧ z.cells = #[u] ∧ i.size = 1 ∧ i.bytes = bytes
theorem zero1_of {t e : TypeId} {u : Value} {bytes : Nat} (hg : growOK P t e 1 bytes = true) (hz : (P.info? e).bind (·.zero) = some u) (hu : u.cells = #[u]) : zero1 P t e u bytes := by
  obtain ⟨i, zv, h1, h2, h3, h4, h5, h6, h7⟩ := growOK_spec hg
  rw [h2] at hz
  simp only [Option.bind_some, h3, Option.some.injEq] at hz
  subst hz
  exact ⟨i, zv, h1, h2, h3, hu, h4, h5⟩
theorem TW.makeSlice {t e : TypeId} {u : Value} {bytes n : Nat} {k k' : IntKind} (hg : gu = none) (hd : okDst N d = true) (hz : zero1 P t e u bytes) (hx : ev E x = some (none, .int k (n : Int))) (hy : ev E y = some (none, .int k' (n : Int))) (hb : bytes * n ≤ 281474976710656) (hn : n ≤ 9223372036854775807)
    (next : ∀ g w', Fresh w w' g e (List.replicate n u) → TW P r Q N ds ops rest (ins E d none (.slice (some ⟨g, 0, none⟩) n n)) w') : TW P r Q N ds ops (⟨d, .makeSlice t x y, ty, pos, af, gu⟩ :: rest) E w := by
  obtain ⟨i, z, hu, hi, hz0, hz1, hs, hby⟩ := hz
  have hr := run_make (P := P) w t e i z hu hi hz0 k k' (n : Int) (n : Int) (by omega) (Int.le_refl _) (by rw [hby, ← Int.natCast_mul]; omega) (by omega)
  simp only [Int.toNat_natCast, hs] at hr
  have e1 : madeCells z.cells (n * 1) = (List.replicate n u).toArray := by rw [← made_cells hz1 n]
  rw [e1] at hr
  refine TW.eff (w' := w.alloc (.cells (List.replicate n u).toArray e)) hg hd rfl (fun a ha => ?_) (next _ _ (Fresh.mk' w e _))
  simp only [execOp]
  rw [ha.eval hx trivial, ha.eval hy trivial]
  simp [hr]
/-- 'v := x', v of one cell, in memory -/
theorem TW.newVar1 {t : TypeId} {dd : Nat} {z v : Value} {ty' : TypeId} {pos' : String} {af' : Array Edge} (hd : okDst N (some dd) = true) (hz : zeroCells P t = some [z]) (hy : ev ((dd, none, .pointer (some ⟨w.heap.size, 0, none⟩)) :: E) y = some (none, v)) (hs : (P.info? t).map (·.size) = some 1)
    (h1 : v.oneCell' = true) (next : ∀ g w', Fresh w w' g t [v] → TW P r Q N ds ops rest ((dd, none, .pointer (some ⟨g, 0, none⟩)) :: E) w') :
    TW P r Q N ds ops (⟨some dd, .alloc t, ty, pos, af, none⟩ :: ⟨none, .store t (.tmp dd) y, ty', pos', af', none⟩ :: rest) E w := by
  refine TW.eff (v := .pointer (some ⟨w.heap.size, 0, none⟩)) (w' := w.alloc (.cells [z].toArray t)) rfl hd rfl (fun a ha => ?_) ?_
  · unfold zeroCells at hz
    cases hi : P.info? t with
    | none => simp [hi] at hz
    | some i =>
      cases hzz : i.zero with
      | none => simp [hi, hzz] at hz
      | some zv =>
        simp [hi, hzz] at hz
        simp [execOp, Instr.alloc, zeroValue, typeInfo, hi, hzz, Go.newVar, newRow, ← hz]
  · have hB := Blk.new w t [z]
    refine TW.store1 rfl hs (by simp [ev, look, ins]) hy (hB.cell 0) (hB.frozen 0) h1 ?_
    refine next _ _ ⟨rfl, ?_, ?_, hB.set 0 v⟩
    · simp [World.setCell]
    · exact (below_alloc w _).setCell (Nat.le_refl _) _
/-- from w to w' no block of before has turned, but g -/
abbrev But (g : Nat) (w w' : World) : Prop := w.grownBy w' (some g)
theorem But.of_below {g : Nat} {w w' : World} (h : Below w.heap.size w w') : But g w w' := ⟨h.os, h.tape, h.output, h.size, fun k hk _ => h.block k hk⟩
theorem But.trans {g : Nat} {w w' w'' : World} (h : But g w w') (h' : But g w' w'') : But g w w'' :=
  ⟨h'.os.trans h.os, h'.tape.trans h.tape, h'.output.trans h.output, Nat.le_trans h.size h'.size, fun k hk hn => (h'.block k (Nat.lt_of_lt_of_le hk h.size) hn).trans (h.block k hk hn)⟩
theorem But.step {g : Nat} {w w' w'' : World} (h : But g w w') (h' : Below w'.heap.size w' w'') : But g w w'' := h.trans (.of_below h')
/-- g is new -/
theorem But.below {g : Nat} {w w1 w2 : World} (h : Below w.heap.size w w1) (h' : But g w1 w2) (hg : w.heap.size ≤ g) : Below w.heap.size w w2 := h.grown h' h.size (fun k hk => by cases hk; exact hg)
theorem But.blk {g k : Nat} {w w' : World} {t : TypeId} {cs : List Value} (h : But g w w') (hB : Blk w k t cs) (hk : k ≠ g) : Blk w' k t cs := (h.block k hB.lt (fun e => hk (by cases e; rfl))).trans hB
theorem But.setCell {g j : Nat} {w : World} {u : Value} : But g w (w.setCell ⟨g, j, none⟩ u) := ⟨rfl, rfl, rfl, by simp [World.setCell], fun k _ hn => Below.heap_setCell _ _ _ _ (fun e => hn (by rw [e]))⟩
/-- a cell of a known block is written -/
theorem TW.storeFld {t t1 : TypeId} {g j : Nat} {cs : List Value} {u : Value} (hg : gu = none) (hs : (P.info? t).map (·.size) = some 1) (hx : ev E x = some (none, .pointer (some (Addr.add ⟨g, 0, none⟩ j)))) (hy : ev E y = some (none, u)) (hB : Blk w g t1 cs) (hj : j < cs.length) (h1 : u.oneCell' = true)
    (next : ∀ w', Blk w' g t1 (cs.set j u) → But g w w' → w'.heap.size = w.heap.size → TW P r Q N ds ops rest E w') : TW P r Q N ds ops (⟨none, .store t x y, ty, pos, af, gu⟩ :: rest) E w := by
  refine TW.store1 hg hs hx hy (hB.fld (List.getElem?_eq_getElem hj)) (by rw [addr0]; exact hB.frozen _) h1 ?_
  rw [addr0]
  exact next _ (hB.set j u) .setCell (by simp [World.setCell])
end
end Go.PF

/- The units that can be next: plain. -/
namespace Go.Ord
open Go.PF
variable {d : Dist}
def lstTo (F : List Nat) (k c : Nat) : List Nat := (List.range c).filter fun i => !k.testBit i && decide (andN (F.getD i 0) k = 0)
noncomputable def freeAt (d : Dist) (us : List U) (s : St) (i : Nat) : Bool := dec (∃ u, us[i]? = some u ∧ Free d s u)
noncomputable def choOf (d : Dist) (us : List U) (s : St) (l : List Nat) : List Nat := match l.find? (freeAt d us s) with
  | some i => [i]
  | none => l
/-- what choices answers -/
def Cho (d : Dist) (us : List U) (F : List Nat) (k : Nat) (s : St) (L : List Nat) : Prop :=
  ((∃ (i : Nat) (u : U), us[i]? = some u ∧ k.testBit i = false ∧ ¬ CanB d s u) ∧ L = []) ∨
  ((∀ (i : Nat) (u : U), us[i]? = some u → k.testBit i = false → CanB d s u) ∧ L = choOf d us s (lstTo F k us.length))
theorem lstTo_succ (F : List Nat) (k c : Nat) : lstTo F k (c + 1) = lstTo F k c ++ if (!k.testBit c && decide (andN (F.getD c 0) k = 0)) = true then [c] else [] := by
  unfold lstTo
  rw [List.range_succ, List.filter_append]
  congr 1
  by_cases h : (!k.testBit c && decide (andN (F.getD c 0) k = 0)) = true
  · rw [if_pos h]
    simp only [List.filter, h]
  · rw [if_neg h]
    have h' : (!k.testBit c && decide (andN (F.getD c 0) k = 0)) = false := by simpa using h
    simp only [List.filter, h']
theorem mem_lstTo {F : List Nat} {k c i : Nat} : i ∈ lstTo F k c ↔ i < c ∧ k.testBit i = false ∧ andN (F.getD i 0) k = 0 := by
  unfold lstTo
  rw [List.mem_filter, List.mem_range]
  simp
theorem Cho.mem {us : List U} {F : List Nat} {k : Nat} {s : St} {L : List Nat} (h : Cho d us F k s L) {i : Nat} (hi : i ∈ L) : ∃ u, us[i]? = some u ∧ k.testBit i = false ∧ CanB d s u := by
  rcases h with ⟨_, rfl⟩ | ⟨hc, rfl⟩
  · cases hi
  · have hm : i ∈ lstTo F k us.length := by
      unfold choOf at hi
      split at hi
      · rename_i y hy
        rw [List.mem_singleton] at hi
        subst hi
        exact List.mem_of_find?_eq_some hy
      · exact hi
    obtain ⟨h1, h2, _⟩ := mem_lstTo.1 hm
    exact ⟨us[i], List.getElem?_eq_getElem h1, h2, hc i _ (List.getElem?_eq_getElem h1) h2⟩

/-- c units, those of the mask k, have happened in some order that leads to s -/
def Way (d : Dist) (us : List U) (k : Nat) (s : St) (c : Nat) : Prop := ∃ T : List U, T.length = c ∧ Run d (none, 0) T ∧ fin d (none, 0) T = s ∧ (T ++ left us k).Perm us
theorem Way.zero (us : List U) : Way d us 0 (none, 0) 0 := ⟨[], rfl, trivial, rfl, by rw [left_zero]; exact List.Perm.refl _⟩
theorem Way.step {us : List U} {k c i : Nat} {s : St} {u : U} (h : Way d us k s c) (hu : us[i]? = some u) (hk : k.testBit i = false) (hc : CanB d s u) : Way d us (k ||| 1 <<< i) (nxt d s u) (c + 1) := by
  obtain ⟨T, h1, h2, h3, h4⟩ := h
  refine ⟨T ++ [u], by simp [h1], ?_, ?_, ?_⟩
  · rw [Run.append, h3]; exact ⟨h2, hc, trivial⟩
  · rw [fin_append, h3]; rfl
  · rw [List.append_assoc]
    exact (List.Perm.append_left T (left_cons hk hu).symm).trans h4
theorem Way.feas {us : List U} {k : Nat} {s : St} (h : Way d us k s us.length) : Feas d (none, 0) us := by
  obtain ⟨T, h1, h2, h3, h4⟩ := h
  have hl := h4.length_eq
  rw [List.length_append, h1] at hl
  have h0 : left us k = [] := List.eq_nil_of_length_eq_zero (by omega)
  rw [h0, List.append_nil] at h4
  exact ⟨T, h4, h2⟩
theorem Way.sok {us : List U} {k c : Nat} {s : St} (hu : ∀ u ∈ us, UOK d u) (h : Way d us k s c) : SOK d s := by
  obtain ⟨T, h1, h2, h3, h4⟩ := h
  rw [← h3]
  refine sok_fin (fun x hx => by cases hx) fun u hT => hu u (h4.mem_iff.1 (List.mem_append_left _ hT))
end Go.Ord

/- Maps whose keys may be structs: a map as a function. -/
namespace Go.PF
open Go.RowKit

/-- A key's type: how its values stand for κ's. -/
structure GKey (P : Program) (kt : TypeId) (κ : Type) where
  enc : κ → Value
  find : ∀ (w : World) (k : κ) (m : List (κ × Value)) (es : List MapEntry), es.map (fun e => (e.key, e.val)) = m.map (fun p => (enc p.1, p.2)) →
    ∃ r, (Instr.findKey kt (enc k) es).run P w = .ok r w ∧ (r = none → ∀ p ∈ m, p.1 ≠ k) ∧ ∀ j u, r = some (j, u) → m[j]? = some (k, u)
  bits : ∀ a, Instr.sameBits 10000 (enc a) (enc a) = true
  ok : ∀ (e : Bool) (a : κ) (w : World), (Instr.checkKey e 10000 kt (enc a)).run P w = .ok () w
  inj : ∀ a b, enc a = enc b → a = b

theorem run_findAsking {P : Program} {kt : TypeId} {κ : Type} {enc : κ → Value} {eqb : κ → κ → Bool} (hiff : ∀ a b, eqb a b = true ↔ a = b) (heq : ∀ (a b : κ) (w : World), (Op.equal kt (enc a) (enc b)).run P w = .ok (eqb a b) w) (w : World) (k : κ) : ∀ (m : List (κ × Value)) (es : List MapEntry) (i : Nat), es.map (fun e => (e.key, e.val)) = m.map (fun p => (enc p.1, p.2)) →
    ∃ r, (Instr.findAsking kt (enc k) es i).run P w = .ok r w ∧ (r = none → ∀ p ∈ m, p.1 ≠ k) ∧ ∀ j u, r = some (j, u) → i ≤ j ∧ m[j - i]? = some (k, u)
  | [], es, i, h => by
    have : es = [] := by simpa using h
    subst this
    exact ⟨none, by simp [Instr.findAsking], (fun _ p hp => by cases hp), (fun j u h => by cases h)⟩
  | (k', v') :: m, [], i, h => by simp at h
  | (k', v') :: m, e :: es, i, h => by
    simp only [List.map_cons, List.cons.injEq, Prod.mk.injEq] at h
    obtain ⟨⟨h1, h2⟩, h3⟩ := h
    cases hb : eqb k k' with
    | true =>
      have hk : k = k' := (hiff _ _).1 hb
      refine ⟨some (i, v'), by simp [Instr.findAsking, h1, heq, hb, h2], (fun h => by cases h), fun j u hj => ?_⟩
      simp only [Option.some.injEq, Prod.mk.injEq] at hj
      obtain ⟨rfl, rfl⟩ := hj
      exact ⟨Nat.le_refl _, by simp [hk]⟩
    | false =>
      obtain ⟨r, hr, hn, hs⟩ := run_findAsking hiff heq w k m es (i + 1) h3
      refine ⟨r, by simp [Instr.findAsking, h1, heq, hb, hr], fun h p hp => ?_, fun j u hj => ?_⟩
      · rcases List.mem_cons.1 hp with rfl | hp
        · intro e
          have e : k' = k := e
          rw [(hiff k k').2 e.symm] at hb
          cases hb
        · exact hn h p hp
      · obtain ⟨h4, h5⟩ := hs j u hj
        refine ⟨by omega, ?_⟩
        rw [show j - i = (j - (i + 1)) + 1 by omega]
        simpa using h5

/-- keys that are compared by asking -/
def askKey (P : Program) (kt : TypeId) {κ : Type} (enc : κ → Value) (eqb : κ → κ → Bool) (kd : TypeDesc) (und : P.underlying kt = some kd) (hiff : ∀ a b, eqb a b = true ↔ a = b) (heq : ∀ (a b : κ) (w : World), (Op.equal kt (enc a) (enc b)).run P w = .ok (eqb a b) w)
    (ask : ∀ a b, Instr.sameNow kd (enc a) (enc b) = none) (bits : ∀ a, Instr.sameBits 10000 (enc a) (enc a) = true) (ok : ∀ (e : Bool) (a : κ) (w : World), (Instr.checkKey e 10000 kt (enc a)).run P w = .ok () w) (inj : ∀ a b, enc a = enc b → a = b) : GKey P kt κ where
  enc := enc
  find := fun w k m es h => by
    cases es with
    | nil =>
      have : m = [] := by simpa using h.symm
      subst this
      exact ⟨none, by simp [Instr.findKey, run_underlying und, Instr.findNow], (fun _ p hp => by cases hp), (fun j u h => by cases h)⟩
    | cons e es =>
      obtain ⟨r, hr, hn, hs⟩ := run_findAsking hiff heq w k m (e :: es) 0 h
      have hf : Instr.findNow kd (enc k) (e :: es) 0 = none := by
        cases m with
        | nil => simp at h
        | cons p m =>
          simp only [List.map_cons, List.cons.injEq, Prod.mk.injEq] at h
          simp only [Instr.findNow]
          rw [h.1.1, ask]
      exact ⟨r, by simp [Instr.findKey, run_underlying und, hf, hr], hn, fun j u hj => by have := (hs j u hj).2; simpa using this⟩
  bits := bits
  ok := ok
  inj := inj

/-- keys that are compared at once -/
def nowKey {P : Program} {kt : TypeId} {κ : Type} (K : Key P kt κ) (hiff : ∀ a b, K.eqb a b = true ↔ a = b) : GKey P kt κ where
  enc := K.enc
  find := fun w k m es h => by
    obtain ⟨r, hr, hg, hn, hs⟩ := findNow_map K k m es 0 h
    refine ⟨r, by simp [Instr.findKey, run_underlying K.und, hr], fun h0 p hp e => ?_, fun j u hj => ?_⟩
    · have := hn h0 p hp
      rw [(hiff _ _).2 e.symm] at this
      cases this
    · subst hj
      obtain ⟨j', h1, h2, h3, h4⟩ := hs j u rfl
      have e1 : j = j' := by omega
      subst e1
      have h5 := (hiff _ _).1 (h3 h2)
      rw [List.getElem?_eq_getElem h2]
      have key : ∀ (m : List (κ × Value)) (es : List MapEntry) (i j : Nat) (u : Value), es.map (fun e => (e.key, e.val)) = m.map (fun p => (K.enc p.1, p.2)) → Instr.findNow K.kd (K.enc k) es i = some (some (j, u)) → i ≤ j ∧ ∃ p, m[j - i]? = some p ∧ p.2 = u := by
        intro m
        induction m with
        | nil => intro es i j u h hf; have : es = [] := by simpa using h
                 subst this; simp [Instr.findNow] at hf
        | cons p m ih =>
          intro es i j u h hf
          cases es with
          | nil => simp at h
          | cons e es =>
            simp only [List.map_cons, List.cons.injEq, Prod.mk.injEq] at h
            obtain ⟨⟨h1, h2⟩, h3⟩ := h
            simp only [Instr.findNow] at hf
            rw [h1, K.same] at hf
            cases hb : K.eqb k p.1 with
            | true =>
              rw [hb] at hf
              simp only [Option.some.injEq, Prod.mk.injEq] at hf
              obtain ⟨rfl, rfl⟩ := hf
              exact ⟨Nat.le_refl _, p, by simp, h2.symm⟩
            | false =>
              rw [hb] at hf
              obtain ⟨h6, q, h7, h8⟩ := ih es (i + 1) j u h3 hf
              refine ⟨by omega, q, ?_, h8⟩
              rw [show j - i = (j - (i + 1)) + 1 by omega]
              simpa using h7
      obtain ⟨_, p, h6, h7⟩ := key m es 0 j u h hr
      rw [Nat.sub_zero, List.getElem?_eq_getElem h2] at h6
      simp only [Option.some.injEq] at h6
      have : m[j] = (m[j].1, m[j].2) := rfl
      rw [this, ← h5, h6, h7]
  bits := fun a => K.bits a a ((hiff a a).2 rfl)
  ok := K.ok
  inj := fun a b h => by
    have h1 := K.same a b
    rw [← h, K.same a a] at h1
    simp only [Option.some.injEq] at h1
    exact (hiff a b).1 (by rw [← h1]; exact (hiff a a).2 rfl)

section
variable {P : Program} {r : Option Nat} {Q : Exit → Act → World → Prop} {N : Nat} {ds : List Deferred} {ops rest : List Oper} {E : Env} {D : DE} {w : World} {G : Option Bool} {Fin : DE → Prop} {md : Mode}
variable {d : Option Tmp} {ty : TypeId} {pos : String} {af : Array Edge} {gu : Option (Nat × Bool)}
variable {x y z : Operand} {cx cy cz : Option Bool} {ρ : Operand → Value} {κ : Type} {kt : TypeId}

/-- Block b is a map with these entries. -/
structure MapL (K : GKey P kt κ) (w : World) (b : Nat) (m : List (κ × Value)) : Prop where
  is : ∃ es clock, w.heap[b]? = some (.map es clock) ∧ es.toList.map (fun e => (e.key, e.val)) = m.map (fun p => (K.enc p.1, p.2)) ∧ (es.toList.map (·.born)).Nodup ∧ ∀ e ∈ es.toList, e.born < clock
  once : m.Pairwise fun p q => p.1 ≠ q.1
theorem MapL.lt {K : GKey P kt κ} {b : Nat} {m : List (κ × Value)} (h : MapL K w b m) : b < w.heap.size := by
  obtain ⟨⟨es, cl, hh, _⟩, _⟩ := h; exact (Array.getElem?_eq_some_iff.1 hh).1
theorem MapL.kept {K : GKey P kt κ} {b : Nat} {m : List (κ × Value)} {w' : World} (h : MapL K w b m) (hk : w'.heap[b]? = w.heap[b]?) : MapL K w' b m := by
  obtain ⟨⟨es, cl, hh, hm⟩, h2⟩ := h; exact ⟨⟨es, cl, hk.trans hh, hm⟩, h2⟩
theorem MapL.below {K : GKey P kt κ} {b : Nat} {m : List (κ × Value)} {w' : World} (h : MapL K w b m) (hb : Below w.heap.size w w') : MapL K w' b m := h.kept (hb.block b h.lt)
theorem MapL.but {K : GKey P kt κ} {b g : Nat} {m : List (κ × Value)} {w' : World} (h : MapL K w b m) (hb : But g w w') (hg : b ≠ g) : MapL K w' b m := h.kept (hb.block b h.lt (fun e => hg (by cases e; rfl)))

theorem TW.makeMapL {t : TypeId} (K : GKey P kt κ) (hg : gu = none) (hd : okDst N d = true)
    (next : ∀ b w', b = w.heap.size → w'.heap.size = b + 1 → Below w.heap.size w w' → MapL K w' b [] → TW P r Q N ds ops rest (ins E d none (.map (some b))) w') : TW P r Q N ds ops (⟨d, .makeMap t none, ty, pos, af, gu⟩ :: rest) E w :=
  TW.eff (v := .map (some w.heap.size)) (w' := w.alloc (.map #[] 0)) hg hd rfl (fun a ha => by simp [execOp, Instr.makeMap])
    (next _ _ rfl (by simp) ((Below.refl _ _).alloc (Nat.le_refl _) _) ⟨⟨#[], 0, heap_alloc_new w _, rfl, by simp, by simp⟩, List.Pairwise.nil⟩)

/-- what lookup finds -/
def Found (m : List (κ × Value)) (k : κ) : Option Value → Prop
  | none => ∀ p ∈ m, p.1 ≠ k
  | some v => (k, v) ∈ m
theorem run_lookupL (K : GKey P kt κ) {t et : TypeId} (ht : P.underlying t = some (.map kt et)) {zv : Value} (hz : (P.info? et).bind (·.zero) = some zv) {b : Nat} {m : List (κ × Value)} (hm : MapL K w b m) (k : κ) (ok : Bool) :
    ∃ o, Found m k o ∧ (Instr.lookup t (.map (some b)) (K.enc k) ok).run P w = .ok (if ok then .tuple #[o.getD zv, .bool o.isSome] else o.getD zv) w := by
  obtain ⟨⟨es, cl, hh, he, _⟩, _⟩ := hm
  obtain ⟨rr, hr, hn, hs⟩ := K.find w k m es.toList he
  cases hi : P.info? et with
  | none => simp [hi] at hz
  | some i =>
    simp [hi] at hz
    have hobj : (getObj b).run P w = .ok (.map es cl) w := by simp [getObj, Sem.run, hh]
    cases rr with
    | none =>
      refine ⟨none, hn rfl, ?_⟩
      cases ok <;> simp [Instr.lookup, run_underlying ht, hobj, K.ok, hr, zeroValue, typeInfo, hi, hz]
    | some p =>
      obtain ⟨j, u⟩ := p
      refine ⟨some u, List.mem_of_getElem? (hs j u rfl), ?_⟩
      cases ok <;> simp [Instr.lookup, run_underlying ht, hobj, K.ok, hr]

theorem TW.lookupL (K : GKey P kt κ) {t et : TypeId} {zv : Value} {b : Nat} {m : List (κ × Value)} (k : κ) {ok : Bool} (hg : gu = none) (hd : okDst N d = true) (ht : P.underlying t = some (.map kt et)) (hz : (P.info? et).bind (·.zero) = some zv)
    (hx : ev E x = some (none, .map (some b))) (hy : ev E y = some (none, K.enc k)) (hm : MapL K w b m)
    (next : ∀ o, Found m k o → TW P r Q N ds ops rest (ins E d none (if ok then .tuple #[o.getD zv, .bool o.isSome] else o.getD zv)) w) : TW P r Q N ds ops (⟨d, .lookup t x y ok, ty, pos, af, gu⟩ :: rest) E w := by
  obtain ⟨o, ho, hrun⟩ := run_lookupL K ht hz hm k ok
  subst hg
  exact TW.val (G := none) rfl hd rfl (fun _ a ha => by simp only [execOp]; rw [ha.eval hx trivial, ha.eval hy trivial]; simp [hrun]) (next o ho)

theorem TW.lookup1 (K : GKey P kt κ) {t et : TypeId} {zv : Value} {b : Nat} {m : List (κ × Value)} (k : κ) (hg : gu = none) (hd : okDst N d = true) (ht : P.underlying t = some (.map kt et)) (hz : (P.info? et).bind (·.zero) = some zv)
    (hx : ev E x = some (none, .map (some b))) (hy : ev E y = some (none, K.enc k)) (hm : MapL K w b m)
    (next : ∀ v, ((k, v) ∈ m ∨ ((∀ p ∈ m, p.1 ≠ k) ∧ v = zv)) → TW P r Q N ds ops rest (ins E d none v) w) : TW P r Q N ds ops (⟨d, .lookup t x y false, ty, pos, af, gu⟩ :: rest) E w :=
  TW.lookupL K k hg hd ht hz hx hy hm fun o ho => by
    cases o with
    | none => exact next zv (.inr ⟨ho, rfl⟩)
    | some v => exact next v (.inl ho)
theorem TW.lookup2 (K : GKey P kt κ) {t et : TypeId} {zv : Value} {b : Nat} {m : List (κ × Value)} (k : κ) (hg : gu = none) (hd : okDst N d = true) (ht : P.underlying t = some (.map kt et)) (hz : (P.info? et).bind (·.zero) = some zv)
    (hx : ev E x = some (none, .map (some b))) (hy : ev E y = some (none, K.enc k)) (hm : MapL K w b m)
    (n1 : (∀ p ∈ m, p.1 ≠ k) → TW P r Q N ds ops rest (ins E d none (.tuple #[zv, .bool false])) w) (n2 : ∀ v, (k, v) ∈ m → TW P r Q N ds ops rest (ins E d none (.tuple #[v, .bool true])) w) : TW P r Q N ds ops (⟨d, .lookup t x y true, ty, pos, af, gu⟩ :: rest) E w :=
  TW.lookupL K k hg hd ht hz hx hy hm fun o ho => by
    cases o with
    | none => exact n1 ho
    | some v => exact n2 v ho

open Classical in
/-- the map with another entry -/
noncomputable def lput (m : List (κ × Value)) (k : κ) (v : Value) : List (κ × Value) := if ∃ p ∈ m, p.1 = k then m.map fun p => if p.1 = k then (k, v) else p else m ++ [(k, v)]

theorem mem_lput {m : List (κ × Value)} {k : κ} {v : Value} {p : κ × Value} : p ∈ lput m k v ↔ p = (k, v) ∨ (p ∈ m ∧ p.1 ≠ k) := by
  unfold lput
  split
  · rename_i h
    rw [List.mem_map]
    constructor
    · rintro ⟨q, hq, rfl⟩
      split
      · exact .inl rfl
      · rename_i hne; exact .inr ⟨hq, hne⟩
    · rintro (rfl | ⟨hp, hne⟩)
      · obtain ⟨q, hq, he⟩ := h
        exact ⟨q, hq, by rw [if_pos he]⟩
      · exact ⟨p, hp, by rw [if_neg hne]⟩
  · rename_i h
    rw [List.mem_append, List.mem_singleton]
    constructor
    · rintro (hp | rfl)
      · exact .inr ⟨hp, fun e => h ⟨p, hp, e⟩⟩
      · exact .inl rfl
    · rintro (rfl | ⟨hp, _⟩)
      · exact .inr rfl
      · exact .inl hp

theorem lput_once {m : List (κ × Value)} (h : m.Pairwise fun p q => p.1 ≠ q.1) (k : κ) (v : Value) : (lput m k v).Pairwise fun p q => p.1 ≠ q.1 := by
  unfold lput
  split
  · rw [List.pairwise_map]
    refine h.imp fun {a b} hab => ?_
    split <;> split
    · rename_i h1 h2; exact absurd (h1.trans h2.symm) hab
    · rename_i h1 h2; exact fun e => h2 e.symm
    · rename_i h1 h2; exact h1
    · exact hab
  · rename_i hno
    rw [List.pairwise_append]
    refine ⟨h, List.pairwise_singleton _ _, fun a ha b hb => ?_⟩
    rw [List.mem_singleton] at hb
    subst hb
    exact fun e => hno ⟨a, ha, e⟩

theorem run_mapUpdateL (K : GKey P kt κ) {t et : TypeId} (ht : P.underlying t = some (.map kt et)) {b : Nat} {m : List (κ × Value)} (hm : MapL K w b m) (k : κ) (vz : Value) :
    ∃ w', (Instr.mapUpdate t (.map (some b)) (K.enc k) vz).run P w = .ok () w' ∧ w'.heap.size = w.heap.size ∧ But b w w' ∧ MapL K w' b (lput m k vz) := by
  obtain ⟨⟨es, cl, hh, he, hbn, hbc⟩, hon⟩ := id hm
  obtain ⟨rr, hr, hnone, hsome⟩ := K.find w k m es.toList he
  have hlt : b < w.heap.size := hm.lt
  have hobj : (getObj b).run P w = .ok (.map es cl) w := by simp [getObj, Sem.run, hh]
  have hset : ∀ o, (setObj b o).run P w = .ok () { w with heap := w.heap.setIfInBounds b o } := fun o => by simp [setObj, Sem.run, hh]
  have fin : ∀ (es' : Array MapEntry) (cl' : Nat), (Instr.mapUpdate t (.map (some b)) (K.enc k) vz).run P w = .ok () { w with heap := w.heap.setIfInBounds b (.map es' cl') } →
      es'.toList.map (fun e => (e.key, e.val)) = (lput m k vz).map (fun p => (K.enc p.1, p.2)) → (es'.toList.map (·.born)).Nodup → (∀ e ∈ es'.toList, e.born < cl') → ∃ w', (Instr.mapUpdate t (.map (some b)) (K.enc k) vz).run P w = .ok () w' ∧ w'.heap.size = w.heap.size ∧ But b w w' ∧ MapL K w' b (lput m k vz) := by
    intro es' cl' hrun hes hn' hc'
    refine ⟨_, hrun, by simp, ⟨rfl, rfl, rfl, by simp, fun i hi hne => ?_⟩, ⟨es', cl', by simp [hlt], hes, hn', hc'⟩, lput_once hon k vz⟩
    have : b ≠ i := fun e => hne (by rw [e])
    simp [Array.getElem?_setIfInBounds_ne this]
  cases rr with
  | none =>
    have hno : ¬ ∃ p ∈ m, p.1 = k := fun ⟨p, hp, e⟩ => hnone rfl p hp e
    refine fin (es.push { key := K.enc k, val := vz, born := cl }) (cl + 1) ?_ ?_ ?_ ?_
    · simp [Instr.mapUpdate, run_underlying ht, hobj, K.ok, hr, hset]
    · unfold lput; rw [if_neg hno]; simp [he]
    · rw [Array.toList_push, List.map_append]
      refine List.nodup_append.2 ⟨hbn, by simp, fun a ha b hb e => ?_⟩
      simp at hb
      rw [List.mem_map] at ha
      obtain ⟨x, hx, rfl⟩ := ha
      have := hbc x hx
      omega
    · intro e he'
      rw [Array.toList_push, List.mem_append, List.mem_singleton] at he'
      rcases he' with h | rfl
      · have := hbc e h; omega
      · show cl < cl + 1; omega
  | some p =>
    obtain ⟨j, u⟩ := p
    have hj := hsome j u rfl
    have hjm : j < m.length := (List.getElem?_eq_some_iff.1 hj).1
    have hlen : es.toList.length = m.length := by have := congrArg List.length he; simpa using this
    have hje : j < es.size := by simpa using (show j < es.toList.length by omega)
    have hkey : es[j].key = K.enc k := by
      have := congrArg (fun l => l[j]?) he
      simp only [List.getElem?_map, hj, Array.getElem?_toList] at this
      simp [hje] at this
      exact this.1
    have hborn : (es.modify j fun e => { e with key := K.enc k, val := vz }).toList.map (·.born) = es.toList.map (·.born) := by
      apply List.ext_getElem?
      intro i
      simp only [List.getElem?_map, Array.getElem?_toList, Array.getElem?_modify]
      split
      · cases es[i]? <;> rfl
      · rfl
    refine fin (es.modify j fun e => { e with key := K.enc k, val := vz }) cl ?_ ?_ (by rw [hborn]; exact hbn) (fun e he' => ?_)
    rotate_left 2
    · have h1 : e.born ∈ (es.modify j fun e => { e with key := K.enc k, val := vz }).toList.map (·.born) := List.mem_map.2 ⟨e, he', rfl⟩
      rw [hborn, List.mem_map] at h1
      obtain ⟨x, hx, hxe⟩ := h1
      rw [← hxe]
      exact hbc x hx
    · simp only [Instr.mapUpdate]
      simp [run_underlying ht, hobj, K.ok, hr, Instr.keyThatStays, hje, hkey, K.bits k, hset]
    · unfold lput
      rw [if_pos ⟨(k, u), List.mem_of_getElem? hj, rfl⟩]
      apply List.ext_getElem?
      intro i
      have hi := congrArg (fun l => l[i]?) he
      simp only [List.getElem?_map] at hi
      simp only [List.getElem?_map, Array.getElem?_toList, Array.getElem?_modify]
      by_cases hij : j = i
      · subst hij
        simp [hje, hj]
      · rw [if_neg hij]
        rcases Nat.lt_or_ge i m.length with hlt' | hge
        · have hmi : m[i]? = some m[i] := List.getElem?_eq_getElem hlt'
          have hne : m[i].1 ≠ k := by
            have hp := List.pairwise_iff_getElem.1 hon
            have hkj : m[j].1 = k := by
              have := List.getElem?_eq_getElem hjm
              rw [hj] at this
              simp only [Option.some.injEq] at this
              rw [← this]
            rcases Nat.lt_or_ge i j with h | h
            · have := hp i j hlt' hjm h; rw [hkj] at this; exact this
            · have := hp j i hjm hlt' (by omega); rw [hkj] at this; exact fun e => this e.symm
          rw [hmi] at hi ⊢
          simp only [Option.map_some, if_neg hne] at hi ⊢
          simpa using hi
        · have hes : es[i]? = none := by
            have : es.size ≤ i := by
              have : es.toList.length ≤ i := by omega
              simpa using this
            simp [this]
          rw [List.getElem?_eq_none hge, hes]
          rfl

theorem TW.mapUpdateL (K : GKey P kt κ) {t et : TypeId} {b : Nat} {m : List (κ × Value)} (k : κ) {vz : Value} (hg : gu = none) (ht : P.underlying t = some (.map kt et))
    (hx : ev E x = some (none, .map (some b))) (hy : ev E y = some (none, K.enc k)) (hz : ev E z = some (none, vz)) (hm : MapL K w b m)
    (next : ∀ w', w'.heap.size = w.heap.size → But b w w' → MapL K w' b (lput m k vz) → TW P r Q N ds ops rest E w') : TW P r Q N ds ops (⟨none, .mapUpdate t x y z, ty, pos, af, gu⟩ :: rest) E w := by
  obtain ⟨w', hrun, h1, h2, h3⟩ := run_mapUpdateL K ht hm k vz
  exact TW.eff0 hg rfl rfl (fun a ha => by simp only [execOp]; rw [ha.eval hx trivial, ha.eval hy trivial, ha.eval hz trivial]; simp [hrun]) (next w' h1 h2 h3)
theorem TW.insertL (K : GKey P kt κ) {t et : TypeId} {b : Nat} {m : List (κ × Value)} (k : κ) {vz : Value} (hg : gu = none) (ht : P.underlying t = some (.map kt et))
    (hx : ev E x = some (none, .map (some b))) (hy : ev E y = some (none, K.enc k)) (hz : ev E z = some (none, vz)) (hm : MapL K w b m)
    (next : ∀ w', w'.heap.size = w.heap.size → But b w w' → MapL K w' b (lput m k vz) → TW P r Q N ds ops rest E w') : TW P r Q N ds ops (⟨none, .insert t x y z, ty, pos, af, gu⟩ :: rest) E w := by
  obtain ⟨w', hrun, h1, h2, h3⟩ := run_mapUpdateL K ht hm k vz
  exact TW.eff0 hg rfl rfl (fun a ha => by simp only [execOp]; rw [ha.eval hx trivial, ha.eval hy trivial, ha.eval hz trivial]; simp [hrun]) (next w' h1 h2 h3)
end
end Go.PF

/- The search level by level: plain. -/
namespace Go.Ord
open Go.PF
variable {d : Dist}

abbrev SK := Nat × Option Nat
def stpV (t : Int) (u : Nat) (f : Int) : Value := .agg #[.int .i64 t, .int .i64 (u : Int), .int .i64 f]
theorem stpV_inj {t t' : Int} {u u' : Nat} {f f' : Int} (h : stpV t u f = stpV t' u' f') : t = t' := by
  unfold stpV at h
  simp only [Value.agg.injEq, Array.mk.injEq, List.cons.injEq, Value.int.injEq, true_and] at h
  exact h.1
/-- c units of the list are in the mask -/
def Cnt (us : List U) (k c : Nat) : Prop := (left us k).length + c = us.length
theorem Way.cnt {us : List U} {k c : Nat} {s : St} (h : Way d us k s c) : Cnt us k c := by
  obtain ⟨T, h1, _, _, h4⟩ := h
  have := h4.length_eq
  rw [List.length_append, h1] at this
  unfold Cnt
  omega
def Row (d : Dist) (us : List U) (c : Nat) (nx : List SK) (r : SK) (v : Value) : Prop :=
  ∃ t u f n, v = stpV t u f ∧ (u < us.length ∨ u = 0) ∧ Way d us r.1 (r.2, t) n ∧ n ≤ c ∧ 0 ≤ t ∧ t ≤ 3000000 ∧ r.1 < 2 ^ 16 ∧ (n = c → r ∈ nx) ∧ -1 ≤ f
structure Lev (d : Dist) (us : List U) (c : Nat) (M : List (SK × Value)) (nx : List SK) : Prop where
  rows : ∀ p ∈ M, Row d us c nx p.1 p.2
  mem : ∀ r ∈ nx, (∃ v, (r, v) ∈ M) ∧ Cnt us r.1 c
  nd : nx.Nodup
/-- a level that has been reached -/
def Had (us : List U) (c : Nat) (M : List (SK × Value)) (lv : List SK) : Prop := ∀ r ∈ lv, (∃ v, (r, v) ∈ M) ∧ Cnt us r.1 c
/-- from one of these all can be done -/
def Good (d : Dist) (us : List U) (M : List (SK × Value)) (l : List SK) : Prop := ∃ r ∈ l, ∃ t u f, (r, stpV t u f) ∈ M ∧ Feas d (r.2, t) (left us r.1)
abbrev Once (M : List (SK × Value)) : Prop := M.Pairwise fun p q => p.1 ≠ q.1
theorem once_eq {κ : Type} {M : List (κ × Value)} (h : M.Pairwise fun p q => p.1 ≠ q.1) {r : κ} {v v' : Value} (h1 : (r, v) ∈ M) (h2 : (r, v') ∈ M) : v = v' := by
  obtain ⟨i, hi, e1⟩ := List.getElem_of_mem h1
  obtain ⟨j, hj, e2⟩ := List.getElem_of_mem h2
  have hp := List.pairwise_iff_getElem.1 h
  rcases Nat.lt_trichotomy i j with q | q | q
  · have := hp i j hi hj q
    rw [e1, e2] at this
    exact absurd rfl this
  · subst q
    rw [e1] at e2
    simp only [Prod.mk.injEq] at e2
    exact e2.2
  · have := hp j i hj hi q
    rw [e1, e2] at this
    exact absurd rfl this
theorem Lev.start (us : List U) : Lev d us 0 [((0, none), stpV 0 0 0)] [(0, none)] := by
  refine ⟨fun p hp => ?_, fun r hr => ?_, by simp⟩
  · rw [List.mem_singleton] at hp
    subst hp
    exact ⟨0, 0, 0, 0, rfl, .inr rfl, Way.zero us, Nat.le_refl _, Int.le_refl _, by decide, by decide, (fun _ => by simp), by decide⟩
  · rw [List.mem_singleton] at hr
    subst hr
    exact ⟨⟨stpV 0 0 0, by simp⟩, (Way.zero (d := d) us).cnt⟩
theorem Lev.next {us : List U} {c : Nat} {M : List (SK × Value)} {lv : List SK} (h : Lev d us c M lv) : Lev d us (c + 1) M [] := by
  refine ⟨fun p hp => ?_, (fun r hr => by cases hr), List.nodup_nil⟩
  obtain ⟨t, u, f, n, h1, h2, h3, h4, h5, h6, h7, h8, h9⟩ := h.rows p hp
  exact ⟨t, u, f, n, h1, h2, h3, by omega, h5, h6, h7, (fun e => by omega), h9⟩
theorem Had.put {us : List U} {c : Nat} {M : List (SK × Value)} {lv : List SK} (h : Had us c M lv) (k : SK) (v : Value) : Had us c (lput M k v) lv := by
  intro r hr
  obtain ⟨⟨v', hv⟩, h2⟩ := h r hr
  refine ⟨?_, h2⟩
  by_cases e : r = k
  · subst e; exact ⟨v, mem_lput.2 (.inl rfl)⟩
  · exact ⟨v', mem_lput.2 (.inr ⟨hv, e⟩)⟩
theorem Lev.put {us : List U} {c : Nat} {M : List (SK × Value)} {nx nx' : List SK} (h : Lev d us c M nx) {r : SK} {t : Int} {x : Nat} {f : Int} (hw : Way d us r.1 (r.2, t) c) (ht : 0 ≤ t ∧ t ≤ 3000000) (hk : r.1 < 2 ^ 16) (hx : x < us.length) (hf : -1 ≤ f) (hnd : nx'.Nodup)
    (hs : ∀ q, q ∈ nx' ↔ q ∈ nx ∨ q = r) : Lev d us c (lput M r (stpV t x f)) nx' := by
  refine ⟨fun p hp => ?_, fun q hq => ?_, hnd⟩
  · rcases mem_lput.1 hp with rfl | ⟨hp, _⟩
    · exact ⟨t, x, f, c, rfl, .inl hx, hw, Nat.le_refl _, ht.1, ht.2, hk, fun _ => (hs _).2 (.inr rfl), hf⟩
    · obtain ⟨t', u, f, n, h1, h2, h3, h4, h5, h6, h7, h8, h9⟩ := h.rows p hp
      exact ⟨t', u, f, n, h1, h2, h3, h4, h5, h6, h7, fun e => (hs _).2 (.inl (h8 e)), h9⟩
  · rcases (hs q).1 hq with hq | rfl
    · obtain ⟨⟨v', hv⟩, h2⟩ := h.mem q hq
      refine ⟨?_, h2⟩
      by_cases e : q = r
      · subst e; exact ⟨_, mem_lput.2 (.inl rfl)⟩
      · exact ⟨v', mem_lput.2 (.inr ⟨hv, e⟩)⟩
    · exact ⟨⟨_, mem_lput.2 (.inl rfl)⟩, hw.cnt⟩
theorem few_of_lt : ∀ (B : Nat) (l : List Nat), l.Nodup → (∀ x ∈ l, x < B) → l.length ≤ B
  | 0, l, _, h => by
    cases l with
    | nil => simp
    | cons x l => exact absurd (h x (by simp)) (Nat.not_lt_zero _)
  | B + 1, l, hn, h => by
    have ih := few_of_lt B (l.erase B) (hn.sublist List.erase_sublist) (fun x hx => by
      have h1 := h x (List.mem_of_mem_erase hx)
      have h2 : x ≠ B := fun e => by subst e; exact (hn.not_mem_erase hx)
      omega)
    by_cases hm : B ∈ l
    · have := List.length_erase_of_mem hm
      omega
    · rw [List.erase_of_not_mem hm] at ih
      omega
def keyN (r : SK) : Nat := r.1 * 14 + (match r.2 with | none => 13 | some o => o)
theorem Lev.few (hd : WfD d) {us : List U} (hu : ∀ u ∈ us, UOK d u) {c : Nat} {M : List (SK × Value)} {nx : List SK} (h : Lev d us c M nx) : nx.length ≤ 917504 := by
  have hb : ∀ r ∈ nx, r.1 < 2 ^ 16 ∧ ∀ o, r.2 = some o → o < 12 := by
    intro r hr
    obtain ⟨⟨v, hv⟩, _⟩ := h.mem r hr
    obtain ⟨t, u, f, n, _, _, hw, _, _, _, h7, _⟩ := h.rows _ hv
    refine ⟨h7, fun o ho => ?_⟩
    have := hw.sok hu o ho
    have := hd.few
    omega
  have hn : (nx.map keyN).Nodup := by
    unfold List.Nodup
    rw [List.pairwise_map]
    refine List.Pairwise.imp_of_mem ?_ h.nd
    intro a b ha hb' hab e
    refine hab ?_
    obtain ⟨a1, a2⟩ := hb a ha
    obtain ⟨b1, b2⟩ := hb b hb'
    obtain ⟨k, o⟩ := a
    obtain ⟨k', o'⟩ := b
    unfold keyN at e
    cases o with
    | none => cases o' with
      | none => dsimp only at e; congr 1; omega
      | some y => have := b2 y rfl; dsimp only at e; omega
    | some x => cases o' with
      | none => have := a2 x rfl; dsimp only at e; omega
      | some y =>
        have := a2 x rfl
        have := b2 y rfl
        dsimp only at e
        have h1 : k = k' := by omega
        have h2 : x = y := by omega
        rw [h1, h2]
  have := few_of_lt 917504 (nx.map keyN) hn (fun x hx => by
    rw [List.mem_map] at hx
    obtain ⟨r, hr, rfl⟩ := hx
    obtain ⟨b1, b2⟩ := hb r hr
    unfold keyN
    cases ho : r.2 with
    | none => dsimp only; omega
    | some o => have := b2 o ho; dsimp only; omega)
  simpa using this
/-- a state that is there already is in the list of the next ones -/
theorem Lev.there {us : List U} {c : Nat} {M : List (SK × Value)} {nx : List SK} (h : Lev d us c M nx) {r : SK} {v : Value} (hv : (r, v) ∈ M) (hc : Cnt us r.1 c) : r ∈ nx := by
  obtain ⟨t, u, f, n, h1, h2, h3, h4, h5, h6, h7, h8, _⟩ := h.rows _ hv
  have := h3.cnt
  unfold Cnt at this hc
  exact h8 (by dsimp only at this; omega)
theorem Good.put {us : List U} (hu : ∀ u ∈ us, UOK d u) {M : List (SK × Value)} (ho : Once M) {l : List SK} (h : Good d us M l) {r : SK} {t : Int} {x : Nat} {f : Int} (hl : ∀ t' u' f', (r, stpV t' u' f') ∈ M → t ≤ t') : Good d us (lput M r (stpV t x f)) l := by
  obtain ⟨q, hq, t', u', f', hm, hf⟩ := h
  by_cases e : q = r
  · subst e
    refine ⟨q, hq, t, x, f, mem_lput.2 (.inl rfl), Feas.better (better_time (hl t' u' f' hm)) (fun y hy => ?_) hf⟩
    obtain ⟨j, _, hj⟩ := mem_left.1 hy
    exact hu y (List.mem_of_getElem? hj)
  · exact ⟨q, hq, t', u', f', mem_lput.2 (.inr ⟨hm, e⟩), hf⟩
theorem Good.more {us : List U} {M : List (SK × Value)} {l l' : List SK} (h : Good d us M l) (hl : ∀ r ∈ l, r ∈ l') : Good d us M l' := by
  obtain ⟨q, hq, h⟩ := h
  exact ⟨q, hl q hq, h⟩
/-- What is chosen misses nothing. -/
theorem Cho.feas (hd : WfD d) {us : List U} (hu : ∀ u ∈ us, UOK d u) {F : List Nat} (hsm : ∀ x ∈ F, x < 2 ^ 32) (hF : FirstOK d us fun i => F.getD i 0) (hF2 : ∀ i j, i < us.length → (F.getD i 0).testBit j = true → j < us.length) {k c : Nat} {s : St} (hs : SOK d s) {L : List Nat} (h : Cho d us F k s L)
    (hf : Feas d s (left us k)) (hc : Cnt us k c) (hlt : c < us.length) : ∃ x ∈ L, ∃ u, us[x]? = some u ∧ Feas d (nxt d s u) (left us (k ||| 1 <<< x)) := by
  rcases h with ⟨⟨i, u, h1, h2, h3⟩, _⟩ | ⟨hcan, rfl⟩
  · exact absurd (feas_all hd hu hs hf h2 h1) h3
  · unfold choOf
    split
    · rename_i i hi
      have hm := List.mem_of_find?_eq_some hi
      have hfr := List.find?_some hi
      obtain ⟨u, hu', hfree⟩ := dec_iff.1 hfr
      obtain ⟨h1, h2, h3⟩ := mem_lstTo.1 hm
      exact ⟨i, by simp, u, hu', feas_free hd hu hs hf h2 hu' hfree⟩
    · have hne : ∃ i, i < us.length ∧ k.testBit i = false := by
        unfold Cnt at hc
        have hl : 0 < (left us k).length := by omega
        obtain ⟨i, h1, h2⟩ := mem_left.1 (List.getElem_mem hl)
        exact ⟨i, (List.getElem?_eq_some_iff.1 h2).1, h1⟩
      obtain ⟨i, u, h1, h2, h3, h4⟩ := feas_head hd hu hF hs hf hne
      have hil := (List.getElem?_eq_some_iff.1 h1).1
      refine ⟨i, mem_lstTo.2 ⟨hil, h2, (andN_zero ?_).2 fun j hj => h3 j (hF2 i j hil hj) hj⟩, u, h1, h4⟩
      rw [List.getD_eq_getElem?_getD]
      cases hq : F[i]? with
      | none => simp
      | some y => exact hsm y (List.mem_of_getElem? hq)
end Go.Ord

/- The reference's search: states by sets of units and the last one; plain. -/
namespace Go.Ord

variable {d : Dist}

/-- how many bits are set -/
def pc : Nat → Nat
  | 0 => 0
  | n + 1 => (n + 1) % 2 + pc ((n + 1) / 2)
decreasing_by omega
theorem pc_eq (n : Nat) : pc n = n % 2 + pc (n / 2) := by
  cases n with
  | zero => simp [pc]
  | succ n => rw [pc]
theorem left_consU (u : U) (us : List U) (m : Nat) : left (u :: us) m = (if m.testBit 0 then [] else [u]) ++ left us (m / 2) := by
  unfold left
  rw [List.length_cons, List.range_succ_eq_map, List.filterMap_cons, List.filterMap_map]
  have e : ((fun i => if m.testBit i = true then none else (u :: us)[i]?) ∘ Nat.succ) = fun i => if (m / 2).testBit i = true then none else us[i]? := by
    funext i
    simp [Function.comp, Nat.testBit_succ]
  rw [e]
  by_cases h : m.testBit 0 = true
  · simp [h]
  · simp [h]
theorem pc_left : ∀ (us : List U) (m : Nat), m < 2 ^ us.length → pc m + (left us m).length = us.length
  | [], m, h => by
    simp at h
    subst h
    simp [pc, left]
  | u :: us, m, h => by
    have h2 : m / 2 < 2 ^ us.length := by
      rw [List.length_cons, Nat.pow_succ] at h
      omega
    have ih := pc_left us (m / 2) h2
    rw [left_consU, pc_eq, List.length_append, List.length_cons]
    by_cases hb : m.testBit 0 = true
    · have : m % 2 = 1 := by rw [Nat.testBit_zero] at hb; simpa using hb
      simp [hb]
      omega
    · have : m % 2 = 0 := by
        rw [Nat.testBit_zero] at hb
        have := Nat.mod_two_eq_zero_or_one m
        simp at hb
        omega
      simp [hb]
      omega
theorem bit_test (m i : Nat) : m.testBit i = decide (m / 2 ^ i % 2 = 1) := Nat.testBit_eq_decide_div_mod_eq
theorem half_ext {a b : Nat} (h1 : a / 2 = b / 2) (h2 : a % 2 = b % 2) : a = b := by omega
theorem add_pow : ∀ (i m : Nat), m.testBit i = false → m + 2 ^ i = m ||| 2 ^ i
  | 0, m, h => by
    have hm : m % 2 = 0 := by
      rw [Nat.testBit_zero] at h
      have := Nat.mod_two_eq_zero_or_one m
      simp at h
      omega
    refine half_ext ?_ ?_
    · rw [Nat.or_div_two]
      simp
      omega
    · have : (m ||| 2 ^ 0) % 2 = 1 := by rw [Nat.or_mod_two_eq_one]; right; rfl
      rw [this]
      simp
      omega
  | i + 1, m, h => by
    rw [Nat.testBit_succ] at h
    have ih := add_pow i (m / 2) h
    have e : 2 ^ (i + 1) / 2 = 2 ^ i := by rw [Nat.pow_succ]; omega
    refine half_ext ?_ ?_
    · rw [Nat.or_div_two, e, ← ih, Nat.pow_succ]
      omega
    · have e2 : 2 ^ (i + 1) % 2 = 0 := by rw [Nat.pow_succ]; omega
      have : (m ||| 2 ^ (i + 1)) % 2 = m % 2 := by
        have hb : (m ||| 2 ^ (i + 1)).testBit 0 = m.testBit 0 := by rw [Nat.testBit_or, Nat.testBit_two_pow]; simp
        rw [Nat.testBit_zero, Nat.testBit_zero] at hb
        have h1 := Nat.mod_two_eq_zero_or_one m
        have h2 := Nat.mod_two_eq_zero_or_one (m ||| 2 ^ (i + 1))
        rcases h1 with h1 | h1 <;> rcases h2 with h2 | h2 <;> simp [h1, h2] at hb ⊢
      rw [this]
      omega
theorem add_bit {m i : Nat} (h : m.testBit i = false) : m + 2 ^ i = m ||| 1 <<< i := by
  rw [Nat.one_shiftLeft]
  exact add_pow i m h

/-- a state of the reference: the time at which the last unit begins, the last unit, the set, where it came from -/
structure RS where
  time : Int
  last : Nat
  set : Nat
  frm : Int
def stOf (us : List U) (s : RS) : St := match us[s.last]? with
  | some u => (some u.exit, s.time + u.span)
  | none => (none, 0)
structure RSOK (d : Dist) (us : List U) (s : RS) : Prop where
  last : s.last < us.length
  bits : s.set < 2 ^ us.length
  way : Way d us s.set (stOf us s) (pc s.set)
  t0 : 0 ≤ s.time
  t1 : s.time ≤ 1000000
  f1 : -1 ≤ s.frm
/-- the states while sets of r + 1 units are made, from the index b on -/
structure DP (d : Dist) (us : List U) (r b : Nat) (L : List RS) : Prop where
  each : ∀ s ∈ L, RSOK d us s
  key : L.Pairwise fun a c => ¬ (a.set = c.set ∧ a.last = c.last)
  lo : ∀ (i : Nat) s, L[i]? = some s → i < b → pc s.set ≤ r
  hi : ∀ (i : Nat) s, L[i]? = some s → b ≤ i → pc s.set = r + 1
  back : ∀ (i : Nat) s, L[i]? = some s → s.frm < i
/-- what was there is there, no later -/
def Lat (b : Nat) (L L' : List RS) : Prop := b ≤ L.length ∧ L'.take b = L.take b ∧ ∀ s ∈ L, ∃ s' ∈ L', s'.set = s.set ∧ s'.last = s.last ∧ s'.time ≤ s.time
theorem Lat.refl {b : Nat} {L : List RS} (h : b ≤ L.length) : Lat b L L := ⟨h, rfl, fun s hs => ⟨s, hs, rfl, rfl, Int.le_refl _⟩⟩
theorem Lat.trans {b : Nat} {L L' L'' : List RS} (h : Lat b L L') (h' : Lat b L' L'') : Lat b L L'' := by
  refine ⟨h.1, h'.2.1.trans h.2.1, fun s hs => ?_⟩
  obtain ⟨s', h1, h2, h3, h4⟩ := h.2.2 s hs
  obtain ⟨s'', k1, k2, k3, k4⟩ := h'.2.2 s' h1
  exact ⟨s'', k1, k2.trans h2, k3.trans h3, Int.le_trans k4 h4⟩
def Has (L : List RS) (set last : Nat) (t : Int) : Prop := ∃ s ∈ L, s.set = set ∧ s.last = last ∧ s.time ≤ t
theorem Has.lat {b : Nat} {L L' : List RS} {set last : Nat} {t : Int} (h : Has L set last t) (hl : Lat b L L') : Has L' set last t := by
  obtain ⟨s, h1, h2, h3, h4⟩ := h
  obtain ⟨s', k1, k2, k3, k4⟩ := hl.2.2 s h1
  exact ⟨s', k1, k2.trans h2, k3.trans h3, Int.le_trans k4 h4⟩

theorem DP.app {us : List U} {r b : Nat} {L : List RS} (h : DP d us r b L) {n : RS} (hn : RSOK d us n) (hr : pc n.set = r + 1) (hf : n.frm < b) (hb : b ≤ L.length) (hno : ∀ (i : Nat) s, L[i]? = some s → b ≤ i → ¬ (s.set = n.set ∧ s.last = n.last)) : DP d us r b (L ++ [n]) ∧ Lat b L (L ++ [n]) := by
  have hat : ∀ (i : Nat) s, (L ++ [n])[i]? = some s → L[i]? = some s ∨ (i = L.length ∧ s = n) := fun i s hs => by
    rcases Nat.lt_trichotomy i L.length with hi | hi | hi
    · rw [List.getElem?_append_left hi] at hs; exact .inl hs
    · subst hi; simp at hs; exact .inr ⟨rfl, hs.symm⟩
    · rw [List.getElem?_eq_none (by simp; omega)] at hs; cases hs
  refine ⟨⟨fun s hs => ?_, ?_, fun i s hs hi => ?_, fun i s hs hi => ?_, fun i s hs => ?_⟩, hb, by rw [List.take_append_of_le_length hb], fun s hs => ⟨s, List.mem_append_left _ hs, rfl, rfl, Int.le_refl _⟩⟩
  · rcases List.mem_append.1 hs with hs | hs
    · exact h.each s hs
    · rw [List.mem_singleton] at hs; subst hs; exact hn
  · refine List.pairwise_append.2 ⟨h.key, List.pairwise_singleton _ _, fun a ha c hc => ?_⟩
    rw [List.mem_singleton] at hc
    subst hc
    obtain ⟨i, hi⟩ := List.mem_iff_getElem?.1 ha
    by_cases hib : i < b
    · rintro ⟨e, _⟩
      have := h.lo i a hi hib
      rw [e] at this
      omega
    · exact hno i a hi (by omega)
  · rcases hat i s hs with hs | ⟨rfl, rfl⟩
    · exact h.lo i s hs hi
    · omega
  · rcases hat i s hs with hs | ⟨rfl, rfl⟩
    · exact h.hi i s hs hi
    · exact hr
  · rcases hat i s hs with hs | ⟨rfl, rfl⟩
    · exact h.back i s hs
    · omega
theorem DP.set {us : List U} {r b : Nat} {L : List RS} (h : DP d us r b L) {n o : RS} {k : Nat} (hk : L[k]? = some o) (hkb : b ≤ k) (hn : RSOK d us n) (hf : n.frm < b) (hb : b ≤ L.length) (h1 : o.set = n.set) (h2 : o.last = n.last) (ht : n.time ≤ o.time) : DP d us r b (L.set k n) ∧ Lat b L (L.set k n) := by
  have hkl := (List.getElem?_eq_some_iff.1 hk).1
  have hke := (List.getElem?_eq_some_iff.1 hk).2
  have hat : ∀ (i : Nat) s, (L.set k n)[i]? = some s → (i ≠ k ∧ L[i]? = some s) ∨ (i = k ∧ s = n) := fun i s hs => by
    by_cases hik : k = i
    · subst hik
      rw [List.getElem?_set_self hkl] at hs
      exact .inr ⟨rfl, by cases hs; rfl⟩
    · rw [List.getElem?_set_ne hik] at hs
      exact .inl ⟨fun e => hik e.symm, hs⟩
  have hpc := h.hi k o hk hkb
  refine ⟨⟨fun s hs => ?_, ?_, fun i s hs hi => ?_, fun i s hs hi => ?_, fun i s hs => ?_⟩, hb, ?_, fun s hs => ?_⟩
  · rcases List.mem_or_eq_of_mem_set hs with hs | hs
    · exact h.each s hs
    · subst hs; exact hn
  · rw [List.pairwise_iff_getElem]
    intro i j hi hj hij
    have hi' := List.getElem?_eq_getElem hi
    have hj' := List.getElem?_eq_getElem hj
    have key : ∀ x y, L[i]? = some x → L[j]? = some y → ¬ (x.set = y.set ∧ x.last = y.last) := fun x y hx hy => by
      obtain ⟨hx1, hx2⟩ := List.getElem?_eq_some_iff.1 hx
      obtain ⟨hy1, hy2⟩ := List.getElem?_eq_some_iff.1 hy
      have := List.pairwise_iff_getElem.1 h.key i j hx1 hy1 hij
      rw [hx2, hy2] at this
      exact this
    rcases hat i _ hi' with ⟨_, hx⟩ | ⟨rfl, hx⟩ <;> rcases hat j _ hj' with ⟨_, hy⟩ | ⟨rfl, hy⟩
    · exact key _ _ hx hy
    · rw [hy, ← h1, ← h2]; exact key _ _ hx hk
    · rw [hx, ← h1, ← h2]; exact key _ _ hk hy
    · omega
  · rcases hat i s hs with ⟨_, hs⟩ | ⟨rfl, rfl⟩
    · exact h.lo i s hs hi
    · omega
  · rcases hat i s hs with ⟨_, hs⟩ | ⟨rfl, rfl⟩
    · exact h.hi i s hs hi
    · rw [← h1]; exact hpc
  · rcases hat i s hs with ⟨_, hs⟩ | ⟨rfl, rfl⟩
    · exact h.back i s hs
    · omega
  · exact List.take_set_of_le hkb
  · obtain ⟨i, hi⟩ := List.mem_iff_getElem?.1 hs
    by_cases hik : k = i
    · subst hik
      rw [hk] at hi
      cases hi
      exact ⟨n, List.mem_iff_getElem?.2 ⟨k, List.getElem?_set_self hkl⟩, h1.symm, h2.symm, ht⟩
    · exact ⟨s, List.mem_iff_getElem?.2 ⟨i, by rw [List.getElem?_set_ne hik]; exact hi⟩, rfl, rfl, Int.le_refl _⟩

theorem stOf_eq {us : List U} {s : RS} {u : U} (h : us[s.last]? = some u) : stOf us s = (some u.exit, s.time + u.span) := by
  unfold stOf
  rw [h]
theorem pc_or {us : List U} {m i : Nat} (hi : i < us.length) (hm : m < 2 ^ us.length) (h : m.testBit i = false) : pc (m ||| 1 <<< i) = pc m + 1 ∧ m ||| 1 <<< i < 2 ^ us.length := by
  have h1 := pc_left us m hm
  have hlt : m ||| 1 <<< i < 2 ^ us.length := Nat.or_lt_two_pow hm (by rw [Nat.one_shiftLeft]; exact Nat.pow_lt_pow_right (by decide) hi)
  have h2 := pc_left us _ hlt
  have h3 := (left_cons (m := m) h (List.getElem?_eq_getElem hi)).length_eq
  rw [List.length_cons] at h3
  exact ⟨by omega, hlt⟩
/-- the state that follows -/
theorem RSOK.next {us : List U} (hw : ∀ u ∈ us, 0 ≤ u.low ∧ u.low ≤ u.high ∧ u.high ≤ 1000000) {s : RS} (h : RSOK d us s) {i : Nat} {u : U} (hu : us[i]? = some u) (hb : s.set.testBit i = false) (hc : CanB d (stOf us s) u) {k : Int} (hk : -1 ≤ k) :
    RSOK d us ⟨beg d (stOf us s) u, i, s.set ||| 1 <<< i, k⟩ ∧ pc (s.set ||| 1 <<< i) = pc s.set + 1 ∧ stOf us ⟨beg d (stOf us s) u, i, s.set ||| 1 <<< i, k⟩ = nxt d (stOf us s) u := by
  have hi := (List.getElem?_eq_some_iff.1 hu).1
  obtain ⟨q1, q2⟩ := pc_or hi h.bits hb
  have e : stOf us ⟨beg d (stOf us s) u, i, s.set ||| 1 <<< i, k⟩ = nxt d (stOf us s) u := stOf_eq hu
  obtain ⟨w1, w2, w3⟩ := hw u (List.mem_of_getElem? hu)
  have hb1 : beg d (stOf us s) u ≤ u.high := by unfold beg; have := hc.2; omega
  have hb0 : u.low ≤ beg d (stOf us s) u := by unfold beg; omega
  refine ⟨⟨hi, q2, ?_, by show 0 ≤ beg d (stOf us s) u; omega, by show beg d (stOf us s) u ≤ 1000000; omega, hk⟩, q1, e⟩
  rw [e]
  show Way d us (s.set ||| 1 <<< i) (nxt d (stOf us s) u) (pc (s.set ||| 1 <<< i))
  rw [q1]
  exact h.way.step hu hb hc
/-- all that are left can follow -/
def OpenP (d : Dist) (us : List U) (set : Nat) (s : St) : Prop := ∀ (j : Nat) v, us[j]? = some v → set.testBit j = false → CanB d s v
/-- some state of r units can be completed -/
def GoodR (d : Dist) (us : List U) (r : Nat) (L : List RS) : Prop := ∃ s ∈ L, pc s.set = r ∧ Feas d (stOf us s) (left us s.set)
theorem has_good {us : List U} (hu : ∀ u ∈ us, UOK d u) {L : List RS} {set i : Nat} {u : U} {t : Int} (hui : us[i]? = some u) (h : Has L set i t) (hf : Feas d (some u.exit, t + u.span) (left us set)) : GoodR d us (pc set) L := by
  obtain ⟨s, h1, h2, h3, h4⟩ := h
  refine ⟨s, h1, by rw [h2], ?_⟩
  rw [h2, stOf_eq (by rw [h3]; exact hui)]
  exact hf.better (better_time (by omega)) (fun x hx => by obtain ⟨j, _, hj⟩ := mem_left.1 hx; exact hu x (List.mem_of_getElem? hj))
/-- a state that can be completed has a next one -/
theorem feas_next (hd : WfD d) {us : List U} (hu : ∀ u ∈ us, UOK d u) {s : St} (hs : SOK d s) {m : Nat} (h : Feas d s (left us m)) (hne : left us m ≠ []) :
    ∃ (i : Nat) (u : U), us[i]? = some u ∧ m.testBit i = false ∧ CanB d s u ∧ OpenP d us (m ||| 1 <<< i) (nxt d s u) ∧ Feas d (nxt d s u) (left us (m ||| 1 <<< i)) := by
  obtain ⟨l, hp, hr⟩ := h
  cases l with
  | nil => exact absurd hp.symm.eq_nil hne
  | cons u l =>
    obtain ⟨i, hm, hi⟩ := mem_left.1 (hp.mem_iff.1 (List.mem_cons_self ..))
    have hpl : l.Perm (left us (m ||| 1 <<< i)) := List.Perm.cons_inv (hp.trans (left_cons hm hi))
    have hF : Feas d (nxt d s u) (left us (m ||| 1 <<< i)) := ⟨l, hpl, hr.2⟩
    exact ⟨i, u, hi, hm, hr.1, fun j v hv hb => feas_all hd hu (sok_nxt (hu u (List.mem_of_getElem? hi))) hF hb hv, hF⟩
/-- at the end -/
theorem full_iff {us : List U} {m : Nat} (hm : m < 2 ^ us.length) : left us m = [] ↔ m = 2 ^ us.length - 1 := by
  constructor
  · intro h
    apply Nat.eq_of_testBit_eq
    intro i
    rw [Nat.testBit_two_pow_sub_one]
    by_cases hi : i < us.length
    · simp only [hi, decide_true]
      cases hb : m.testBit i with
      | true => rfl
      | false =>
        have : us[i] ∈ left us m := mem_left.2 ⟨i, hb, List.getElem?_eq_getElem hi⟩
        rw [h] at this
        cases this
    · simp only [hi, decide_false]
      exact Nat.testBit_lt_two_pow (Nat.lt_of_lt_of_le hm (Nat.pow_le_pow_right (by decide) (by omega)))
  · intro h
    apply List.eq_nil_iff_forall_not_mem.2
    intro u hu
    obtain ⟨i, hb, hi⟩ := mem_left.1 hu
    rw [h, Nat.testBit_two_pow_sub_one] at hb
    have := (List.getElem?_eq_some_iff.1 hi).1
    simp at hb
    omega
theorem full_feas {us : List U} {L : List RS} (hL : ∀ s ∈ L, RSOK d us s) : (∃ s ∈ L, s.set = 2 ^ us.length - 1) → Feas d (none, 0) us := by
  rintro ⟨s, hs, he⟩
  have h := hL s hs
  have h0 := (full_iff h.bits).2 he
  have h1 := pc_left us s.set h.bits
  rw [h0] at h1
  have hw := h.way
  have : pc s.set = us.length := by simpa using h1
  rw [this] at hw
  exact hw.feas
theorem good_full {us : List U} {L : List RS} (hL : ∀ s ∈ L, RSOK d us s) (h : GoodR d us us.length L) : ∃ s ∈ L, s.set = 2 ^ us.length - 1 := by
  obtain ⟨s, hs, hp, _⟩ := h
  have h1 := pc_left us s.set (hL s hs).bits
  refine ⟨s, hs, (full_iff (hL s hs).bits).1 (List.eq_nil_of_length_eq_zero (by omega))⟩
/-- there are not many -/
theorem DP.few {us : List U} {r b : Nat} {L : List RS} (h : DP d us r b L) (hu : us.length ≤ 16) : L.length ≤ 1048576 := by
  have h1 : (L.map fun s => s.set * 16 + s.last).Nodup := by
    rw [List.nodup_iff_pairwise_ne, List.pairwise_map]
    refine List.Pairwise.imp_of_mem ?_ h.key
    intro a c ha hc hk e
    have h1 := (h.each a ha).last
    have h2 := (h.each c hc).last
    apply hk
    omega
  have h2 := few_of_lt 1048576 _ h1 (fun x hx => by
    obtain ⟨s, hs, rfl⟩ := List.mem_map.1 hx
    have h1 := (h.each s hs).last
    have h2 := (h.each s hs).bits
    have h3 : 2 ^ us.length ≤ 2 ^ 16 := Nat.pow_le_pow_right (by decide) hu
    have h4 : (2 : Nat) ^ 16 = 65536 := by decide
    omega)
  simpa using h2
/-- the next round begins -/
theorem DP.round {us : List U} {r b : Nat} {L : List RS} (h : DP d us r b L) : DP d us (r + 1) L.length L := by
  refine ⟨h.each, h.key, fun i s hs hi => ?_, fun i s hs hi => ?_, h.back⟩
  · by_cases hb : i < b
    · have := h.lo i s hs hb; omega
    · exact Nat.le_of_eq (h.hi i s hs (by omega))
  · have := (List.getElem?_eq_some_iff.1 hs).1
    omega

/-- the first states: one unit each -/
def start1 (us : List U) (i : Nat) : RS := ⟨((us[i]?).map (·.low)).getD 0, i, 1 <<< i, -1⟩
def startL (us : List U) (k : Nat) : List RS := (List.range k).map (start1 us)
theorem startL_succ (us : List U) (k : Nat) : startL us (k + 1) = startL us k ++ [start1 us k] := by simp [startL, List.range_succ]
theorem startL_len (us : List U) (k : Nat) : (startL us k).length = k := by simp [startL]
theorem start_can {u : U} (h0 : 0 ≤ u.low) (h1 : u.low ≤ u.high) : CanB d (none, 0) u ∧ beg d (none, 0) u = u.low := by
  refine ⟨⟨by show (0 : Int) ≠ -1; decide, by show (0 : Int) + 0 ≤ u.high; omega⟩, ?_⟩
  show max u.low (0 + 0) = u.low
  omega
theorem start_ok {us : List U} (hw : ∀ u ∈ us, 0 ≤ u.low ∧ u.low ≤ u.high ∧ u.high ≤ 1000000) {i : Nat} {u : U} (hu : us[i]? = some u) : RSOK d us (start1 us i) ∧ pc (start1 us i).set = 1 ∧ stOf us (start1 us i) = nxt d (none, 0) u := by
  obtain ⟨w1, w2, w3⟩ := hw u (List.mem_of_getElem? hu)
  obtain ⟨c1, c2⟩ := start_can (d := d) w1 w2
  have hi := (List.getElem?_eq_some_iff.1 hu).1
  have hz : (0 : Nat) < 2 ^ us.length := Nat.two_pow_pos _
  obtain ⟨q1, q2⟩ := pc_or hi hz (m := 0) (by simp)
  have e0 : (0 : Nat) ||| 1 <<< i = 1 <<< i := by simp
  rw [e0] at q1 q2
  have hlow : (start1 us i).time = u.low := by simp [start1, hu]
  have e : stOf us (start1 us i) = nxt d (none, 0) u := by
    rw [stOf_eq (u := u) (by exact hu), hlow]
    unfold nxt
    rw [c2]
  have q1' : pc (1 <<< i) = 1 := by rw [q1]; simp [pc]
  refine ⟨⟨hi, q2, ?_, by rw [hlow]; exact w1, by rw [hlow]; omega, by show (-1 : Int) ≤ -1; decide⟩, q1', e⟩
  rw [e]
  have := (Way.zero (d := d) us).step hu (by simp) c1
  rw [e0] at this
  show Way d us (1 <<< i) (nxt d (none, 0) u) (pc (1 <<< i))
  rw [q1']
  exact this
theorem start_get {us : List U} {k i : Nat} {s : RS} (h : (startL us k)[i]? = some s) : i < k ∧ s = start1 us i := by
  unfold startL at h
  rw [List.getElem?_map] at h
  obtain ⟨j, hj, rfl⟩ := Option.map_eq_some_iff.1 h
  rw [List.getElem?_eq_some_iff] at hj
  obtain ⟨h1, h2⟩ := hj
  simp at h1 h2
  subst h2
  exact ⟨h1, rfl⟩
theorem start_dp {us : List U} (hw : ∀ u ∈ us, 0 ≤ u.low ∧ u.low ≤ u.high ∧ u.high ≤ 1000000) : DP d us 0 0 (startL us us.length) := by
  have hat : ∀ (i : Nat) s, (startL us us.length)[i]? = some s → RSOK d us s ∧ pc s.set = 1 ∧ s.frm = -1 ∧ s.last = i := fun i s hs => by
    obtain ⟨h1, rfl⟩ := start_get hs
    obtain ⟨q1, q2, _⟩ := start_ok (d := d) hw (List.getElem?_eq_getElem h1)
    exact ⟨q1, q2, rfl, rfl⟩
  refine ⟨fun s hs => ?_, ?_, fun i s hs hi => by omega, fun i s hs _ => (hat i s hs).2.1, fun i s hs => ?_⟩
  · obtain ⟨i, hi⟩ := List.mem_iff_getElem?.1 hs
    exact (hat i s hi).1
  · rw [List.pairwise_iff_getElem]
    intro i j hi hj hij e
    have h1 := (hat i _ (List.getElem?_eq_getElem hi)).2.2.2
    have h2 := (hat j _ (List.getElem?_eq_getElem hj)).2.2.2
    omega
  · rw [(hat i s hs).2.2.1]
    omega
theorem start_good (hd : WfD d) {us : List U} (hu : ∀ u ∈ us, UOK d u) (hw : ∀ u ∈ us, 0 ≤ u.low ∧ u.low ≤ u.high ∧ u.high ≤ 1000000) (hne : us ≠ []) (h : Feas d (none, 0) us) : GoodR d us 1 (startL us us.length) := by
  rw [← left_zero us] at h
  obtain ⟨i, u, h1, h2, h3, h4, h5⟩ := feas_next hd hu (s := (none, 0)) (fun x hx => by cases hx) (m := 0) h (by rw [left_zero]; exact hne)
  obtain ⟨q1, q2, q3⟩ := start_ok (d := d) hw h1
  have e0 : (0 : Nat) ||| 1 <<< i = 1 <<< i := by simp
  rw [e0] at h5
  exact ⟨start1 us i, List.mem_map.2 ⟨i, List.mem_range.2 (List.getElem?_eq_some_iff.1 h1).1, rfl⟩, q2, by rw [q3]; exact h5⟩
end Go.Ord

/- Drawn regions: moves may be done first; operations that look at no memory may be taken first. -/
namespace Go.PF
open Go.RowKit

section
variable {P : Program} {Q : Exit → Act → World → Prop} {N : Nat} {ds : List Deferred} {ops : List Oper}

/-- A panic's post does not hang on the slots. -/
def PanQ (Q : Exit → Act → World → Prop) : Prop := ∀ c a d v w, Q (.panic c) (Act.put a d v) w → Q (.panic c) a w

theorem free_of_lex (hlex : lexOK ops = true) {i : Nat} {oi : Oper} (hi : ops[i]? = some oi) {listed : Array Bool} (hdeps : ∀ e ∈ oi.after, Region.binds .any e = true → listed.getD e.on false = true) :
    ∀ j oj, ops[j]? = some oj → j ≠ i → listed.getD j true = false → (∀ e ∈ oj.after, Region.binds .any e = true → e.on ≠ i) → oi.apart ops.toArray oj = true := by
  intro j oj hj hne hun hno
  have hunf : listed.getD j false = true → False := fun h => by
    rcases Nat.lt_or_ge j listed.size with h' | h'
    · simp [h'] at hun h; rw [hun] at h; cases h
    · simp [Array.getElem?_eq_none h'] at h
  have h1 := fun d hd => (lexOK_spec hlex hj hi).2 d hd
  have h2 := fun d hd => (lexOK_spec hlex hi hj).2 d hd
  unfold Oper.apart
  rw [Bool.and_eq_true]
  constructor
  · cases hd : oi.dst with
    | none => rfl
    | some d =>
      obtain ⟨q1, q2⟩ := h1 d hd
      simp only [Bool.and_eq_true]
      constructor
      · cases hc : (oj.looksAt ops.toArray).contains d with
        | false => rfl
        | true =>
          exfalso
          have hm : d ∈ oj.looksAt ops.toArray := by simpa using hc
          obtain ⟨q3, q4⟩ := q2 hm
          rcases Nat.lt_or_ge i j with h | h
          · obtain ⟨e, he, hb, hon⟩ := q3 h
            exact hno e he hb hon
          · rcases q4 h with h5 | ⟨e, he, hb, hon⟩
            · exact hne h5.symm
            · exact hunf (hon ▸ hdeps e he hb)
      · rcases q1 with q1 | q1
        · exact absurd q1.symm hne
        · simpa using q1
  · cases hd : oj.dst with
    | none => rfl
    | some d =>
      obtain ⟨q1, q2⟩ := h2 d hd
      cases hc : (oi.looksAt ops.toArray).contains d with
      | false => simp only [hc, Bool.not_false]
      | true =>
        exfalso
        have hm : d ∈ oi.looksAt ops.toArray := by simpa using hc
        obtain ⟨q3, q4⟩ := q2 hm
        rcases Nat.lt_or_ge j i with h | h
        · obtain ⟨e, he, hb, hon⟩ := q3 h
          exact hunf (hon ▸ hdeps e he hb)
        · rcases q4 h with h5 | ⟨e, he, hb, hon⟩
          · exact hne h5
          · exact hno e he hb hon

def isMove : Op → Bool
  | .move _ => true
  | .assign _ => true
  | _ => false
def plusO (ks : List Nat) (t i : Nat) (o : Oper) : Oper := match Nat.ble t i with
  | true => ⟨o.dst, o.op, o.type, o.pos, o.after ++ (ks.map fun k => (⟨k, .data⟩ : Edge)).toArray, o.guard⟩
  | false => o
def plusL (ks : List Nat) (t : Nat) : Nat → List Oper → List Oper
  | _, [] => []
  | i, o :: os => plusO ks t i o :: plusL ks t (i + 1) os
def plus (ks : List Nat) (t : Nat) (ops : List Oper) : List Oper := plusL ks t 0 ops
theorem plusL_get (ks : List Nat) (t : Nat) : ∀ (os : List Oper) (j i : Nat), (plusL ks t j os)[i]? = (os[i]?).map (plusO ks t (j + i))
  | [], j, i => by simp [plusL]
  | o :: os, j, 0 => by simp [plusL]
  | o :: os, j, i + 1 => by
    simp only [plusL, List.getElem?_cons_succ]
    rw [plusL_get ks t os (j + 1) i, show j + 1 + i = j + (i + 1) by omega]
theorem plus_get (ks : List Nat) (t : Nat) (ops : List Oper) (i : Nat) : (plus ks t ops)[i]? = (ops[i]?).map (plusO ks t i) := by
  unfold plus; rw [plusL_get, Nat.zero_add]
theorem plusO_dst (ks : List Nat) (t i : Nat) (o : Oper) : (plusO ks t i o).dst = o.dst := by unfold plusO; split <;> rfl
theorem plusO_guard (ks : List Nat) (t i : Nat) (o : Oper) : (plusO ks t i o).guard = o.guard := by unfold plusO; split <;> rfl
theorem plusO_op (ks : List Nat) (t i : Nat) (o : Oper) : (plusO ks t i o).op = o.op := by unfold plusO; split <;> rfl
theorem plusO_after {ks : List Nat} {t i : Nat} {o : Oper} {e : Edge} (h : e ∈ (plusO ks t i o).after) : e ∈ o.after ∨ (t ≤ i ∧ ∃ k ∈ ks, e = ⟨k, .data⟩) := by
  unfold plusO at h
  split at h
  · rename_i hb
    have h : e ∈ o.after ++ (ks.map fun k => (⟨k, .data⟩ : Edge)).toArray := h
    rw [Array.mem_append] at h
    rcases h with h | h
    · exact .inl h
    · right
      refine ⟨Nat.le_of_ble_eq_true hb, ?_⟩
      simp only [List.mem_toArray, List.mem_map] at h
      obtain ⟨k, hk, rfl⟩ := h
      exact ⟨k, hk, rfl⟩
  · exact .inl h
theorem plusO_more {ks : List Nat} {t i : Nat} {o : Oper} {e : Edge} (h : e ∈ o.after) : e ∈ (plusO ks t i o).after := by
  unfold plusO
  split
  · show e ∈ o.after ++ _
    exact Array.mem_append.2 (.inl h)
  · exact h
theorem plus_yielded (ks : List Nat) (t : Nat) (ops : List Oper) (a : Array Value) (j : Nat) : yielded (plus ks t ops).toArray a j = yielded ops.toArray a j := by
  rw [yielded_eq, yielded_eq, plus_get]
  cases ops[j]? with
  | none => rfl
  | some o => simp [plusO_dst]
theorem plus_wanted (ks : List Nat) (t i : Nat) (ops : List Oper) (o : Oper) (a : Array Value) : Region.wanted (plusO ks t i o) (yielded (plus ks t ops).toArray a) = Region.wanted o (yielded ops.toArray a) := by
  have : yielded (plus ks t ops).toArray a = yielded ops.toArray a := by funext j; exact plus_yielded ks t ops a j
  rw [this]
  unfold Region.wanted
  rw [plusO_guard]
theorem plus_wpIn {F : Fence} {n : Nat} {ks : List Nat} {t i : Nat} {o : Oper} {a : Act} {w : World} {K : Act → World → Prop} : (plusO ks t i o).wpIn F n P a w K Q ↔ o.wpIn F n P a w K Q := by
  unfold plusO
  split
  · exact Iff.rfl
  · exact Iff.rfl
theorem plus_wpOp {F : Fence} {n : Nat} {ks : List Nat} {t i : Nat} {a : Act} {w : World} {K : Act → World → Prop} : wpOpIn F n P (plus ks t ops).toArray Q i K a w ↔ wpOpIn F n P ops.toArray Q i K a w := by
  unfold wpOpIn
  simp only [List.getElem?_toArray, plus_get]
  cases ops[i]? with
  | none => exact Iff.rfl
  | some o =>
    simp only [Option.map_some, plus_wanted, plusO_dst]
    split
    · exact plus_wpIn
    · unfold plusO
      split <;> exact Iff.rfl

def moveOK (ks : List Nat) (t : Nat) (ops : List Oper) (k : Nat) : Bool := Nat.blt k t && match ops[k]? with
  | some o => isMove o.op && o.guard.isNone && o.after.all fun e => !Region.binds .any e || hasN ks e.on || ((masks ops).drop t).all fun m => m.testBit e.on
  | none => false
def plusOK (ks : List Nat) (t : Nat) (ops : List Oper) : Bool := lexOK ops && Region.noSelect ops.toArray && ks.all (moveOK ks t ops)

theorem any_plus {ks : List Nat} {t : Nat} (hok : plusOK ks t ops = true) (hQ : PanQ Q) :
    ∀ (fuel : Nat) (listed : Array Bool) (a : Act) (w : World), (∀ k o, ops[k]? = some o → listed.getD k false = true → ∀ e ∈ o.after, Region.binds .any e = true → listed.getD e.on false = true) →
      wpAnyIn (FR none) 0 P .any (plus ks t ops).toArray Q fuel listed a w → wpAnyIn (FR none) 0 P .any ops.toArray Q fuel listed a w := by
  unfold plusOK at hok
  simp only [Bool.and_eq_true] at hok
  obtain ⟨⟨hlex, hsel⟩, hks⟩ := hok
  have hback : ∀ k o, ops[k]? = some o → ∀ e ∈ o.after, Region.binds .any e = true → e.on < k := fun k o hk e he hb => (lexOK_spec hlex hk hk).1 e he hb
  have hkk : ∀ k ∈ ks, k < t ∧ ∃ o, ops[k]? = some o ∧ isMove o.op = true ∧ o.guard = none ∧ ∀ e ∈ o.after, Region.binds .any e = true → e.on ∈ ks ∨ ∀ i, t ≤ i → i < ops.length → Reach ops i e.on := by
    intro k hk
    have h := List.all_eq_true.1 hks k hk
    unfold moveOK at h
    simp only [Bool.and_eq_true] at h
    obtain ⟨h1, h2⟩ := h
    refine ⟨blt_iff.1 h1, ?_⟩
    cases ho : ops[k]? with
    | none => rw [ho] at h2; cases h2
    | some o =>
      rw [ho] at h2
      simp only [Bool.and_eq_true] at h2
      obtain ⟨⟨h3, h4⟩, h5⟩ := h2
      refine ⟨o, rfl, h3, by simpa using h4, fun e he hb => ?_⟩
      rw [Array.all_eq_true'] at h5
      have h6 := h5 e he
      rw [hb] at h6
      simp only [Bool.not_true, Bool.false_or, Bool.or_eq_true] at h6
      rcases h6 with h6 | h6
      · exact .inl (hasN_iff.1 h6)
      · right
        intro i hti hil
        have hlen : (masks ops).length = ops.length := by unfold masks; rw [masksGo_len]; simp
        have hm : (masks ops)[i]? = some (masks ops)[i] := List.getElem?_eq_getElem (by omega)
        have h7 := List.all_eq_true.1 h6 (masks ops)[i] (by
          rw [List.mem_iff_getElem?]
          exact ⟨i - t, by rw [List.getElem?_drop, show t + (i - t) = i by omega, hm]⟩)
        exact masks_reach (by rw [List.getD_eq_getElem?_getD, hm]; exact h7)
  have hget : ∀ i o, (plus ks t ops).toArray[i]? = some o → ∃ o0, ops[i]? = some o0 ∧ o = plusO ks t i o0 := by
    intro i o h
    rw [List.getElem?_toArray, plus_get] at h
    cases ho : ops[i]? with
    | none => rw [ho] at h; cases h
    | some o0 => rw [ho] at h; simp only [Option.map_some, Option.some.injEq] at h; exact ⟨o0, rfl, h.symm⟩
  have hclosed : ∀ {listed : Array Bool} {i : Nat}, (∀ k o, ops[k]? = some o → listed.getD k false = true → ∀ e ∈ o.after, Region.binds .any e = true → listed.getD e.on false = true) →
      (∀ o, ops[i]? = some o → ∀ e ∈ o.after, Region.binds .any e = true → listed.getD e.on false = true) → ∀ k o, ops[k]? = some o → (listed.setIfInBounds i true).getD k false = true → ∀ e ∈ o.after, Region.binds .any e = true → (listed.setIfInBounds i true).getD e.on false = true := by
    intro listed i hc hd k o hk hl e he hb
    refine getD_set_true ?_
    by_cases hik : i = k
    · subst hik; exact hd o hk e he hb
    · rw [getD_set_ne false hik] at hl; exact hc k o hk hl e he hb
  intro fuel
  induction fuel with
  | zero =>
    intro listed a w hc h
    refine ⟨?_, h.2⟩
    cases hr : Region.ready .any ops.toArray listed with
    | nil => rfl
    | cons i l =>
      exfalso
      -- some operation is ready in the fuller order too
      have hi : i ∈ Region.ready .any ops.toArray listed := by rw [hr]; simp
      have hex : ∃ j, j ∈ Region.ready .any (plus ks t ops).toArray listed := by
        have hun : ∃ j o, ops[j]? = some o ∧ listed.getD j true = false := by
          obtain ⟨h0, o, ho, _⟩ := mem_ready.1 hi
          exact ⟨i, o, by simpa using ho, h0⟩
        obtain ⟨j, o, hj, hun⟩ := hun
        induction j using Nat.strongRecOn generalizing o with
        | _ j ih =>
          by_cases hall : ∀ j' o', j' < j → ops[j']? = some o' → listed.getD j' true = true
          · refine ⟨j, mem_ready.2 ⟨hun, plusO ks t j o, by rw [List.getElem?_toArray, plus_get, hj]; rfl, fun e he hb => ?_⟩⟩
            have hon : e.on < j := by
              rcases plusO_after he with h1 | ⟨h1, k, hk, rfl⟩
              · exact hback j o hj e h1 hb
              · have := (hkk k hk).1; show k < j; omega
            have hjl := (List.getElem?_eq_some_iff.1 hj).1
            have hex : ops[e.on]? = some ops[e.on] := List.getElem?_eq_getElem (by omega)
            have h2 := hall e.on _ hon hex
            rcases Nat.lt_or_ge e.on listed.size with h' | h'
            · simp [h'] at h2 ⊢; exact h2
            · have hjs : listed.size ≤ j := by omega
              simp [Array.getElem?_eq_none hjs] at hun
          · rcases Classical.not_forall.1 hall with ⟨j', hn⟩
            rcases Classical.not_forall.1 hn with ⟨o', hn⟩
            rcases Classical.not_forall.1 hn with ⟨hlt, hn⟩
            rcases Classical.not_forall.1 hn with ⟨ho', hn⟩
            exact ih j' hlt o' ho' (by simpa using hn)
      obtain ⟨j, hj⟩ := hex
      rw [h.1] at hj
      cases hj
  | succ fuel ih =>
    intro listed a w hc h
    by_cases hk : ∃ k ∈ ks, k ∈ Region.ready .any (plus ks t ops).toArray listed
    · obtain ⟨k, hkm, hkr⟩ := hk
      obtain ⟨hkt, o, ho, hmv, hgu, _⟩ := hkk k hkm
      obtain ⟨hun, o', ho', hdeps⟩ := mem_ready.1 hkr
      have hdeps0 : ∀ e ∈ o.after, Region.binds .any e = true → listed.getD e.on false = true := by
        rw [List.getElem?_toArray, plus_get, ho] at ho'
        simp only [Option.map_some, Option.some.injEq] at ho'
        subst ho'
        exact fun e he hb => hdeps e (plusO_more he) hb
      have hkr0 : k ∈ Region.ready .any ops.toArray listed := mem_ready.2 ⟨hun, o, by simpa using ho, hdeps0⟩
      have h1 := plus_wpOp.1 (h.2 k hkr)
      -- what it yields
      obtain ⟨v, hv⟩ : ∃ v, ∀ w', (execOp a.eval o).run P w' = .ok (.value v) w' := by
        obtain ⟨dst, op, ty, pos, af, gu⟩ := o
        cases op <;> first | (simp [isMove] at hmv; done) | skip
        · exact ⟨_, fun w' => by simp only [execOp]; rfl⟩
        · exact ⟨_, fun w' => by simp only [execOp]; rfl⟩
      have hw : Region.wanted o (yielded ops.toArray a.tmps) = true := by unfold Region.wanted; rw [hgu]
      have hab : ∀ w', o.about P w' a.eval = none := by
        intro w'
        unfold Oper.about
        cases hop : o.op <;> first | rfl | (rw [hop] at hmv; simp [isMove] at hmv)
      have h2 : wpAnyIn (FR none) 0 P .any (plus ks t ops).toArray Q fuel (listed.setIfInBounds k true) (a.put o.dst v) w := by
        unfold wpOpIn at h1
        simp only [List.getElem?_toArray, ho, hw, if_true, Oper.wpIn] at h1
        have h1 := h1.2
        rw [Oper.semAt_none, hv w] at h1
        exact h1
      have h3 := ih _ _ _ (hclosed hc (fun o' ho' => by rw [ho] at ho'; cases ho'; exact hdeps0)) h2
      exact wpAnyIn_first rfl (by simpa using ho) (Region.noSelect_spec hsel) (fun c a w hq => hQ c a _ _ w hq) fuel listed a w
        (fun j oj hj => free_of_lex hlex ho hdeps0 j oj (by simpa using hj)) hkr0 ⟨.inl ⟨hw, hv⟩, hab⟩ h3
    · have hsame : ∀ i, i ∈ Region.ready .any ops.toArray listed → i ∈ Region.ready .any (plus ks t ops).toArray listed := by
        intro i hi
        obtain ⟨hun, o, ho, hdeps⟩ := mem_ready.1 hi
        have ho : ops[i]? = some o := by simpa using ho
        refine mem_ready.2 ⟨hun, plusO ks t i o, by rw [List.getElem?_toArray, plus_get, ho]; rfl, fun e he hb => ?_⟩
        rcases plusO_after he with h1 | ⟨hti, k, hkm, rfl⟩
        · exact hdeps e h1 hb
        · show listed.getD k false = true
          -- the least of the moves that is not done would be ready
          have hil := (List.getElem?_eq_some_iff.1 ho).1
          have hisz : i < listed.size := by
            rcases Nat.lt_or_ge i listed.size with h' | h'
            · exact h'
            · simp [Array.getElem?_eq_none h'] at hun
          induction k using Nat.strongRecOn with
          | _ k ihk =>
            cases hlk : listed.getD k false with
            | true => rfl
            | false =>
              exfalso
              obtain ⟨hkt, ok, hok, hmv, hgu, hda⟩ := hkk k hkm
              refine hk ⟨k, hkm, mem_ready.2 ⟨?_, plusO ks t k ok, by rw [List.getElem?_toArray, plus_get, hok]; rfl, fun e' he' hb' => ?_⟩⟩
              · have : k < listed.size := by omega
                simp [this] at hlk ⊢; exact hlk
              · rcases plusO_after he' with h1 | ⟨h1, _⟩
                · rcases hda e' h1 hb' with h2 | h2
                  · exact ihk e'.on (hback k ok hok e' h1 hb') h2 (by unfold plusO; rw [show Nat.ble t i = true from Nat.ble_eq_true_of_le hti]; exact Array.mem_append.2 (.inr (by simp; exact h2))) (by rfl)
                  · exact reach_listed hc hback (h2 i hti hil) (fun o'' ho'' => by rw [ho] at ho''; cases ho''; exact hdeps)
                · omega
      have hless : ∀ i, i ∈ Region.ready .any (plus ks t ops).toArray listed → i ∈ Region.ready .any ops.toArray listed := by
        intro i hi
        obtain ⟨hun, o, ho, hdeps⟩ := mem_ready.1 hi
        obtain ⟨o0, h0, rfl⟩ := hget i o ho
        exact mem_ready.2 ⟨hun, o0, by simpa using h0, fun e he hb => hdeps e (plusO_more he) hb⟩
      refine ⟨fun hr => h.1 ?_, fun i hi => ?_⟩
      · cases hr' : Region.ready .any (plus ks t ops).toArray listed with
        | nil => rfl
        | cons j l => have := hless j (by rw [hr']; simp); rw [hr] at this; cases this
      · have h1 := plus_wpOp.1 (h.2 i (hsame i hi))
        obtain ⟨hun, o, ho, hdeps⟩ := mem_ready.1 hi
        exact wpOpIn_mono (fun a' w' h2 => ih _ a' w' (hclosed hc (fun o' ho' => by rw [show ops[i]? = some o by simpa using ho] at ho'; cases ho'; exact hdeps)) h2) h1

/-- A drawn region whose moves ks are done ahead of the operations from t on. -/
theorem CW.drawPlus (ks : List Nat) (t : Nat) {id : Nat} {E : Env} {w : World} (hm : P.follows .mixedOrders = true) (hok : plusOK ks t ops = true) (hQ : PanQ Q) (h : ∀ W, Below w.heap.size w W → RW P none Q N ds (plus ks t ops) 0 E W) : CW P none Q N ds (.region id ops.toArray true) E w := by
  intro a ha
  refine wpIn_region_any hm ?_
  have e : ops.toArray.size = ops.length := by simp
  rw [e]
  have hl : (plus ks t ops).length = ops.length := by
    have : ∀ (os : List Oper) (j : Nat), (plusL ks t j os).length = os.length := by
      intro os
      induction os with
      | nil => intro j; rfl
      | cons o os ih => intro j; simp [plusL, ih]
    exact this ops 0
  refine any_plus hok hQ _ _ _ _ (fun k o hk hl => by have hkl := (List.getElem?_eq_some_iff.1 hk).1; simp [hkl] at hl) ?_
  exact h { w with drawn := w.drawn + 1 } ⟨rfl, rfl, rfl, Nat.le_refl _, fun _ _ => rfl⟩ a ha (Array.replicate ops.length false) _ (by simp [hl]) (fun k hk => by rw [hl] at hk; simp [hk]) (by omega)

/-- An operation that looks at no memory, though others need not wait for it. -/
theorem RW.pure {E : Env} {w : World} {s : Nat} {o : Oper} {v : Value} (hlex : lexOK ops = true) (hsel : Region.noSelect ops.toArray = true) (hQ : PanQ Q) (ho : ops[s]? = some o) (hd : okDst N o.dst = true) (hgu : o.guard = none) (hnc : ∀ c, o.op ≠ .call c)
    (hrun : ∀ a w, Fit N ds E a → (execOp a.eval o).run P w = .ok (.value v) w) (next : RW P none Q N ds ops (s + 1) (ins E o.dst none v) w) : RW P none Q N ds ops s E w := by
  have hsl : s < ops.length := (List.getElem?_eq_some_iff.1 ho).1
  intro a ha listed fuel hsz hls hfu
  obtain ⟨fuel, rfl⟩ : ∃ f, fuel = f + 1 := ⟨fuel - 1, by omega⟩
  have hdeps : ∀ e ∈ o.after, Region.binds .any e = true → listed.getD e.on false = true := by
    intro e he hb
    have := (lexOK_spec hlex ho ho).1 e he hb
    rw [hls e.on (by omega)]
    simp; omega
  have hun : listed.getD s true = false := by
    have h1 := hls s hsl
    have : s < listed.size := by omega
    simp [this] at h1 ⊢; exact h1
  have hr : s ∈ Region.ready .any ops.toArray listed := mem_ready.2 ⟨hun, o, by simpa using ho, hdeps⟩
  refine wpAnyIn_first (v := v) rfl (by simpa using ho) (Region.noSelect_spec hsel) (fun c a w hq => hQ c a _ _ w hq) fuel listed a w (fun j oj hj => free_of_lex hlex ho hdeps j oj (by simpa using hj)) hr
    ⟨.inl ⟨by unfold Region.wanted; rw [hgu], fun w' => hrun a w' ha⟩, fun w' => ?_⟩ ?_
  · unfold Oper.about
    split
    · rename_i c hc; exact absurd hc (hnc c)
    · rfl
  · refine next _ (ha.put hd (fun _ => rfl) (fun h => absurd trivial h)) _ _ (by simp [hsz]) (fun k hk => ?_) (by omega)
    by_cases hks : s = k
    · subst hks
      have : s < listed.size := by omega
      simp [this]
    · rw [getD_set_ne false hks, hls k hk]
      by_cases h1 : k < s
      · simp [h1]; omega
      · simp [h1]; omega
end
end Go.PF
namespace Go.PF
open Go.RowKit
theorem Sats.six {e1 e2 e3 e4 e5 e6 : Ent} {vs : List Value} {w : World} (h : Sats [e1, e2, e3, e4, e5, e6] vs w) : ∃ a b c d e f, vs = [a, b, c, d, e, f] ∧ e1.sat a w ∧ e2.sat b w ∧ e3.sat c w ∧ e4.sat d w ∧ e5.sat e w ∧ e6.sat f w := by
  match vs, h with
  | [a, b, c, d, e, f], ⟨h1, h2, h3, h4, h5, h6, _⟩ => exact ⟨a, b, c, d, e, f, rfl, h1, h2, h3, h4, h5, h6⟩
theorem Sats.seven {e1 e2 e3 e4 e5 e6 e7 : Ent} {vs : List Value} {w : World} (h : Sats [e1, e2, e3, e4, e5, e6, e7] vs w) : ∃ a b c d e f g, vs = [a, b, c, d, e, f, g] ∧ e1.sat a w ∧ e2.sat b w ∧ e3.sat c w ∧ e4.sat d w ∧ e5.sat e w ∧ e6.sat f w ∧ e7.sat g w := by
  match vs, h with
  | [a, b, c, d, e, f, g], ⟨h1, h2, h3, h4, h5, h6, h7, _⟩ => exact ⟨a, b, c, d, e, f, g, rfl, h1, h2, h3, h4, h5, h6, h7⟩
/-- a variable made somewhere in a drawn region -/
def Made (w0 : World) (t : TypeId) (cs : List Value) (v : Value) (w : World) : Prop := ∃ g, v = .pointer (some ⟨g, 0, none⟩) ∧ w0.heap.size ≤ g ∧ Blk w g t cs
theorem Made.mono (w0 : World) (t : TypeId) (cs : List Value) : Ent.mono (.pr (Made w0 t cs)) := fun _ _ _ hb ⟨g, hv, hg, hB⟩ => ⟨g, hv, hg, hB.next hb⟩
theorem DW.allocP {P : Program} {N : Nat} {ds : List Deferred} {ops rest : List Oper} {D : DE} {w : World} {Fin : DE → Prop} {d : Option Tmp} {ty : TypeId} {pos : String} {af : Array Edge} {t : TypeId} {cs : List Value} (hd : okDst N d = true) (hz : zeroCells P t = some cs)
    (next : DW P N ds .weak ops w Fin rest (dins D d none (.pr (Made w t cs)))) : DW P N ds .weak ops w Fin (⟨d, .alloc t, ty, pos, af, none⟩ :: rest) D := by
  refine DW.gen (G := none) rfl hd rfl (Made.mono w t cs) (fun hG a w' hb ha => ?_) next
  refine ⟨.pointer (some ⟨w'.heap.size, 0, none⟩), w'.alloc (.cells cs.toArray t), ?_, below_alloc w' _, w'.heap.size, rfl, hb.size, Blk.new w' t cs⟩
  unfold zeroCells at hz
  cases hi : P.info? t with
  | none => simp [hi] at hz
  | some i =>
    cases hzz : i.zero with
    | none => simp [hi, hzz] at hz
    | some zv =>
      simp [hi, hzz] at hz
      simp [execOp, Instr.alloc, zeroValue, typeInfo, hi, hzz, Go.newVar, newRow, ← hz]
end Go.PF
namespace Go.PF
open Go.RowKit
/-- 's[i] = v', s the call's own, elements of one cell -/
theorem TW.storeRow1 {P : Program} {r : Option Nat} {Q : Exit → Act → World → Prop} {N : Nat} {ds : List Deferred} {ops rest : List Oper} {E : Env} {w : World} {ty : TypeId} {pos : String} {af : Array Edge} {gu : Option (Nat × Bool)} {x y : Operand}
    {t e : TypeId} {n c g j : Nat} {xs : List Value} {u : Value} (hg : gu = none) (hs : (P.info? t).map (·.size) = some 1) (hx : ev E x = some (none, .pointer (some (Addr.add ⟨g, 0, none⟩ j)))) (hy : ev E y = some (none, u)) (hown : OwnS w e 1 (.slice (some ⟨g, 0, none⟩) n c) n xs)
    (hj : j < xs.length) (h1 : u.oneCell' = true) (next : ∀ w', OwnS w' e 1 (.slice (some ⟨g, 0, none⟩) n c) n (xs.set j u) → But g w w' → w'.heap.size = w.heap.size → TW P r Q N ds ops rest E w') : TW P r Q N ds ops (⟨none, .store t x y, ty, pos, af, gu⟩ :: rest) E w := by
  obtain ⟨A, cap, hv, _, _, hc⟩ := hown.form
  obtain ⟨g', hA, hown', hcell, hfr⟩ := hc j xs[j] (List.getElem?_eq_getElem hj)
  simp [Value.ownBlock] at hown'
  subst hown'
  refine TW.store1 hg hs hx hy (by rw [addr0]; exact hcell) (by rw [addr0]; exact hfr) h1 ?_
  rw [addr0]
  exact next _ (hown.set rfl hj u) (grown_setCell w g _ u) (by simp)
/-- the cell of an owned row of cells -/
theorem OwnS.cell1 {w : World} {e : TypeId} {n c g j : Nat} {xs : List Value} {u : Value} (h : OwnS w e 1 (.slice (some ⟨g, 0, none⟩) n c) n xs) (hj : xs[j]? = some u) : w.cell? (Addr.add ⟨g, 0, none⟩ j) = some u := by
  obtain ⟨A, cap, hv, _, _, hc⟩ := h.form
  obtain ⟨g', hA, hown', hcell, hfr⟩ := hc j u hj
  simp [Value.ownBlock] at hown'
  subst hown'
  rw [addr0]
  exact hcell
theorem OwnS.addr {w : World} {e : TypeId} {n c : Nat} {A : Option Addr} {xs : List Value} (h : OwnS w e 1 (.slice A n c) n xs) (hn : 0 < xs.length) : ∃ g, A = some ⟨g, 0, none⟩ := by
  obtain ⟨A', cap, hv, _, _, hc⟩ := h.form
  obtain ⟨g', hA, _⟩ := hc 0 xs[0] (List.getElem?_eq_getElem hn)
  simp only [Value.slice.injEq] at hv
  rw [hv.1, hA]
  exact ⟨g', rfl⟩
end Go.PF

/- Owned rows whose cells stand for data, read as lists; predicates handed over as functions. -/
namespace Go.PF
open Go.RowKit
variable {α : Type}

theorem flatP_at (n : Nat) : ∀ (ps : List (List Value × α)), (∀ p ∈ ps, p.1.length = n) → ∀ (i j : Nat) (p : List Value × α), ps[i]? = some p → j < n → (ps.flatMap (·.1))[i * n + j]? = p.1[j]? :=
  fun ps h i j p hp hj => flat_at (fun p : List Value × α => p.1) n ps h i j p hp hj

/-- An owned row read as a list: the cells of each element are at hand. -/
theorem OwnS.toSLp {T : Ty α} {F : Nat → Prop} {w : World} {e : TypeId} {v : Value} {n : Nat} (ps : List (List Value × α)) (hr : ∀ p ∈ ps, T.rep F w p.1 p.2) (h0 : 0 < T.n) (h : OwnS w e T.n v n (ps.flatMap (·.1))) (hn : n = ps.length) (hF : ∀ g, v.ownBlock = some g → F g) (hb : ps.length ≤ 9223372036854775807) : SL T F w v (ps.map (·.2)) := by
  subst hn
  have hlen : ∀ p ∈ ps, p.1.length = T.n := fun p hp => T.len _ _ _ _ (hr p hp)
  obtain ⟨A, cap, hv, h1, h2, h3⟩ := h.form
  refine ⟨A, cap, by simpa using hv, by simpa using h1, by simpa using hb, fun i x hx => ?_⟩
  have hi : i < ps.length := by have := (List.getElem?_eq_some_iff.1 hx).1; simpa using this
  have hpi : ps[i]? = some ps[i] := List.getElem?_eq_getElem hi
  have hx' : ps[i].2 = x := by simp [hpi] at hx; exact hx
  have hl := hlen _ (List.getElem_mem hi)
  obtain ⟨u0, hu0⟩ : ∃ u, ps[i].1[0]? = some u := ⟨ps[i].1[0]'(by omega), List.getElem?_eq_getElem (by omega)⟩
  have h00 := flatP_at T.n ps hlen i 0 _ hpi h0
  rw [hu0] at h00
  obtain ⟨g, hA, hown, _⟩ := h3 _ _ h00
  refine ⟨⟨g, 0, none⟩, ps[i].1, hA, hF g hown, fun j u hj => ?_, by rw [← hx']; exact hr _ (List.getElem_mem hi)⟩
  have hjn : j < T.n := by rw [← hl]; exact (List.getElem?_eq_some_iff.1 hj).1
  obtain ⟨g', hA', _, hc, _⟩ := h3 (i * T.n + j) u (by rw [flatP_at T.n ps hlen i j _ hpi hjn]; exact hj)
  rw [hA] at hA'
  simp only [Option.some.injEq, Addr.mk.injEq] at hA'
  obtain ⟨rfl, _, _⟩ := hA'
  rw [add_add, addr0]
  exact hc

/-- What is read lies in blocks that are there, and in those of F. -/
structure Ty.Nb {α : Type} (T : Ty α) : Prop where
  pos : 0 < T.n
  nb : ∀ F w cs x, T.rep F w cs x → T.rep (fun k => F k ∧ k < w.heap.size) w cs x
theorem Ty.Nb.now {T : Ty α} (h : T.Nb) : T.Now := ⟨h.pos, fun F w cs x hr => T.wider _ _ _ _ _ (fun _ hb => hb.2) (h.nb F w cs x hr)⟩
theorem intT_nb : Ty.Nb intT := ⟨by decide, fun _ _ _ _ h => h⟩
theorem SL.nb {T : Ty α} (hT : T.Nb) {F : Nat → Prop} {w : World} {v : Value} {l : List α} (h : SL T F w v l) : SL T (fun k => F k ∧ k < w.heap.size) w v l := by
  obtain ⟨A, cap, rfl, h1, h2, h3⟩ := h
  refine ⟨A, cap, rfl, h1, h2, fun i x hx => ?_⟩
  obtain ⟨ad, cs, ha, hF, hc, hr⟩ := h3 i x hx
  refine ⟨ad, cs, ha, ⟨hF, ?_⟩, hc, hT.nb _ _ _ _ hr⟩
  have hl := T.len _ _ _ _ hr
  have h0 : 0 < cs.length := by rw [hl]; exact hT.pos
  have := block_lt_of_cell (hc 0 cs[0] (List.getElem?_eq_getElem h0))
  rwa [add_block, add_block] at this
theorem sliceT_nb {T : Ty α} (hT : T.Nb) : Ty.Nb (sliceT T) := ⟨by show 0 < 1; decide, fun F w cs x ⟨v, h1, h2⟩ => ⟨v, h1, SL.nb hT h2⟩⟩

/-- the blocks of before, but the row's own -/
def RowF (w : World) (v : Value) (k : Nat) : Prop := k < w.heap.size ∧ v.ownBlock ≠ some k
/-- An owned row, made by the call: its elements stand for data that lies apart from it. -/
def RowL (T : Ty α) (w : World) (e : TypeId) (b : Nat) (v : Value) (ps : List (List Value × α)) : Prop := OwnS w e T.n v ps.length (ps.flatMap (·.1)) ∧ (∀ p ∈ ps, T.rep (RowF w v) w p.1 p.2) ∧ ∀ g, v.ownBlock = some g → b ≤ g
theorem RowL.nil (T : Ty α) (w : World) (e : TypeId) (b : Nat) : RowL T w e b (.slice none 0 0) [] := ⟨OwnS.nil _ _ _, (fun p hp => by cases hp), fun g h => by simp [Value.ownBlock] at h⟩
theorem RowL.big {T : Ty α} {w : World} {e : TypeId} {b : Nat} {v : Value} {ps : List (List Value × α)} (h : RowL T w e b v ps) : ps.length ≤ 9223372036854775807 := by
  rcases h.1.2 with ⟨rfl, h0⟩ | ⟨g, cap, cur, hv, hg, hh, ha, hb, hc, hd⟩
  · omega
  · simp only [maxLen] at hb
    omega
theorem RowL.sl {T : Ty α} (h0 : 0 < T.n) {w : World} {e : TypeId} {b : Nat} {v : Value} {ps : List (List Value × α)} (h : RowL T w e b v ps) : SL T (fun k => k < w.heap.size) w v (ps.map (·.2)) :=
  OwnS.toSLp ps (fun p hp => T.wider _ _ _ _ _ (fun _ hb => hb.1) (h.2.1 p hp)) h0 h.1 rfl (fun g hg => h.1.lt hg) h.big
theorem RowL.form {T : Ty α} {w : World} {e : TypeId} {b : Nat} {v : Value} {ps : List (List Value × α)} (h : RowL T w e b v ps) : ∃ A cap, v = .slice A ps.length cap := by
  obtain ⟨A, cap, hv, _⟩ := h.1.form
  exact ⟨A, cap, hv⟩
theorem RowL.step {T : Ty α} {w w' : World} {e : TypeId} {b : Nat} {v : Value} {ps : List (List Value × α)} (h : RowL T w e b v ps) (hb : Below w.heap.size w w') : RowL T w' e b v ps :=
  ⟨h.1.below hb, fun p hp => T.wider _ _ _ _ _ (fun k hk => ⟨Nat.lt_of_lt_of_le hk.1 hb.size, hk.2⟩) (T.mono _ _ _ _ _ (Kept.of_below hb) (h.2.1 p hp)), h.2.2⟩
theorem RowL.less {T : Ty α} {w : World} {e : TypeId} {b b' : Nat} {v : Value} {ps : List (List Value × α)} (h : RowL T w e b v ps) (hb : b' ≤ b) : RowL T w e b' v ps := ⟨h.1, h.2.1, fun g hg => Nat.le_trans hb (h.2.2 g hg)⟩
theorem RowL.app {T : Ty α} {w w' : World} {e : TypeId} {b : Nat} {v v' : Value} {ps : List (List Value × α)} {cs : List Value} {x : α} (h : RowL T w e b v ps) (hO : OwnS w' e T.n v' (ps.length + 1) (ps.flatMap (·.1) ++ cs)) (hg : w.grownBy w' v.ownBlock) (hn : v'.ownBlock = v.ownBlock ∨ v'.ownBlock = some w.heap.size)
    (hr : T.rep (RowF w v) w cs x) (hb : b ≤ w.heap.size) : RowL T w' e b v' (ps ++ [(cs, x)]) := by
  have hk : Kept (RowF w v) w w' := Kept.of_blocks fun k hk hlt => hg.block k hlt (fun e => hk.2 e.symm)
  have hw : ∀ k, RowF w v k → RowF w' v' k := fun k hk => ⟨Nat.lt_of_lt_of_le hk.1 hg.size, fun e => by
    rcases hn with h' | h'
    · exact hk.2 (by rw [← h']; exact e)
    · rw [h'] at e; cases e; exact absurd hk.1 (Nat.lt_irrefl _)⟩
  refine ⟨by rw [List.flatMap_append, List.length_append]; simpa using hO, fun p hp => ?_, fun q hq => ?_⟩
  · rcases List.mem_append.1 hp with hp | hp
    · exact T.wider _ _ _ _ _ hw (T.mono _ _ _ _ _ hk (h.2.1 p hp))
    · rw [List.mem_singleton] at hp
      subst hp
      exact T.wider _ _ _ _ _ hw (T.mono _ _ _ _ _ hk hr)
  · rcases hn with h' | h'
    · exact h.2.2 q (by rw [← h']; exact hq)
    · rw [h'] at hq; cases hq; exact hb

/-- a function value that answers p of a number, in whatever world that extends w -/
def PredI (P : Program) (w : World) (k : FuncId) (caps : List Value) (p : Int → Bool) : Prop := ∀ x w', Below w.heap.size w w' → Gives P k (.int .i64 x :: caps).toArray w' fun u w'' => Below w'.heap.size w' w'' ∧ u = .bool (p x)
theorem PredI.step {P : Program} {w w' : World} {k : FuncId} {caps : List Value} {p : Int → Bool} (h : PredI P w k caps p) (hb : Below w.heap.size w w') : PredI P w' k caps p := fun x w2 h2 => h x w2 (hb.step h2)
end Go.PF

/- The cells of a slice, one after another: what an append of a whole slice copies. -/
namespace Go.PF
open Go.RowKit
variable {α : Type}

theorem len_flat {β : Type} (f : β → List Value) (n : Nat) : ∀ (ps : List β), (∀ p ∈ ps, (f p).length = n) → (ps.flatMap f).length = ps.length * n
  | [], _ => by simp
  | p :: ps, h => by
    rw [List.flatMap_cons, List.length_append, len_flat f n ps (fun q hq => h q (List.mem_cons_of_mem _ hq)), h p (List.mem_cons_self ..), List.length_cons, Nat.add_mul]
    omega
theorem SL.flat {T : Ty α} (h0 : 0 < T.n) {F : Nat → Prop} {w : World} {A : Option Addr} {n cap : Nat} {l : List α} (h : SL T F w (.slice A n cap) l) :
    ∃ ps : List (List Value × α), ps.map (·.2) = l ∧ (∀ p ∈ ps, T.rep F w p.1 p.2) ∧ (ps.flatMap (·.1)).length = n * T.n ∧ ∀ j u, (ps.flatMap (·.1))[j]? = some u → ∃ ad, A = some ad ∧ w.cell? (ad.add j) = some u := by
  obtain ⟨A', cap', hv, h1, h2, h3⟩ := h
  simp only [Value.slice.injEq] at hv
  obtain ⟨rfl, rfl, rfl⟩ := hv
  have key : ∀ (k : Nat), k ≤ l.length → ∃ ps : List (List Value × α), ps.map (·.2) = l.take k ∧ (∀ p ∈ ps, T.rep F w p.1 p.2) ∧ ∀ i p, ps[i]? = some p → ∃ ad, A = some ad ∧ ∀ j u, p.1[j]? = some u → w.cell? ((ad.add (i * T.n)).add j) = some u := by
    intro k
    induction k with
    | zero => exact fun _ => ⟨[], by simp, (fun p hp => by cases hp), (fun i p hp => by simp at hp)⟩
    | succ k ih =>
      intro hk
      obtain ⟨ps, q1, q2, q3⟩ := ih (by omega)
      have hx : l[k]? = some l[k] := List.getElem?_eq_getElem (by omega)
      obtain ⟨ad, cs, ha, _, hc, hr⟩ := h3 k _ hx
      have hpl : ps.length = k := by have := congrArg List.length q1; simp at this; omega
      refine ⟨ps ++ [(cs, l[k])], by rw [List.map_append, q1, List.take_add_one, hx]; rfl, fun p hp => ?_, fun i p hp => ?_⟩
      · rcases List.mem_append.1 hp with hp | hp
        · exact q2 p hp
        · rw [List.mem_singleton] at hp; subst hp; exact hr
      · rcases Nat.lt_trichotomy i k with hi | hi | hi
        · rw [List.getElem?_append_left (by omega)] at hp
          exact q3 i p hp
        · rw [List.getElem?_append_right (by omega), hpl, hi] at hp
          simp at hp
          subst hp
          subst hi
          exact ⟨ad, ha, hc⟩
        · rw [List.getElem?_eq_none (by simp; omega)] at hp
          cases hp
  obtain ⟨ps, q1, q2, q3⟩ := key l.length (Nat.le_refl _)
  rw [List.take_length] at q1
  have hlen : ∀ p ∈ ps, p.1.length = T.n := fun p hp => T.len _ _ _ _ (q2 p hp)
  have hpl : ps.length = l.length := by rw [← q1]; simp
  have hfl : (ps.flatMap (·.1)).length = ps.length * T.n := by
    exact len_flat (fun p : List Value × α => p.1) T.n ps hlen
  refine ⟨ps, q1, q2, by rw [hfl, hpl], fun j u hj => ?_⟩
  have hjl : j < ps.length * T.n := by rw [← hfl]; exact (List.getElem?_eq_some_iff.1 hj).1
  have hd := Nat.div_add_mod' j T.n
  have hm := Nat.mod_lt j h0
  have hi : j / T.n < ps.length := (Nat.div_lt_iff_lt_mul h0).2 hjl
  have hp : ps[j / T.n]? = some ps[j / T.n] := List.getElem?_eq_getElem hi
  have hf := flatP_at T.n ps hlen (j / T.n) (j % T.n) _ hp hm
  rw [hd, hj] at hf
  obtain ⟨ad, ha, hc⟩ := q3 _ _ hp
  refine ⟨ad, ha, ?_⟩
  have := hc (j % T.n) u hf.symm
  rwa [add_add, hd] at this

theorem SL.takeS {T : Ty α} {F : Nat → Prop} {w : World} {A : Option Addr} {n c : Nat} {l : List α} (h : SL T F w (.slice A n c) l) {i : Nat} (hi : i ≤ l.length) : SL T F w (.slice A i c) (l.take i) := by
  obtain ⟨A', cap', hv, h1, h2, h3⟩ := h
  simp only [Value.slice.injEq] at hv
  obtain ⟨rfl, rfl, rfl⟩ := hv
  refine ⟨A, c, by simp [Nat.min_eq_left hi], by simp; omega, by simp; omega, fun k x hx => ?_⟩
  rw [List.getElem?_take] at hx
  split at hx
  · exact h3 k x hx
  · cases hx

/-- every cell of T's is one cell -/
def Ty.One (T : Ty α) : Prop := ∀ F w cs x, T.rep F w cs x → ∀ u ∈ cs, Value.oneCell' u = true
theorem intT_one : Ty.One intT := fun _ _ _ _ h u hu => by rw [h.1] at hu; simp at hu; subst hu; rfl
theorem boolT_one : Ty.One boolT := fun _ _ _ _ h u hu => by rw [h] at hu; simp at hu; subst hu; rfl
theorem sliceT_one (T : Ty α) : Ty.One (sliceT T) := fun _ _ _ _ ⟨_, h, A, cap, hv, _⟩ u hu => by rw [h] at hu; simp at hu; subst hu; rw [hv]; rfl
theorem one_flat {T : Ty α} (hT : T.One) {F : Nat → Prop} {w : World} {ps : List (List Value × α)} (h : ∀ p ∈ ps, T.rep F w p.1 p.2) : ∀ u ∈ ps.flatMap (·.1), Value.oneCell' u = true := fun u hu => by
  obtain ⟨p, hp, hup⟩ := List.mem_flatMap.1 hu
  exact hT _ _ _ _ (h p hp) u hup

/-- A row made by appending slices, read as the lists one after another: 'b': what is older has not turned. -/
theorem OwnS.toSLn {T : Ty α} (h0 : 0 < T.n) {w0 w : World} {e : TypeId} {v : Value} {n : Nat} {F : Nat → Prop} (hb : Below w0.heap.size w0 w) {ps : List (List Value × α)} (hr : ∀ p ∈ ps, T.rep F w0 p.1 p.2) (h : OwnS w e T.n v n (ps.flatMap (·.1))) (hn : n = ps.length) (hbig : ps.length ≤ 9223372036854775807) :
    SL T (fun k => F k ∨ v.ownBlock = some k) w v (ps.map (·.2)) :=
  OwnS.toSLp ps (fun p hp => T.wider _ _ _ _ _ (fun _ hk => .inl hk) (T.mono _ _ _ _ _ (Kept.of_below hb) (hr p hp))) h0 h hn (fun _ hg => .inr hg) hbig

theorem look_app : ∀ {E E' : Env} {i : Nat} {c : Option Bool} {v : Value}, look (E ++ E') i = some (c, v) → look E i = some (c, v) ∨ look E' i = some (c, v)
  | [], _, _, _, _, h => .inr h
  | (j, c0, v0) :: E, E', i, c, v, h => by
    simp only [List.cons_append, look] at h ⊢
    by_cases hi : j = i
    · subst hi
      rw [beq_self] at h ⊢
      exact .inl h
    · rw [beq_ne hi] at h ⊢
      exact look_app h
/-- The region's end: slots whose values are known, and slots of which something is known. -/
theorem DW.finX {N : Nat} {ds : List Deferred} {D : DE} {w : World} {K : Act → World → Prop} (ks : List Nat) (E : Env) (hE : dpick D ks = some E) (is : List Nat) {es : List Ent} (hp : dsel D is = some es) (h : ∀ vs w', Below w.heap.size w w' → Sats es vs w' → KW N ds K (E ++ zipE is vs) w') :
    ∀ a w', Below w.heap.size w w' → FitD N ds D a w' → K a w' :=
  fun a w' hb ha => h _ w' hb (ha.sel hp) a ⟨ha.size, ha.defers, fun i c v hl => (look_app hl).elim ((ha.pick hE).slots i c v) ((ha.zip is).slots i c v)⟩

/-! ### conditions that are known to hold -/
def sureC : Option Bool → Option Bool
  | some true => none
  | c => c
def sure : Env → Env
  | [] => []
  | (i, c, v) :: E => (i, sureC c, v) :: sure E
theorem sureC_iff (c : Option Bool) : Cnd (sureC c) ↔ Cnd c := by
  rcases c with _ | _ | _ <;> simp [sureC, Cnd]
theorem look_sure : ∀ {E : Env} {i : Nat} {c : Option Bool} {v : Value}, look (sure E) i = some (c, v) → ∃ c', look E i = some (c', v) ∧ sureC c' = c
  | [], _, _, _, h => by cases h
  | (j, c0, v0) :: E, i, c, v, h => by
    simp only [sure, look] at h ⊢
    by_cases hi : j = i
    · subst hi
      rw [beq_self] at h ⊢
      simp only [Option.some.injEq, Prod.mk.injEq] at h ⊢
      obtain ⟨h1, h2⟩ := h
      exact ⟨c0, ⟨rfl, h2⟩, h1⟩
    · rw [beq_ne hi] at h ⊢
      exact look_sure h
theorem Fit.sure {N : Nat} {ds : List Deferred} {E : Env} {a : Act} (h : Fit N ds E a) : Fit N ds (PF.sure E) a :=
  ⟨h.size, h.defers, fun i c v hl => by
    obtain ⟨c', h1, rfl⟩ := look_sure hl
    rw [sureC_iff]
    exact h.slots i c' v h1⟩
theorem TW.sure {P : Program} {r : Option Nat} {Q : Exit → Act → World → Prop} {N : Nat} {ds : List Deferred} {ops rest : List Oper} {E : Env} {w : World} (h : TW P r Q N ds ops rest (PF.sure E) w) : TW P r Q N ds ops rest E w := fun a ha => h a ha.sure
end Go.PF
