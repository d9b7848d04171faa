/- Texts joined: Str Now Dec Bits Evs Rs Vt Vr Vc Xa. -/
import Derived.Test.YthjcgmjcpmodlaaDoorQB
import Derived.Scope
import Derived.Laws.IdiomStrings
import Derived.Laws.Strings3
import Derived.Laws.Runes
import Derived.DataElems
import Derived.Test.YthjcgmjcpmodlaaDoorQA
import Derived.Laws.MakeOwn
set_option linter.unusedSimpArgs false
set_option linter.unusedVariables false

/- Rules on strings and bytes; slicing; arrays; scopes; what a region's own mode needs. -/
namespace Go.PF
open Go.RowKit

theorem wrap8_fits {z : Int} (h : 0 ≤ z ∧ z ≤ 255) : IntKind.u8.wrap z = z := by
  rw [IntKind.wrap_u8]; omega

section
variable {P : Program} {r : Option Nat} {Q : Exit → Act → World → Prop} {N : Nat} {ds : List Deferred} {ops rest : List Oper} {E : Env} {D : DE} {w : World} {G : Option Bool} {Fin : DE → Prop} {md : Mode}
variable {d : Option Tmp} {ty : TypeId} {pos : String} {af : Array Edge} {gu : Option (Nat × Bool)}
variable {x y z : Operand} {cx cy cz : Option Bool} {ρ : Operand → Value}

theorem CW.scope {c : Code} (h : CW P none (Exit.noGoto Q) N ds c E w) : CW P none Q N ds (.scope c) E w := fun a ha => wpIn_wide.2 (wp_scope_straight (wpIn_wide.1 (h a ha)))
theorem CW.label {l : Nat} (h : KW N ds (Q .normal) E w) : CW P r Q N ds (.label l) E w := fun a ha => wpIn_label (h a ha)
theorem KW.scopeN (h : KW N ds (Q .normal) E w) : KW N ds (Exit.noGoto Q .normal) E w := h
theorem KW.scopeX {id : Nat} (h : KW N ds (Q (.exit id)) E w) : KW N ds (Exit.noGoto Q (.exit id)) E w := h
theorem KW.scopeR (h : KW N ds (Q .ret) E w) : KW N ds (Exit.noGoto Q .ret) E w := h
/-- an operation whose guard is known false -/
theorem TW.dead {o : Oper} (v : Value) (hg : gd ops E o.guard = some G) (hn : ¬ Cnd G) (hd : okDst N o.dst = true) (next : TW P r Q N ds ops rest (ins E o.dst G v) w) : TW P r Q N ds ops (o :: rest) E w := by
  intro a ha
  obtain ⟨_, h2⟩ := wanted_of ha hg
  unfold wpListIn
  rw [if_neg (by rw [h2 hn]; simp)]
  exact ⟨fun _ _ => trivial, next _ (ha.put hd (fun h => absurd h hn) (fun _ => rfl))⟩
theorem DW.dead {o : Oper} (v : Value) (hg : dgd ops D o.guard = some G) (hn : ¬ Cnd G) (hd : okDst N o.dst = true) (hno : noDefer o.op = true) (next : DW P N ds md ops w Fin rest (dins D o.dst G (.ex v))) : DW P N ds md ops w Fin (o :: rest) D :=
  DW.val hg hd hno (fun hG => absurd hG hn) next
theorem RW.end {s : Nat} (hs : s = ops.length) (h : KW N ds (Q .normal) E w) : RW P r Q N ds ops s E w := by subst hs; exact RW.nil h
theorem KW.rk {s : Nat} (h : RW P r Q N ds ops s E w) : KW N ds (Exit.then (RK P r Q ops s) Q .normal) E w := h
theorem KW.rk' {s : Nat} (h : RW P r Q N ds ops s E w) : KW N ds (RK P r Q ops s) E w := h

theorem X.sliceH {A : Option Addr} {l c sz : Nat} {k : IntKind} {i : Int} {t e : TypeId} (ht : P.underlying t = some (.slice e)) (hs : (P.info? e).map (·.size) = some sz) (hx : ρ x = .slice A l c) (hy : ρ y = .int k i) (hb : 0 ≤ i ∧ i ≤ (c : Int)) : (execOp ρ ⟨d, .slice t x none (some y) none, ty, pos, af, gu⟩).run P w = .ok (.value (.slice A i.toNat c)) w := by 
    simp only [execOp, Option.map_some, Option.map_none]; rw [hx, hy]
    simp [Instr.sliceAt, Instr.slice, run_underlying ht, Instr.sliceBounds, Instr.sliceBound, asIntOf, hb, run_sizeOf hs]
    intro _
    cases A with
    | none => rfl
    | some a => obtain ⟨b, o, f⟩ := a; cases f <;> simp [Addr.add]
theorem TW.sliceH {A : Option Addr} {l c sz : Nat} {k : IntKind} {i : Int} {t e : TypeId} (hg : gd ops E gu = some G) (hd : okDst N d = true) (ht : P.underlying t = some (.slice e)) (hs : (P.info? e).map (·.size) = some sz) (hx : ev E x = some (cx, .slice A l c)) (ix : Cnd G → Cnd cx) (hy : ev E y = some (cy, .int k i)) (iy : Cnd G → Cnd cy) (hb : Cnd G → 0 ≤ i ∧ i ≤ (c : Int))
    (next : TW P r Q N ds ops rest (ins E d G (.slice A i.toNat c)) w) : TW P r Q N ds ops (⟨d, .slice t x none (some y) none, ty, pos, af, gu⟩ :: rest) E w :=
  TW.val hg hd rfl (fun hG _ ha => X.sliceH ht hs (ha.eval hx (ix hG)) (ha.eval hy (iy hG)) (hb hG)) next
theorem X.sliceL {A : Option Addr} {l c sz : Nat} {k : IntKind} {i : Int} {t e : TypeId} (ht : P.underlying t = some (.slice e)) (hs : (P.info? e).map (·.size) = some sz) (hx : ρ x = .slice A l c) (hy : ρ y = .int k i) (hb : 0 ≤ i ∧ i ≤ (l : Int)) : (execOp ρ ⟨d, .slice t x (some y) none none, ty, pos, af, gu⟩).run P w = .ok (.value (.slice (if c = i.toNat then A else A.map (·.add (i.toNat * sz))) (l - i.toNat) (c - i.toNat))) w := by 
    simp only [execOp, Option.map_some, Option.map_none]; rw [hx, hy]
    simp [Instr.sliceAt, Instr.slice, run_underlying ht, Instr.sliceBounds, Instr.sliceBound, asIntOf, hb, run_sizeOf hs]
theorem DW.sliceL {A : Option Addr} {l c sz : Nat} {k : IntKind} {i : Int} {t e : TypeId} (hg : dgd ops D gu = some G) (hd : okDst N d = true) (ht : P.underlying t = some (.slice e)) (hs : (P.info? e).map (·.size) = some sz) (hx : dev D x = some (cx, .ex (.slice A l c))) (ix : Cnd G → Cnd cx) (hy : dev D y = some (cy, .ex (.int k i))) (iy : Cnd G → Cnd cy) (hb : Cnd G → 0 ≤ i ∧ i ≤ (l : Int))
    (next : DW P N ds md ops w Fin rest (dins D d G (.ex (.slice (if c = i.toNat then A else A.map (·.add (i.toNat * sz))) (l - i.toNat) (c - i.toNat))))) : DW P N ds md ops w Fin (⟨d, .slice t x (some y) none none, ty, pos, af, gu⟩ :: rest) D :=
  DW.val hg hd rfl (fun hG _ _ _ ha => X.sliceL ht hs (ha.eval (o := ⟨d, .slice t x (some y) none none, ty, pos, af, gu⟩) hx (by simp [Op.operands, Call.operands]) (ix hG)) (ha.eval (o := ⟨d, .slice t x (some y) none none, ty, pos, af, gu⟩) hy (by simp [Op.operands, Call.operands]) (iy hG)) (hb hG)) next
theorem X.sliceLH {A : Option Addr} {l c sz : Nat} {k k' : IntKind} {i j : Int} {t e : TypeId} (ht : P.underlying t = some (.slice e)) (hs : (P.info? e).map (·.size) = some sz) (hx : ρ x = .slice A l c) (hy : ρ y = .int k i) (hz : ρ z = .int k' j) (hb : 0 ≤ i ∧ i ≤ j ∧ j ≤ (c : Int)) : (execOp ρ ⟨d, .slice t x (some y) (some z) none, ty, pos, af, gu⟩).run P w = .ok (.value (.slice (if c = i.toNat then A else A.map (·.add (i.toNat * sz))) (j.toNat - i.toNat) (c - i.toNat))) w := by 
    simp only [execOp, Option.map_some, Option.map_none]; rw [hx, hy, hz]
    have h1 : 0 ≤ j := by omega
    have h2 : i ≤ max j 0 := by omega
    simp [Instr.sliceAt, Instr.slice, run_underlying ht, Instr.sliceBounds, Instr.sliceBound, asIntOf, hb, h1, h2, run_sizeOf hs]
theorem DW.sliceLH {A : Option Addr} {l c sz : Nat} {k k' : IntKind} {i j : Int} {t e : TypeId} (hg : dgd ops D gu = some G) (hd : okDst N d = true) (ht : P.underlying t = some (.slice e)) (hs : (P.info? e).map (·.size) = some sz) (hx : dev D x = some (cx, .ex (.slice A l c))) (ix : Cnd G → Cnd cx) (hy : dev D y = some (cy, .ex (.int k i))) (iy : Cnd G → Cnd cy) (hz : dev D z = some (cz, .ex (.int k' j))) (iz : Cnd G → Cnd cz) (hb : Cnd G → 0 ≤ i ∧ i ≤ j ∧ j ≤ (c : Int))
    (next : DW P N ds md ops w Fin rest (dins D d G (.ex (.slice (if c = i.toNat then A else A.map (·.add (i.toNat * sz))) (j.toNat - i.toNat) (c - i.toNat))))) : DW P N ds md ops w Fin (⟨d, .slice t x (some y) (some z) none, ty, pos, af, gu⟩ :: rest) D :=
  DW.val hg hd rfl (fun hG _ _ _ ha => X.sliceLH ht hs (ha.eval (o := ⟨d, .slice t x (some y) (some z) none, ty, pos, af, gu⟩) hx (by simp [Op.operands, Call.operands]) (ix hG)) (ha.eval (o := ⟨d, .slice t x (some y) (some z) none, ty, pos, af, gu⟩) hy (by simp [Op.operands, Call.operands]) (iy hG)) (ha.eval (o := ⟨d, .slice t x (some y) (some z) none, ty, pos, af, gu⟩) hz (by simp [Op.operands, Call.operands]) (iz hG)) (hb hG)) next
/-! ### own mode -/

/-- a row that the region has made -/
def rowE (w0 : World) (e : TypeId) (sz n : Nat) (xs : List Value) : Ent := .own (fun v w => OwnS w e sz v n xs ∧ ∀ g, v.ownBlock = some g → w0.heap.size ≤ g) (fun v g => v.ownBlock = some g)
theorem rowE_strong (w0 : World) (e : TypeId) (sz n : Nat) (xs : List Value) : (rowE w0 e sz n xs).strong w0 :=
  ⟨fun _ _ _ _ hk h => ⟨h.1.kept hk, h.2⟩, fun _ _ h g hg => ⟨h.2 g hg, h.1.lt hg⟩⟩

theorem OW.gen {o : Oper} (e : Ent) (eats : List Nat) (hg : dgd ops D o.guard = some G) (hd : okDst N o.dst = true) (hn : noDefer o.op = true) (hst : e.strong w) (hso : sole ops o eats = true) (heo : ∀ s, s ∈ eats → ∃ c φ S, dlook D s = some (c, .own φ S))
    (hrun : Cnd G → ∀ a w', Below w.heap.size w w' → FitL N ds (o.looksAt ops.toArray) D a w' → ∃ v w'', (execOp a.eval o).run P w' = .ok (.value v) w'' ∧ StepO w w' w'' (EatF D eats a) ∧ e.sat v w'' ∧ ∀ g, e.foot v g → EatF D eats a g ∨ w'.heap.size ≤ g)
    (next : DW P N ds .own ops w Fin rest (dins (ddrop D eats) o.dst G e)) : DW P N ds .own ops w Fin (o :: rest) D :=
  ⟨G, e, eats, ⟨hg, hd, hn, hst, hso, heo, fun hG a w' hb ha => .inl (hrun hG a w' hb ha)⟩, next⟩
theorem OW.enter {o : Oper} (e : Ent) (eats : List Nat) (hg : dgd ops D o.guard = some G) (hd : okDst N o.dst = true) (hn : noDefer o.op = true) (hst : e.strong w) (hso : sole ops o eats = true) (heo : ∀ s, s ∈ eats → ∃ c φ S, dlook D s = some (c, .own φ S))
    (hrun : Cnd G → ∀ a w', Below w.heap.size w w' → FitL N ds (o.looksAt ops.toArray) D a w' → ∃ f vs, (execOp a.eval o).run P w' = .ok (.enter f vs) w' ∧ Gives P f vs w' fun v w'' => StepO w w' w'' (EatF D eats a) ∧ e.sat v w'' ∧ ∀ g, e.foot v g → EatF D eats a g ∨ w'.heap.size ≤ g)
    (next : DW P N ds .own ops w Fin rest (dins (ddrop D eats) o.dst G e)) : DW P N ds .own ops w Fin (o :: rest) D :=
  ⟨G, e, eats, ⟨hg, hd, hn, hst, hso, heo, fun hG a w' hb ha => .inr (hrun hG a w' hb ha)⟩, next⟩

theorem stepO_below {w0 w w' : World} {E : Nat → Prop} (hb : Below w0.heap.size w0 w) (h : Below w.heap.size w w') : StepO w0 w w' E := ⟨h.mono hb.size, fun b _ hb _ => h.block b hb⟩

/-- a slice literal -/
theorem OW.buildSlice {t : TypeId} (e : TypeId) {sz len : Nat} {parts : Array (Nat × Operand)} (xs : List Operand) {vs cs : List Value} (hg : dgd ops D gu = some G) (hd : okDst N d = true) (hp : parts.toList = number xs) (he : elemOK P t e sz = true)
    (hx : DArgs (Oper.looksAt ops.toArray ⟨d, .buildSlice t len parts, ty, pos, af, gu⟩) N ds D G xs vs) (hl : len = vs.length) (hsz : vs.all (fun v => Nat.beq v.cells.size sz) = true) (hsm : Nat.ble (vs.length * sz) 16777216 = true) (hpos : Nat.blt 0 vs.length = true) (hc : (vs.map fun v => v.cells.toList).flatten = cs)
    (next : DW P N ds .own ops w Fin rest (dins D d G (rowE w e sz len cs))) : DW P N ds .own ops w Fin (⟨d, .buildSlice t len parts, ty, pos, af, gu⟩ :: rest) D := by
  subst hl
  have hv' : ∀ v ∈ vs, v.cells.size = sz := fun v hm => Nat.eq_of_beq_eq_true (List.all_eq_true.1 hsz v hm)
  have hcl : cs.length = vs.length * sz := by
    have key : ∀ us : List Value, (∀ v ∈ us, v.cells.size = sz) → ((us.map fun v => v.cells.toList).flatten).length = us.length * sz := by
      intro us
      induction us with
      | nil => simp
      | cons v us ih =>
        intro h
        have h1 := h v (by simp)
        have h2 := ih (fun u hu => h u (by simp [hu]))
        simp only [List.map_cons, List.flatten_cons, List.length_append, List.length_cons, h2, Array.length_toList, h1]
        rw [Nat.succ_mul]; omega
    rw [← hc]; exact key vs hv'
  have hfl : vs.flatMap (fun v => v.cells.toList) = cs := by rw [← hc]; simp [List.flatMap]
  refine OW.gen (rowE w e sz vs.length cs) [] hg hd rfl (rowE_strong _ _ _ _ _) rfl (fun s hs => by simp at hs) (fun hG a w' hb ha => ?_) (by rw [ddrop_nil]; exact next)
  refine ⟨_, _, X.buildSlice hp rfl he (hx (fun t ht => mem_looks ?_) a w' ha hG) hv' (Nat.le_of_ble_eq_true hsm) (blt_iff.1 hpos), stepO_below hb ((Below.refl _ _).alloc (Nat.le_refl _) _), ⟨?_, ?_⟩, ?_⟩
  · simp only [Op.operands]
    rw [hp]
    simp only [number, List.map_map]
    rw [List.mem_map]
    obtain ⟨j, hj, he⟩ := List.getElem_of_mem ht
    exact ⟨(Operand.tmp t, j), by rw [List.mem_zipIdx_iff_getElem?]; simp [he.symm], rfl⟩
  · rw [hfl]
    refine OwnS.of_blk (Blk.new w' e cs) hcl ?_
    have h1 := Nat.le_of_ble_eq_true hsm
    obtain ⟨_, _, _, _, _, _, _, h0⟩ := elemOK_spec he
    have : vs.length ≤ vs.length * sz := Nat.le_mul_of_pos_right _ h0
    omega
  · intro g hg
    simp [Value.ownBlock] at hg
    subst hg
    exact hb.size
  · intro g hg
    simp [Ent.foot, rowE, Value.ownBlock] at hg
    exact .inr (by omega)

theorem OW.buildSlice0 {t : TypeId} (e : TypeId) {sz : Nat} (hg : dgd ops D gu = some G) (hd : okDst N d = true) (he : elemOK P t e sz = true)
    (next : DW P N ds .own ops w Fin rest (dins D d G (rowE w e sz 0 []))) : DW P N ds .own ops w Fin (⟨d, .buildSlice t 0 #[], ty, pos, af, gu⟩ :: rest) D := by
  obtain ⟨i, zv, hu, hi, hz, rfl, hzs, hs⟩ := elemOK_spec he
  refine OW.gen (rowE w e i.size 0 []) [] hg hd rfl (rowE_strong _ _ _ _ _) rfl (fun s hs => by simp at hs) (fun hG a w' hb ha => ?_) (by rw [ddrop_nil]; exact next)
  refine ⟨.slice (some ⟨w'.heap.size, 0, none⟩) 0 0, w'.alloc (.cells [].toArray e), ?_, stepO_below hb ((Below.refl _ _).alloc (Nat.le_refl _) _), ⟨?_, ?_⟩, ?_⟩
  · simp [execOp, Instr.buildSlice, run_underlying hu, sizeOf, typeInfo, hi, Instr.fill, newRow, Array.range_zero']
  · exact OwnS.of_blk (Blk.new w' e []) (by simp) (by omega)
  · intro g hg
    simp [Value.ownBlock] at hg
    subst hg
    exact hb.size
  · intro g hg
    simp [Ent.foot, rowE, Value.ownBlock] at hg
    exact .inr (by omega)

/-- append onto a row that the region has made -/
theorem OW.appendG {t e : TypeId} {sz bytes n m : Nat} {st : Tmp} {xs : List Value} (news : List Value) (hg : dgd ops D gu = some G) (hd : okDst N d = true) (ho : growOK P t e sz bytes = true) (hs : dlook D st = some (none, rowE w e sz n xs)) (hso : sole ops ⟨d, .call ⟨.builtin .append, #[.tmp st, x], #[t, t]⟩, ty, pos, af, gu⟩ [st] = true)
    (hx : Cnd G → ∀ a w', Below w.heap.size w w' → FitL N ds (Oper.looksAt ops.toArray ⟨d, .call ⟨.builtin .append, #[.tmp st, x], #[t, t]⟩, ty, pos, af, gu⟩) D a w' → ∃ A c, a.eval x = .slice A m c ∧ ∀ j u, news[j]? = some u → ∃ ad, A = some ad ∧ w'.cell? (ad.add j) = some u)
    (hl : news.length = m * sz) (h1 : ∀ u ∈ news, u.oneCell' = true) (hb : (n + m) * bytes ≤ 140737488355328) (hb0 : 1 ≤ bytes)
    (next : DW P N ds .own ops w Fin rest (dins (ddrop D [st]) d G (rowE w e sz (n + m) (xs ++ news)))) : DW P N ds .own ops w Fin (⟨d, .call ⟨.builtin .append, #[.tmp st, x], #[t, t]⟩, ty, pos, af, gu⟩ :: rest) D := by
  refine OW.gen (rowE w e sz (n + m) (xs ++ news)) [st] hg hd rfl (rowE_strong _ _ _ _ _) hso (fun s hs' => ⟨none, _, _, by simp at hs'; subst hs'; exact hs⟩) (fun hG a w' hb' ha => ?_) next
  have hst : OwnS w' e sz (a.eval (.tmp st)) n xs ∧ ∀ g, (a.eval (.tmp st)).ownBlock = some g → w.heap.size ≤ g :=
    (ha.slots st (mem_looks (o := ⟨d, .call ⟨.builtin .append, #[.tmp st, x], #[t, t]⟩, ty, pos, af, gu⟩) (by simp [Op.operands, Call.operands])) none _ hs).1 trivial
  obtain ⟨A, c, hev, hcell⟩ := hx hG a w' hb' ha
  obtain ⟨v', w'', a1, a2, a3, a5⟩ := append_run (ty := ty) (c := c) ho hst.1 hl hcell h1 hb hb0
  refine ⟨v', w'', ?_, ⟨?_, ?_⟩, ⟨a2, ?_⟩, ?_⟩
  · simp only [execOp, resolve, invoke, builtin, Sem.run_bind, Sem.run_pure, Result.andThen_ok, List.map_toArray, List.map_cons, List.map_nil, hev, a1]
  · exact (Below.refl _ _).grown a3 hb'.size hst.2
  · intro b hb1 hb2 hE
    refine a3.block b hb2 (fun h => hE ⟨st, none, _, by simp [hasN, beq_self], hs, trivial, ?_⟩)
    exact h.symm
  · intro g hg
    rcases a5 with h | h
    · exact hst.2 g (by rw [← h]; exact hg)
    · rw [hg] at h; simp at h; have := hb'.size; omega
  · intro g hg
    rcases a5 with h | h
    · exact .inl ⟨st, none, _, by simp [hasN, beq_self], hs, trivial, by show (a.eval (.tmp st)).ownBlock = some g; rw [← h]; exact hg⟩
    · have hg : v'.ownBlock = some g := hg
      rw [hg] at h; simp at h; exact .inr (by omega)

/-- .. of what lies in old memory -/
theorem OW.append {t e : TypeId} {sz bytes n m c : Nat} {st : Tmp} {xs : List Value} {A : Option Addr} (news : List Value) (hg : dgd ops D gu = some G) (hd : okDst N d = true) (ho : growOK P t e sz bytes = true) (hs : dlook D st = some (none, rowE w e sz n xs)) (hso : sole ops ⟨d, .call ⟨.builtin .append, #[.tmp st, x], #[t, t]⟩, ty, pos, af, gu⟩ [st] = true)
    (hx : dev D x = some (cx, .ex (.slice A m c))) (ix : Cnd G → Cnd cx) (hn : ∀ j u, news[j]? = some u → ∃ ad, A = some ad ∧ w.cell? (ad.add j) = some u)
    (hl : news.length = m * sz) (h1 : ∀ u ∈ news, u.oneCell' = true) (hb : (n + m) * bytes ≤ 140737488355328) (hb0 : 1 ≤ bytes)
    (next : DW P N ds .own ops w Fin rest (dins (ddrop D [st]) d G (rowE w e sz (n + m) (xs ++ news)))) : DW P N ds .own ops w Fin (⟨d, .call ⟨.builtin .append, #[.tmp st, x], #[t, t]⟩, ty, pos, af, gu⟩ :: rest) D :=
  OW.appendG news hg hd ho hs hso (fun hG a w' hb' ha => ⟨A, c, ha.eval (o := ⟨d, .call ⟨.builtin .append, #[.tmp st, x], #[t, t]⟩, ty, pos, af, gu⟩) hx (by simp [Op.operands, Call.operands]) (ix hG), fun j u hj => by
    obtain ⟨ad, h1, h2⟩ := hn j u hj
    exact ⟨ad, h1, (hb'.cell (block_lt_of_cell h2)).trans h2⟩⟩) hl h1 hb hb0 next

/-- .. of another row that the region has made -/
theorem OW.appendR {t e e' : TypeId} {sz bytes n m : Nat} {st sx : Tmp} {xs : List Value} (news : List Value) (hg : dgd ops D gu = some G) (hd : okDst N d = true) (ho : growOK P t e sz bytes = true) (hs : dlook D st = some (none, rowE w e sz n xs)) (hso : sole ops ⟨d, .call ⟨.builtin .append, #[.tmp st, .tmp sx], #[t, t]⟩, ty, pos, af, gu⟩ [st] = true)
    (hx : dlook D sx = some (cx, rowE w e' sz m news)) (ix : Cnd G → Cnd cx)
    (h1 : ∀ u ∈ news, u.oneCell' = true) (hb : (n + m) * bytes ≤ 140737488355328) (hb0 : 1 ≤ bytes) (hl : news.length = m * sz)
    (next : DW P N ds .own ops w Fin rest (dins (ddrop D [st]) d G (rowE w e sz (n + m) (xs ++ news)))) : DW P N ds .own ops w Fin (⟨d, .call ⟨.builtin .append, #[.tmp st, .tmp sx], #[t, t]⟩, ty, pos, af, gu⟩ :: rest) D :=
  OW.appendG news hg hd ho hs hso (fun hG a w' hb' ha => by
    have hr : OwnS w' e' sz (a.eval (.tmp sx)) m news ∧ _ := (ha.slots sx (mem_looks (o := ⟨d, .call ⟨.builtin .append, #[.tmp st, .tmp sx], #[t, t]⟩, ty, pos, af, gu⟩) (by simp [Op.operands, Call.operands])) cx _ hx).1 (ix hG)
    obtain ⟨A, cap, h1, _, _, h2⟩ := hr.1.form
    refine ⟨A, cap, h1, fun j u hj => ?_⟩
    obtain ⟨g, q1, _, q3, _⟩ := h2 j u hj
    exact ⟨_, q1, by
      have e : Addr.add ⟨g, 0, none⟩ j = ⟨g, j, none⟩ := by unfold Addr.add; split <;> simp_all
      rw [e]; exact q3⟩) hl h1 hb hb0 next

theorem OW.assign {φ : Value → World → Prop} {S : Value → Nat → Prop} {st : Tmp} (hg : dgd ops D gu = some G) (hd : okDst N d = true) (hs : dlook D st = some (cx, .own φ S)) (ix : Cnd G → Cnd cx) (hst : (Ent.own φ S).strong w) (hso : sole ops ⟨d, .assign (.tmp st), ty, pos, af, gu⟩ [st] = true)
    (next : DW P N ds .own ops w Fin rest (dins (ddrop D [st]) d G (.own φ S))) : DW P N ds .own ops w Fin (⟨d, .assign (.tmp st), ty, pos, af, gu⟩ :: rest) D :=
  OW.gen (.own φ S) [st] hg hd rfl hst hso (fun s hs' => ⟨cx, φ, S, by simp at hs'; subst hs'; exact hs⟩) (fun hG a w' hb' ha =>
    have h := (ha.slots st (mem_looks (o := ⟨d, .assign (.tmp st), ty, pos, af, gu⟩) (by simp [Op.operands])) cx _ hs).1 (ix hG)
    ⟨a.tmps.getD st undef, w', rfl, ⟨Below.refl _ _, fun _ _ _ _ => rfl⟩, h, fun g hg => .inl ⟨st, cx, _, by simp [hasN, beq_self], hs, ix hG, hg⟩⟩) next
end
end Go.PF

/- Data that lies in the world as it is; rows of rows. -/
namespace Go.PF
open Go.RowKit

/-- What is read of memory lies in blocks that are there. -/
structure Ty.Now {α : Type} (T : Ty α) : Prop where
  pos : 0 < T.n
  now : ∀ F w cs x, T.rep F w cs x → T.rep (fun k => k < w.heap.size) w cs x
theorem intT_now : Ty.Now intT := ⟨by decide, fun _ _ _ _ h => h⟩
theorem strT_now : Ty.Now strT := ⟨by decide, fun _ _ _ _ h => h⟩
theorem boolT_now : Ty.Now boolT := ⟨by decide, fun _ _ _ _ h => h⟩
theorem SL.now {α : Type} {T : Ty α} (hT : T.Now) {F : Nat → Prop} {w : World} {v : Value} {l : List α} (h : SL T F w v l) : SL T (fun k => k < w.heap.size) w v l := by
  obtain ⟨A, cap, rfl, h1, h2, h3⟩ := h
  refine ⟨A, cap, rfl, h1, h2, fun i x hx => ?_⟩
  obtain ⟨ad, cs, ha, hF, hc, hr⟩ := h3 i x hx
  refine ⟨ad, cs, ha, ?_, hc, hT.now _ _ _ _ hr⟩
  have hl := T.len _ _ _ _ hr
  have h0 : 0 < cs.length := by rw [hl]; exact hT.pos
  have := block_lt_of_cell (hc 0 cs[0] (List.getElem?_eq_getElem h0))
  rwa [add_block, add_block] at this
theorem sliceT_now {α : Type} {T : Ty α} (hT : T.Now) : Ty.Now (sliceT T) := ⟨by show 0 < 1; decide, fun F w cs x ⟨v, h1, h2⟩ => ⟨v, h1, SL.now hT h2⟩⟩
/-- .. and stays. -/
theorem SL.step {α : Type} {T : Ty α} (hT : T.Now) {F : Nat → Prop} {w w' : World} {v : Value} {l : List α} (h : SL T F w v l) (hb : Below w.heap.size w w') : SL T (fun k => k < w'.heap.size) w' v l := (h.below hb).now hT
theorem SL.form {α : Type} {T : Ty α} {F : Nat → Prop} {w : World} {v : Value} {l : List α} (h : SL T F w v l) : ∃ A cap, v = .slice A l.length cap ∧ l.length ≤ cap := by
  obtain ⟨A, cap, rfl, h1, _⟩ := h
  exact ⟨A, cap, rfl, h1⟩
/-- The cells of an element. -/
theorem SL.at {α : Type} {T : Ty α} {F : Nat → Prop} {w : World} {A : Option Addr} {n cap : Nat} {l : List α} (h : SL T F w (.slice A n cap) l) {i : Nat} {x : α} (hx : l[i]? = some x) :
    ∃ ad cs, A = some ad ∧ F ad.block ∧ T.rep F w cs x ∧ ∀ j u, cs[j]? = some u → w.cell? ((ad.add (i * T.n)).add j) = some u := by
  obtain ⟨A', cap', hv, _, _, h3⟩ := h
  simp only [Value.slice.injEq] at hv
  obtain ⟨rfl, _, rfl⟩ := hv
  obtain ⟨ad, cs, ha, hF, hc, hr⟩ := h3 i x hx
  exact ⟨ad, cs, ha, hF, hr, hc⟩
theorem SL.addr {α : Type} {T : Ty α} {F : Nat → Prop} {w : World} {A : Option Addr} {n cap : Nat} {l : List α} (h : SL T F w (.slice A n cap) l) (hl : 0 < l.length) : ∃ ad, A = some ad := by
  obtain ⟨ad, _, h1, _⟩ := h.at (List.getElem?_eq_getElem hl)
  exact ⟨ad, h1⟩
theorem SL.getI {F : Nat → Prop} {w : World} {ad : Addr} {n cap : Nat} {l : List Int} (h : SL intT F w (.slice (some ad) n cap) l) {i : Nat} {x : Int} (hx : l[i]? = some x) : w.cell? (ad.add ((i : Int).toNat * 1)) = some (.int .i64 x) := by
  obtain ⟨ad', h1, h2, _⟩ := h.int hx
  cases h1
  exact h2
theorem SL.rngI {F : Nat → Prop} {w : World} {v : Value} {l : List Int} (h : SL intT F w v l) {i : Nat} {x : Int} (hx : l[i]? = some x) : I64 x := by
  obtain ⟨A, cap, rfl, _⟩ := h.form
  obtain ⟨_, _, _, h3⟩ := h.int hx
  exact h3
/-- a row of a slice of slices -/
theorem SL.row {α : Type} {T : Ty α} {F : Nat → Prop} {w : World} {ad : Addr} {n cap : Nat} {l : List (List α)} (h : SL (sliceT T) F w (.slice (some ad) n cap) l) {i : Nat} {r : List α} (hr : l[i]? = some r) :
    ∃ v, w.cell? (ad.add ((i : Int).toNat * 1)) = some v ∧ SL T F w v r := by
  obtain ⟨ad', cs, h1, _, ⟨v, rfl, hv⟩, hc⟩ := h.at hr
  cases h1
  refine ⟨v, ?_, hv⟩
  have := hc 0 v rfl
  rw [Addr.add_add, Nat.add_zero] at this
  exact this
end Go.PF

/- Truth values of statements; distances read off rows: plain. -/
namespace Go.PF
noncomputable def dec (p : Prop) : Bool := @decide p (Classical.propDecidable p)
theorem dec_iff {p : Prop} : dec p = true ↔ p := @decide_eq_true_iff p (Classical.propDecidable p)
theorem dec_pos {p : Prop} (h : p) : dec p = true := dec_iff.2 h
theorem dec_neg {p : Prop} (h : ¬ p) : dec p = false := by
  cases hd : dec p with
  | false => rfl
  | true => exact absurd (dec_iff.1 hd) h
theorem dec_congr {p q : Prop} (h : p ↔ q) : dec p = dec q := by rw [show p = q from propext h]
theorem dec_eq_decide {p : Prop} [Decidable p] : dec p = decide p := by
  by_cases h : p
  · rw [dec_pos h]; simp [h]
  · rw [dec_neg h]; simp [h]
theorem nb {p : Prop} [Decidable p] (h : (!decide p) = true) : ¬ p := by simpa using h
theorem nb' {p : Prop} [Decidable p] (h : (!decide p) = false) : p := by simpa using h
theorem ndec {p : Prop} (h : (!dec p) = true) : ¬ p := fun hp => by rw [dec_pos hp] at h; cases h
theorem ndec' {p : Prop} (h : (!dec p) = false) : p := dec_iff.1 (by simpa using h)
end Go.PF
namespace Go.Ord
open Go.PF
structure RowOK (d : Dist) (i : Nat) (r : List Int) : Prop where
  len : r.length = d.length
  diag : r[i]? = some 0
  rng : ∀ (j : Nat) (x : Int), r[j]? = some x → -1 ≤ x ∧ x ≤ 1000000
def Tri (d : Dist) (i k j : Nat) : Prop := at2 d i k ≠ -1 → at2 d k j ≠ -1 → at2 d i j ≠ -1 ∧ at2 d i j ≤ at2 d i k + at2 d k j
theorem at2_eq {d : Dist} {i j : Nat} {r : List Int} {x : Int} (hr : d[i]? = some r) (hx : r[j]? = some x) : at2 d i j = x := by
  unfold at2
  simp [List.getD_eq_getElem?_getD, hr, hx]
theorem wfd_of {d : Dist} (h1 : d.length ≤ 12) (h2 : ∀ (i : Nat) (r : List Int), d[i]? = some r → RowOK d i r) (h3 : ∀ i k j, i < d.length → k < d.length → j < d.length → Tri d i k j) : WfD d := by
  refine ⟨h1, fun i r hr => (h2 i r hr).len, fun i hi => ?_, fun i j hi hj => ?_, h3⟩
  · have hr : d[i]? = some d[i] := List.getElem?_eq_getElem hi
    exact at2_eq hr (h2 i _ hr).diag
  · have hr : d[i]? = some d[i] := List.getElem?_eq_getElem hi
    have hl := (h2 i _ hr).len
    have hx : d[i][j]? = some (d[i][j]'(by omega)) := List.getElem?_eq_getElem (by omega)
    rw [at2_eq hr hx]
    exact (h2 i _ hr).rng j _ hx
theorem WfD.rowOK {d : Dist} (h : WfD d) {i : Nat} {r : List Int} (hr : d[i]? = some r) : RowOK d i r := by
  have hi := (List.getElem?_eq_some_iff.1 hr).1
  have hl := h.row i r hr
  refine ⟨hl, ?_, fun j x hx => ?_⟩
  · have hx : r[i]? = some (r[i]'(by omega)) := List.getElem?_eq_getElem (by omega)
    have := h.diag i hi
    rw [at2_eq hr hx] at this
    rw [hx, this]
  · have hj := (List.getElem?_eq_some_iff.1 hx).1
    have := h.rng i j hi (by omega)
    rw [at2_eq hr hx] at this
    exact this
end Go.Ord

/- max, min; sets of bits; shifts; interface values; slices made. Printed by mkops3.py. -/
namespace Go.PF
open Go.RowKit

/-- m without the bits of n -/
def andN (m n : Nat) : Nat := (BitVec.ofNat 32 m &&& ~~~ (BitVec.ofNat 32 n)).toNat
theorem andN_bit {m n : Nat} (i : Nat) : (andN m n).testBit i = (decide (i < 32) && m.testBit i && !(n.testBit i)) := by
  unfold andN
  rw [← BitVec.getLsbD, BitVec.getLsbD_and, BitVec.getLsbD_not, BitVec.getLsbD_ofNat, BitVec.getLsbD_ofNat]
  by_cases h : i < 32 <;> simp [h]
theorem andN_lt (m n : Nat) : andN m n < 2 ^ 32 := (BitVec.ofNat 32 m &&& ~~~ (BitVec.ofNat 32 n)).isLt
theorem andN_zero {m n : Nat} (hm : m < 2 ^ 32) : andN m n = 0 ↔ ∀ i, m.testBit i = true → n.testBit i = true := by
  constructor
  · intro h i hi
    have h1 := andN_bit (m := m) (n := n) i
    rw [h, Nat.zero_testBit, hi] at h1
    have h2 : i < 32 := by
      rcases Nat.lt_or_ge i 32 with h | h
      · exact h
      · rw [Nat.testBit_lt_two_pow (Nat.lt_of_lt_of_le hm (Nat.pow_le_pow_right (by decide) h))] at hi; cases hi
    simpa [h2] using h1.symm
  · intro h
    apply Nat.eq_of_testBit_eq
    intro i
    rw [andN_bit, Nat.zero_testBit]
    cases hi : m.testBit i with
    | false => simp
    | true => simp [h i hi]
theorem wrap32 {z : Nat} (h : z < 2 ^ 32) : IntKind.u32.wrap (z : Int) = z := by
  rw [IntKind.wrap_u32]; omega
theorem ofInt32 (m : Nat) : BitVec.ofInt IntKind.u32.bits (m : Int) = BitVec.ofNat 32 m := BitVec.ofInt_ofNat ..
theorem run_and32 {m n : Nat} (hm : m < 2 ^ 32) (hn : n < 2 ^ 32) : Op.intBits .and .u32 (m : Int) (n : Int) = pure (.int .u32 ((m &&& n : Nat) : Int)) := by
  have h : (BitVec.ofNat 32 m &&& BitVec.ofNat 32 n).toNat = m &&& n := by
    rw [BitVec.toNat_and, BitVec.toNat_ofNat, BitVec.toNat_ofNat, Nat.mod_eq_of_lt hm, Nat.mod_eq_of_lt hn]
  unfold Op.intBits
  simp only [ofInt32]
  show (pure (Value.int .u32 (IntKind.u32.wrap (((BitVec.ofNat 32 m &&& BitVec.ofNat 32 n).toNat : Nat) : Int))) : Sem Value) = _
  rw [h, wrap32 (Nat.lt_of_le_of_lt Nat.and_le_left hm)]
theorem run_or32 {m n : Nat} (hm : m < 2 ^ 32) (hn : n < 2 ^ 32) : Op.intBits .or .u32 (m : Int) (n : Int) = pure (.int .u32 ((m ||| n : Nat) : Int)) := by
  have h : (BitVec.ofNat 32 m ||| BitVec.ofNat 32 n).toNat = m ||| n := by
    rw [BitVec.toNat_or, BitVec.toNat_ofNat, BitVec.toNat_ofNat, Nat.mod_eq_of_lt hm, Nat.mod_eq_of_lt hn]
  unfold Op.intBits
  simp only [ofInt32]
  show (pure (Value.int .u32 (IntKind.u32.wrap (((BitVec.ofNat 32 m ||| BitVec.ofNat 32 n).toNat : Nat) : Int))) : Sem Value) = _
  rw [h, wrap32 (Nat.or_lt_two_pow hm hn)]
theorem run_andN32 {m n : Nat} : Op.intBits .andNot .u32 (m : Int) (n : Int) = pure (.int .u32 ((andN m n : Nat) : Int)) := by
  unfold Op.intBits
  simp only [ofInt32]
  show (pure (Value.int .u32 (IntKind.u32.wrap (((BitVec.ofNat 32 m &&& ~~~ (BitVec.ofNat 32 n)).toNat : Nat) : Int))) : Sem Value) = _
  have := wrap32 (andN_lt m n)
  unfold andN at this ⊢
  rw [this]

section
variable {P : Program} {r : Option Nat} {Q : Exit → Act → World → Prop} {N : Nat} {ds : List Deferred} {ops rest : List Oper} {E : Env} {D : DE} {w : World} {G : Option Bool} {Fin : DE → Prop} {md : Mode}
variable {d : Option Tmp} {ty : TypeId} {pos : String} {af : Array Edge} {gu : Option (Nat × Bool)}
variable {x y z : Operand} {cx cy cz : Option Bool} {ρ : Operand → Value}

def notIface (P : Program) (t : TypeId) : Bool := match P.underlying t with
  | none | some (.interface _) => false
  | _ => true

theorem X.minI {k : IntKind} {m n : Int} {ts : Array TypeId}  (hx : ρ x = .int k m) (hy : ρ y = .int k n)  : (execOp ρ ⟨d, .call ⟨.builtin .min, #[x, y], ts⟩, ty, pos, af, gu⟩).run P w = .ok (.value (.int k (min m n))) w := by 
    have e : (if n < m then n else m) = min m n := by omega
    simp [execOp, resolve, invoke, builtin, hx, hy, run_min_int2, e]
theorem TW.minI {k : IntKind} {m n : Int} {ts : Array TypeId} (hg : gd ops E gu = some G) (hd : okDst N d = true)  (hx : ev E x = some (cx, .int k m)) (ix : Cnd G → Cnd cx) (hy : ev E y = some (cy, .int k n)) (iy : Cnd G → Cnd cy) 
    (next : TW P r Q N ds ops rest (ins E d G (.int k (min m n))) w) : TW P r Q N ds ops (⟨d, .call ⟨.builtin .min, #[x, y], ts⟩, ty, pos, af, gu⟩ :: rest) E w :=
  TW.val hg hd rfl (fun hG _ ha => X.minI  (ha.eval hx (ix hG)) (ha.eval hy (iy hG)) ) next
theorem X.nilCheck {ad : Addr}  (hx : ρ x = .pointer (some ad))  : (execOp ρ ⟨d, .nilCheck x, ty, pos, af, gu⟩).run P w = .ok (.value (.pointer (some ad))) w := by simp only [execOp]; rw [hx]; rfl
theorem TW.nilCheck {ad : Addr} (hg : gd ops E gu = some G) (hd : okDst N d = true)  (hx : ev E x = some (cx, .pointer (some ad))) (ix : Cnd G → Cnd cx) 
    (next : TW P r Q N ds ops rest (ins E d G (.pointer (some ad))) w) : TW P r Q N ds ops (⟨d, .nilCheck x, ty, pos, af, gu⟩ :: rest) E w :=
  TW.val hg hd rfl (fun hG _ ha => X.nilCheck  (ha.eval hx (ix hG)) ) next
theorem DW.nilCheck {ad : Addr} (hg : dgd ops D gu = some G) (hd : okDst N d = true)  (hx : dev D x = some (cx, .ex (.pointer (some ad)))) (ix : Cnd G → Cnd cx) 
    (next : DW P N ds md ops w Fin rest (dins D d G (.ex (.pointer (some ad))))) : DW P N ds md ops w Fin (⟨d, .nilCheck x, ty, pos, af, gu⟩ :: rest) D :=
  DW.val hg hd rfl (fun hG _ _ _ ha => X.nilCheck  (ha.eval (o := ⟨d, .nilCheck x, ty, pos, af, gu⟩) hx (by simp [Op.operands, Call.operands]) (ix hG)) ) next

/-! ### A method called through an interface value -/
/-- how a method of values of a type is called: the function -/
def Meth (P : Program) (name : String) (t : TypeId) (k : FuncId) : Prop := ∀ (v : Value) (args : Array Value) (w : World), (callMethod (.iface t v) name args).run P w = .ok (.enter k (#[v] ++ args)) w
/-! ### make([]T, n) -/
theorem made_cells {z : Value} {u : Value} (hz : z.cells = #[u]) (n : Nat) : (madeCells z.cells (n * 1)).toList = List.replicate n u := by
  unfold madeCells
  rw [hz]
  apply List.ext_getElem?
  intro i
  by_cases h : i < n <;> simp [h, List.getElem?_replicate, Nat.mod_one]
/-- a type of one cell, its zero value and its bytes -/
def zero1 (P : Program) (t e : TypeId) (u : Value) (bytes : Nat) : Prop := ∃ i z, P.underlying t = some (.slice e) ∧ P.info? e = some i ∧ i.zero = some z ∧ z.cells = #[u] ∧ i.size = 1 ∧ i.bytes = bytes
theorem zero1_of {t e : TypeId} {u : Value} {bytes : Nat} (hg : growOK P t e 1 bytes = true) (hz : (P.info? e).bind (·.zero) = some u) (hu : u.cells = #[u]) : zero1 P t e u bytes := by
  obtain ⟨i, zv, h1, h2, h3, h4, h5, h6, h7⟩ := growOK_spec hg
  rw [h2] at hz
  simp only [Option.bind_some, h3, Option.some.injEq] at hz
  subst hz
  exact ⟨i, zv, h1, h2, h3, hu, h4, h5⟩
/-- 'v := x', v of one cell, in memory -/
theorem TW.newVar1 {t : TypeId} {dd : Nat} {z v : Value} {ty' : TypeId} {pos' : String} {af' : Array Edge} (hd : okDst N (some dd) = true) (hz : zeroCells P t = some [z]) (hy : ev ((dd, none, .pointer (some ⟨w.heap.size, 0, none⟩)) :: E) y = some (none, v)) (hs : (P.info? t).map (·.size) = some 1)
    (h1 : v.oneCell' = true) (next : ∀ g w', Fresh w w' g t [v] → TW P r Q N ds ops rest ((dd, none, .pointer (some ⟨g, 0, none⟩)) :: E) w') :
    TW P r Q N ds ops (⟨some dd, .alloc t, ty, pos, af, none⟩ :: ⟨none, .store t (.tmp dd) y, ty', pos', af', none⟩ :: rest) E w := by
  refine TW.eff (v := .pointer (some ⟨w.heap.size, 0, none⟩)) (w' := w.alloc (.cells [z].toArray t)) rfl hd rfl (fun a ha => ?_) ?_
  · unfold zeroCells at hz
    cases hi : P.info? t with
    | none => simp [hi] at hz
    | some i =>
      cases hzz : i.zero with
      | none => simp [hi, hzz] at hz
      | some zv =>
        simp [hi, hzz] at hz
        simp [execOp, Instr.alloc, zeroValue, typeInfo, hi, hzz, Go.newVar, newRow, ← hz]
  · have hB := Blk.new w t [z]
    refine TW.store1 rfl hs (by simp [ev, look, ins]) hy (hB.cell 0) (hB.frozen 0) h1 ?_
    refine next _ _ ⟨rfl, ?_, ?_, hB.set 0 v⟩
    · simp [World.setCell]
    · exact (below_alloc w _).setCell (Nat.le_refl _) _
/-- from w to w' no block of before has turned, but g -/
abbrev But (g : Nat) (w w' : World) : Prop := w.grownBy w' (some g)
theorem But.of_below {g : Nat} {w w' : World} (h : Below w.heap.size w w') : But g w w' := ⟨h.os, h.tape, h.output, h.size, fun k hk _ => h.block k hk⟩
theorem But.trans {g : Nat} {w w' w'' : World} (h : But g w w') (h' : But g w' w'') : But g w w'' :=
  ⟨h'.os.trans h.os, h'.tape.trans h.tape, h'.output.trans h.output, Nat.le_trans h.size h'.size, fun k hk hn => (h'.block k (Nat.lt_of_lt_of_le hk h.size) hn).trans (h.block k hk hn)⟩
theorem But.step {g : Nat} {w w' w'' : World} (h : But g w w') (h' : Below w'.heap.size w' w'') : But g w w'' := h.trans (.of_below h')
/-- g is new -/
theorem But.below {g : Nat} {w w1 w2 : World} (h : Below w.heap.size w w1) (h' : But g w1 w2) (hg : w.heap.size ≤ g) : Below w.heap.size w w2 := h.grown h' h.size (fun k hk => by cases hk; exact hg)
theorem But.blk {g k : Nat} {w w' : World} {t : TypeId} {cs : List Value} (h : But g w w') (hB : Blk w k t cs) (hk : k ≠ g) : Blk w' k t cs := (h.block k hB.lt (fun e => hk (by cases e; rfl))).trans hB
theorem But.setCell {g j : Nat} {w : World} {u : Value} : But g w (w.setCell ⟨g, j, none⟩ u) := ⟨rfl, rfl, rfl, by simp [World.setCell], fun k _ hn => Below.heap_setCell _ _ _ _ (fun e => hn (by rw [e]))⟩
/-- a cell of a known block is written -/
theorem TW.storeFld {t t1 : TypeId} {g j : Nat} {cs : List Value} {u : Value} (hg : gu = none) (hs : (P.info? t).map (·.size) = some 1) (hx : ev E x = some (none, .pointer (some (Addr.add ⟨g, 0, none⟩ j)))) (hy : ev E y = some (none, u)) (hB : Blk w g t1 cs) (hj : j < cs.length) (h1 : u.oneCell' = true)
    (next : ∀ w', Blk w' g t1 (cs.set j u) → But g w w' → w'.heap.size = w.heap.size → TW P r Q N ds ops rest E w') : TW P r Q N ds ops (⟨none, .store t x y, ty, pos, af, gu⟩ :: rest) E w := by
  refine TW.store1 hg hs hx hy (hB.fld (List.getElem?_eq_getElem hj)) (by rw [addr0]; exact hB.frozen _) h1 ?_
  rw [addr0]
  exact next _ (hB.set j u) .setCell (by simp [World.setCell])
end
end Go.PF

/- Events in memory. -/
namespace Go.PF
open Go.RowKit Go.Ord

def evT : Ty Ev where
  n := 4
  rep := fun F w cs e => ∃ v, cs = [.int .i64 e.office, .int .i64 e.low, .int .i64 e.high, v] ∧ I64 e.office ∧ I64 e.low ∧ I64 e.high ∧ SL intT F w v e.needs
  len := fun _ _ _ _ h => by obtain ⟨v, h, _⟩ := h; rw [h]; rfl
  mono := fun _ _ _ _ _ hk h => by obtain ⟨v, h, h1, h2, h3, hs⟩ := h; exact ⟨v, h, h1, h2, h3, hs.mono hk⟩
  wider := fun _ _ _ _ _ hF h => by obtain ⟨v, h, h1, h2, h3, hs⟩ := h; exact ⟨v, h, h1, h2, h3, hs.wider hF⟩
theorem evT_now : Ty.Now evT := ⟨by decide, fun F w cs e ⟨v, h, h1, h2, h3, hs⟩ => ⟨v, h, h1, h2, h3, hs.now intT_now⟩⟩
/-- events that lie in the world -/
abbrev SE (w : World) (v : Value) (l : List Ev) : Prop := SL evT (fun k => k < w.heap.size) w v l
theorem se_step {w w' : World} {v : Value} {l : List Ev} (h : SE w v l) (hb : Below w.heap.size w w') : SE w' v l := h.step evT_now hb
/-- an event of the list: its cells -/
theorem SE.get {F : Nat → Prop} {w : World} {ad : Addr} {n cap : Nat} {l : List Ev} (h : SL evT F w (.slice (some ad) n cap) l) {i : Nat} {e : Ev} (hx : l[i]? = some e) :
    ∃ v, (∀ j u, [Value.int .i64 e.office, .int .i64 e.low, .int .i64 e.high, v][j]? = some u → w.cell? ((ad.add ((i : Int).toNat * 4)).add j) = some u) ∧ I64 e.office ∧ I64 e.low ∧ I64 e.high ∧ SL intT F w v e.needs := by
  obtain ⟨ad', cs, h1, _, ⟨v, rfl, g1, g2, g3, hs⟩, hc⟩ := h.at hx
  cases h1
  exact ⟨v, hc, g1, g2, g3, hs⟩
/-- the cells of a part of a block -/
theorem Blk.sub {w : World} {g : Nat} {t : TypeId} {cs : List Value} (h : Blk w g t cs) (k : Nat) (ds : List Value) (hk : cs.drop k = ds) : ∀ j v, ds[j]? = some v → w.cell? ((Addr.add ⟨g, 0, none⟩ k).add j) = some v := fun j v hj => by
  rw [Addr.add_add]
  refine h.fld ?_
  rw [← hk, List.getElem?_drop] at hj
  exact hj
/-- a value that stands for an event -/
def EvV (F : Nat → Prop) (w : World) (cs : List Value) (e : Ev) : Prop := evT.rep F w cs e
end Go.PF

/- Records, sets of records: plain. -/
namespace Go.Ord
open Go.PF

def insS (n : Int) : List Int → List Int
  | [] => [n]
  | x :: l => if x < n then x :: insS n l else if x = n then x :: l else n :: x :: l
def Inc (l : List Int) : Prop := l.Pairwise (· < ·)
theorem mem_insS {n x : Int} : ∀ {l : List Int}, x ∈ insS n l ↔ x = n ∨ x ∈ l
  | [] => by simp [insS]
  | y :: l => by
    unfold insS
    split
    · rw [List.mem_cons, mem_insS, List.mem_cons]
      constructor
      · rintro (h | h | h)
        · exact .inr (.inl h)
        · exact .inl h
        · exact .inr (.inr h)
      · rintro (h | h | h)
        · exact .inr (.inl h)
        · exact .inl h
        · exact .inr (.inr h)
    · split
      · rename_i h; subst h; simp
      · simp
theorem Inc.insS {n : Int} : ∀ {l : List Int}, Inc l → Inc (insS n l)
  | [], _ => List.pairwise_singleton _ _
  | y :: l, h => by
    have h' := List.pairwise_cons.1 h
    unfold Ord.insS
    split
    · refine List.pairwise_cons.2 ⟨fun x hx => ?_, Inc.insS h'.2⟩
      rcases mem_insS.1 hx with rfl | hx
      · assumption
      · exact h'.1 x hx
    · split
      · exact h
      · refine List.pairwise_cons.2 ⟨fun x hx => ?_, h⟩
        rcases List.mem_cons.1 hx with rfl | hx
        · omega
        · have := h'.1 x hx; omega
def insAll (a : List Int) (l : List Int) : List Int := l.foldl (fun acc n => insS n acc) a
theorem mem_insAll {x : Int} : ∀ {l a : List Int}, x ∈ insAll a l ↔ x ∈ a ∨ x ∈ l
  | [], a => by simp [insAll]
  | n :: l, a => by
    have : insAll a (n :: l) = insAll (insS n a) l := rfl
    rw [this, mem_insAll, mem_insS, List.mem_cons]
    constructor
    · rintro ((h | h) | h)
      · exact .inr (.inl h)
      · exact .inl h
      · exact .inr (.inr h)
    · rintro (h | h | h)
      · exact .inl (.inr h)
      · exact .inl (.inl h)
      · exact .inr h
theorem Inc.insAll : ∀ {l a : List Int}, Inc a → Inc (insAll a l)
  | [], _, h => h
  | n :: l, a, h => Inc.insAll (l := l) (Inc.insS h)
def needsOf (l : List Ev) : List Int := l.flatMap (·.needs)
/-- the records of events -/
def recsS (l : List Ev) : List Int := insAll [] (needsOf l)
theorem mem_recsS {l : List Ev} {x : Int} : x ∈ recsS l ↔ ∃ e ∈ l, x ∈ e.needs := by
  unfold recsS needsOf
  rw [mem_insAll, List.mem_flatMap]
  simp
theorem recsS_inc (l : List Ev) : Inc (recsS l) := Inc.insAll List.Pairwise.nil
theorem Inc.nodup {l : List Int} (h : Inc l) : l.Nodup := h.imp fun h e => by omega
theorem inc_ext : ∀ {a b : List Int}, Inc a → Inc b → (∀ x, x ∈ a ↔ x ∈ b) → a = b
  | [], [], _, _, _ => rfl
  | [], y :: b, _, _, h => by have := (h y).2 (by simp); cases this
  | x :: a, [], _, _, h => by have := (h x).1 (by simp); cases this
  | x :: a, y :: b, ha, hb, h => by
    have ha' := List.pairwise_cons.1 ha
    have hb' := List.pairwise_cons.1 hb
    have hxy : x = y := by
      rcases List.mem_cons.1 ((h x).1 (by simp)) with e | hx
      · exact e
      · rcases List.mem_cons.1 ((h y).2 (by simp)) with e | hy
        · exact e.symm
        · have := ha'.1 y hy
          have := hb'.1 x hx
          omega
    subst hxy
    rw [inc_ext ha'.2 hb'.2 (fun z => ?_)]
    constructor
    · intro hz
      rcases List.mem_cons.1 ((h z).1 (by simp [hz])) with e | hz'
      · subst e; have := ha'.1 z hz; omega
      · exact hz'
    · intro hz
      rcases List.mem_cons.1 ((h z).2 (by simp [hz])) with e | hz'
      · subst e; have := hb'.1 z hz; omega
      · exact hz'
theorem nodup_len {α : Type} [DecidableEq α] : ∀ {l k : List α}, l.Nodup → (∀ x ∈ l, x ∈ k) → l.length ≤ k.length
  | [], _, _, _ => Nat.zero_le _
  | x :: l, k, hn, hs => by
    have hn' := List.nodup_cons.1 hn
    have hx := hs x (by simp)
    have := nodup_len (l := l) (k := k.erase x) hn'.2 (fun y hy => (List.mem_erase_of_ne (fun e => hn'.1 (by rw [← e]; exact hy))).2 (hs y (by simp [hy])))
    rw [List.length_erase_of_mem hx] at this
    have := List.length_pos_of_mem hx
    simp only [List.length_cons]
    omega
/-- sorted, without repetitions -/
theorem inc_sorted {xs : List Int} (hn : xs.Nodup) : Inc (xs.mergeSort fun x y => decide (x ≤ y)) := by
  have h1 : (xs.mergeSort fun x y => decide (x ≤ y)).Pairwise (fun x y => decide (x ≤ y) = true) := List.pairwise_mergeSort (fun a b c h1 h2 => by simp at *; omega) (fun a b => by simp; omega) xs
  have h2 : (xs.mergeSort fun x y => decide (x ≤ y)).Nodup := (List.mergeSort_perm xs _).nodup_iff.2 hn
  refine List.Pairwise.imp₂ (fun a b h3 h4 => ?_) h1 h2
  have : a ≤ b := by simpa using h3
  omega

/-- all sets of k numbers of a list, in order -/
def setsS : List Int → Nat → List (List Int)
  | _, 0 => [[]]
  | [], _ + 1 => []
  | x :: l, k + 1 => (setsS l k).map (x :: ·) ++ setsS l (k + 1)
theorem mem_setsS : ∀ {l : List Int} {k : Nat} {s : List Int}, s ∈ setsS l k ↔ s.Sublist l ∧ s.length = k
  | l, 0, s => by
    have : setsS l 0 = [[]] := by cases l <;> rfl
    rw [this, List.mem_singleton]
    constructor
    · rintro rfl; exact ⟨List.nil_sublist _, rfl⟩
    · intro h; exact List.eq_nil_of_length_eq_zero h.2
  | [], k + 1, s => by
    simp [setsS]
    rintro rfl
    simp
  | x :: l, k + 1, s => by
    simp only [setsS, List.mem_append, List.mem_map]
    constructor
    · rintro (⟨t, ht, rfl⟩ | hs)
      · obtain ⟨h1, h2⟩ := mem_setsS.1 ht
        exact ⟨h1.cons_cons x, by simp [h2]⟩
      · obtain ⟨h1, h2⟩ := mem_setsS.1 hs
        exact ⟨h1.cons x, h2⟩
    · rintro ⟨h1, h2⟩
      cases h1 with
      | cons _ h => exact .inr (mem_setsS.2 ⟨h, h2⟩)
      | cons_cons _ h => exact .inl ⟨_, mem_setsS.2 ⟨h, by simpa using h2⟩, rfl⟩
theorem setsS_short : ∀ (l : List Int) (k : Nat), l.length < k → setsS l k = []
  | l, 0, h => by omega
  | [], k + 1, _ => rfl
  | x :: l, k + 1, h => by
    simp only [setsS]
    rw [setsS_short l k (by simp at h; omega), setsS_short l (k + 1) (by simp at h; omega)]
    rfl
theorem setsS_len : ∀ (l : List Int) (k : Nat), (setsS l k).length ≤ (l.length + 1) ^ k
  | l, 0 => by cases l <;> simp [setsS]
  | [], k + 1 => by simp [setsS]
  | x :: l, k + 1 => by
    have h1 := setsS_len l k
    have h2 := setsS_len l (k + 1)
    have h3 : (l.length + 1) ^ k ≤ (l.length + 2) ^ k := Nat.pow_le_pow_left (by omega) k
    simp only [setsS, List.length_append, List.length_map, List.length_cons]
    rw [Nat.pow_succ] at h2 ⊢
    have h4 : (l.length + 1) ^ k * (l.length + 1) ≤ (l.length + 2) ^ k * (l.length + 1) := Nat.mul_le_mul_right _ h3
    have h5 : (l.length + 1 + 1) ^ k * (l.length + 1 + 1) = (l.length + 2) ^ k * (l.length + 1) + (l.length + 2) ^ k := by rw [show l.length + 1 + 1 = l.length + 2 from rfl, show l.length + 2 = (l.length + 1) + 1 from rfl, Nat.mul_add, Nat.mul_one]
    omega
/-- by the first number -/
def setsAt (l : List Int) (k i : Nat) : List (List Int) := match l[i]? with
  | some x => (setsS (l.drop (i + 1)) k).map (x :: ·)
  | none => []
def setsTo (l : List Int) (k n : Nat) : List (List Int) := (List.range n).flatMap (setsAt l k)
theorem setsTo_succ (l : List Int) (k n : Nat) : setsTo l k (n + 1) = setsTo l k n ++ setsAt l k n := by
  simp [setsTo, List.range_succ, List.flatMap_append]
theorem setsTo_cons (x : Int) (l : List Int) (k : Nat) : ∀ n, setsTo (x :: l) k (n + 1) = (setsS l k).map (x :: ·) ++ setsTo l k n
  | 0 => by simp [setsTo, setsAt]
  | n + 1 => by
    rw [setsTo_succ, setsTo_cons x l k n, setsTo_succ l k n, List.append_assoc]
    rfl
theorem setsS_eq : ∀ (l : List Int) (k : Nat), setsS l (k + 1) = setsTo l k l.length
  | [], k => rfl
  | x :: l, k => by
    show (setsS l k).map (x :: ·) ++ setsS l (k + 1) = setsTo (x :: l) k (l.length + 1)
    rw [setsTo_cons, setsS_eq l k]
theorem setsTo_enough {l : List Int} {k : Nat} : ∀ (n m : Nat), l.length ≤ n + k → setsTo l k (n + m) = setsTo l k n
  | n, 0, _ => rfl
  | n, m + 1, h => by
    rw [← Nat.add_assoc, setsTo_succ, setsTo_enough n m h]
    have : setsAt l k (n + m) = [] := by
      unfold setsAt
      split
      · rw [setsS_short _ _ (by rw [List.length_drop]; rename_i hx; have := (List.getElem?_eq_some_iff.1 hx).1; omega)]
        rfl
      · rfl
    rw [this, List.append_nil]
end Go.Ord

/- Plain theory: events in the order of their keys, canonical lists. -/
namespace Go.Ord

/-- slices.Compare -/
def cmpL : List Int → List Int → Int
  | [], [] => 0
  | [], _ :: _ => -1
  | _ :: _, [] => 1
  | x :: a, y :: b => if x < y then -1 else if y < x then 1 else cmpL a b
theorem cmpL_refl : ∀ a, cmpL a a = 0
  | [] => rfl
  | x :: a => by simp [cmpL, cmpL_refl a]
theorem cmpL_eq : ∀ {a b}, cmpL a b = 0 → a = b
  | [], [], _ => rfl
  | [], _ :: _, h => by simp [cmpL] at h
  | _ :: _, [], h => by simp [cmpL] at h
  | x :: a, y :: b, h => by
    unfold cmpL at h
    split at h
    · cases h
    · split at h
      · cases h
      · have : x = y := by omega
        rw [this, cmpL_eq h]
theorem cmpL_anti : ∀ a b, cmpL a b = - cmpL b a
  | [], [] => rfl
  | [], _ :: _ => rfl
  | _ :: _, [] => rfl
  | x :: a, y :: b => by
    unfold cmpL
    by_cases h : x < y
    · rw [if_pos h, if_neg (by omega), if_pos h]
    · by_cases h' : y < x
      · rw [if_neg h, if_pos h', if_pos h']
        rfl
      · rw [if_neg h, if_neg h', if_neg h', if_neg h, cmpL_anti a b]
theorem cmpL_trans : ∀ {a b c}, cmpL a b < 0 → cmpL b c < 0 → cmpL a c < 0
  | [], [], _, h, _ => by simp [cmpL] at h
  | [], _ :: _, [], _, h => by simp [cmpL] at h
  | [], _ :: _, _ :: _, _, _ => by simp [cmpL]
  | _ :: _, [], _, h, _ => by simp [cmpL] at h
  | _ :: _, _ :: _, [], _, h => by simp [cmpL] at h
  | x :: a, y :: b, z :: c, h, h' => by
    unfold cmpL at h h' ⊢
    by_cases h1 : x < y
    · by_cases h2 : y < z
      · rw [if_pos (by omega)]; decide
      · rw [if_neg h2] at h'
        by_cases h3 : z < y
        · rw [if_pos h3] at h'; exact absurd h' (by decide)
        · rw [if_pos (by omega)]; decide
    · rw [if_neg h1] at h
      by_cases h2 : y < x
      · rw [if_pos h2] at h; exact absurd h (by decide)
      · rw [if_neg h2] at h
        have e : x = y := by omega
        subst e
        by_cases h3 : x < z
        · rw [if_pos h3]; decide
        · rw [if_neg h3] at h' ⊢
          by_cases h4 : z < x
          · rw [if_pos h4] at h'; exact absurd h' (by decide)
          · rw [if_neg h4] at h' ⊢
            exact cmpL_trans h h'

def keyE (e : Ev) : List Int := (e.needs.length : Int) :: e.office :: e.low :: e.high :: e.needs
theorem keyE_inj {e f : Ev} (h : keyE e = keyE f) : e = f := by
  obtain ⟨a, b, c, d⟩ := e
  obtain ⟨a', b', c', d'⟩ := f
  unfold keyE at h
  simp only [List.cons.injEq] at h
  obtain ⟨_, h1, h2, h3, h4⟩ := h
  subst h1 h2 h3 h4
  rfl
def cmpE (e f : Ev) : Int := cmpL (keyE e) (keyE f)
def ltE (e f : Ev) : Prop := cmpE e f < 0
theorem ltE_irrefl {e : Ev} : ¬ ltE e e := by unfold ltE cmpE; rw [cmpL_refl]; decide
theorem ltE_trans {e f g : Ev} (h : ltE e f) (h' : ltE f g) : ltE e g := cmpL_trans h h'
theorem cmpE_zero {e f : Ev} : cmpE e f = 0 ↔ e = f := ⟨fun h => keyE_inj (cmpL_eq h), fun h => by rw [h]; exact cmpL_refl _⟩
theorem cmpE_anti (e f : Ev) : cmpE e f = - cmpE f e := cmpL_anti _ _
theorem ltE_len {e f : Ev} (h : e.needs.length < f.needs.length) : ltE e f := by
  unfold ltE cmpE keyE cmpL
  rw [if_pos (by omega)]
  decide

def SrtE (l : List Ev) : Prop := l.Pairwise ltE
def insE (e : Ev) : List Ev → List Ev
  | [] => [e]
  | f :: l => if cmpE e f < 0 then e :: f :: l else if cmpE e f = 0 then f :: l else f :: insE e l
theorem mem_insE {e x : Ev} : ∀ {l : List Ev}, x ∈ insE e l ↔ x = e ∨ x ∈ l
  | [] => by simp [insE]
  | f :: l => by
    unfold insE
    split
    · simp
    · split
      · rename_i h
        have := cmpE_zero.1 h
        subst this
        simp
      · rw [List.mem_cons, mem_insE, List.mem_cons]
        constructor
        · rintro (h | h | h)
          · exact .inr (.inl h)
          · exact .inl h
          · exact .inr (.inr h)
        · rintro (h | h | h)
          · exact .inr (.inl h)
          · exact .inl h
          · exact .inr (.inr h)
theorem SrtE.insE {e : Ev} : ∀ {l : List Ev}, SrtE l → SrtE (insE e l)
  | [], _ => List.pairwise_singleton _ _
  | f :: l, h => by
    have h' := List.pairwise_cons.1 h
    unfold Go.Ord.insE
    split
    · rename_i hl
      refine List.pairwise_cons.2 ⟨fun x hx => ?_, h⟩
      rcases List.mem_cons.1 hx with rfl | hx
      · exact hl
      · exact ltE_trans hl (h'.1 x hx)
    · split
      · exact h
      · rename_i h1 h2
        refine List.pairwise_cons.2 ⟨fun x hx => ?_, SrtE.insE h'.2⟩
        rcases mem_insE.1 hx with rfl | hx
        · have := cmpE_anti x f
          unfold ltE
          omega
        · exact h'.1 x hx
theorem srt_ext : ∀ {a b : List Ev}, SrtE a → SrtE b → (∀ x, x ∈ a ↔ x ∈ b) → a = b
  | [], [], _, _, _ => rfl
  | [], y :: b, _, _, h => by have := (h y).2 (by simp); cases this
  | x :: a, [], _, _, h => by have := (h x).1 (by simp); cases this
  | x :: a, y :: b, ha, hb, h => by
    have ha' := List.pairwise_cons.1 ha
    have hb' := List.pairwise_cons.1 hb
    have hxy : x = y := by
      rcases List.mem_cons.1 ((h x).1 (by simp)) with e | h1
      · exact e
      · rcases List.mem_cons.1 ((h y).2 (by simp)) with e | h2
        · exact e.symm
        · exact absurd (ltE_trans (hb'.1 x h1) (ha'.1 y h2)) ltE_irrefl
    subst hxy
    congr 1
    refine srt_ext ha'.2 hb'.2 fun z => ⟨fun hz => ?_, fun hz => ?_⟩
    · rcases List.mem_cons.1 ((h z).1 (List.mem_cons_of_mem _ hz)) with rfl | h1
      · exact absurd (ha'.1 z hz) ltE_irrefl
      · exact h1
    · rcases List.mem_cons.1 ((h z).2 (List.mem_cons_of_mem _ hz)) with rfl | h1
      · exact absurd (hb'.1 z hz) ltE_irrefl
      · exact h1
def canonA (a l : List Ev) : List Ev := l.foldl (fun acc e => insE e acc) a
def canon (l : List Ev) : List Ev := canonA [] l
theorem mem_canonA {x : Ev} : ∀ {l a : List Ev}, x ∈ canonA a l ↔ x ∈ a ∨ x ∈ l
  | [], a => by simp [canonA]
  | e :: l, a => by
    show x ∈ canonA (insE e a) l ↔ _
    rw [mem_canonA, mem_insE, List.mem_cons]
    constructor
    · rintro ((h | h) | h)
      · exact .inr (.inl h)
      · exact .inl h
      · exact .inr (.inr h)
    · rintro (h | h | h)
      · exact .inl (.inr h)
      · exact .inl (.inl h)
      · exact .inr h
theorem srt_canonA : ∀ {l a : List Ev}, SrtE a → SrtE (canonA a l)
  | [], _, h => h
  | e :: l, _, h => srt_canonA (l := l) h.insE
theorem mem_canon {x : Ev} {l : List Ev} : x ∈ canon l ↔ x ∈ l := by unfold canon; rw [mem_canonA]; simp
theorem srt_canon (l : List Ev) : SrtE (canon l) := srt_canonA List.Pairwise.nil
theorem canon_ext {a b : List Ev} (h : ∀ x, x ∈ a ↔ x ∈ b) : canon a = canon b := srt_ext (srt_canon a) (srt_canon b) fun x => by rw [mem_canon, mem_canon, h]
theorem canon_of {a b : List Ev} (ha : SrtE a) (h : ∀ x, x ∈ a ↔ x ∈ b) : a = canon b := srt_ext ha (srt_canon b) fun x => by rw [mem_canon, h]
theorem canonA_snoc (a l : List Ev) (e : Ev) : canonA a (l ++ [e]) = insE e (canonA a l) := by unfold canonA; simp

/-- the events with as many records as k says -/
def ofLen (l : List Ev) (k : Nat) : List Ev := l.filter fun e => e.needs.length == k
def upTo (l : List Ev) (k : Nat) : List Ev := (List.range k).flatMap fun i => canon (ofLen l (i + 1))
theorem mem_upTo {l : List Ev} {k : Nat} {x : Ev} : x ∈ upTo l k ↔ x ∈ l ∧ 1 ≤ x.needs.length ∧ x.needs.length ≤ k := by
  unfold upTo
  rw [List.mem_flatMap]
  constructor
  · rintro ⟨i, hi, h⟩
    rw [mem_canon] at h
    unfold ofLen at h
    rw [List.mem_filter] at h
    have hk := List.mem_range.1 hi
    have := h.2
    simp at this
    exact ⟨h.1, by omega, by omega⟩
  · rintro ⟨h1, h2, h3⟩
    refine ⟨x.needs.length - 1, List.mem_range.2 (by omega), mem_canon.2 ?_⟩
    unfold ofLen
    exact List.mem_filter.2 ⟨h1, by simp; omega⟩
theorem srt_upTo (l : List Ev) : ∀ k, SrtE (upTo l k)
  | 0 => List.Pairwise.nil
  | k + 1 => by
    have e : upTo l (k + 1) = upTo l k ++ canon (ofLen l (k + 1)) := by
      unfold upTo
      rw [List.range_succ, List.flatMap_append]
      simp
    rw [e]
    refine List.pairwise_append.2 ⟨srt_upTo l k, srt_canon _, fun a ha b hb => ltE_len ?_⟩
    have h1 := (mem_upTo.1 ha).2.2
    have h2 := mem_canon.1 hb
    unfold ofLen at h2
    have := (List.mem_filter.1 h2).2
    simp at this
    omega
theorem upTo_succ (l : List Ev) (k : Nat) : upTo l (k + 1) = upTo l k ++ canon (ofLen l (k + 1)) := by
  unfold upTo
  rw [List.range_succ, List.flatMap_append]
  simp
theorem upTo_canon {l : List Ev} {k : Nat} (h : ∀ e ∈ l, 1 ≤ e.needs.length ∧ e.needs.length ≤ k) : upTo l k = canon l :=
  canon_of (srt_upTo l k) fun x => by rw [mem_upTo]; exact ⟨fun h => h.1, fun hx => ⟨hx, h x hx⟩⟩
theorem upTo_pre (l : List Ev) {i k : Nat} (h : i ≤ k) : ∃ s, upTo l k = upTo l i ++ s := by
  induction h with
  | refl => exact ⟨[], by simp⟩
  | @step m _ ih =>
    obtain ⟨s, hs⟩ := ih
    exact ⟨s ++ canon (ofLen l (m + 1)), by rw [upTo_succ, hs, List.append_assoc]⟩
theorem take_pre {α : Type} {a s : List α} {n : Nat} (h : n ≤ a.length) : (a ++ s).take n = a.take n := by rw [List.take_append_of_le_length h]
end Go.Ord

/- Scanners and records in memory; when a record is well-formed. -/
namespace Go.Ord
structure Sc where
  op : Int
  off : Int
  err : Int
structure Rc where
  scn : Int
  num : Int
  kind : Int
  time : Int
  label : ByteArray
  cont : List ByteArray
def okB (b : Nat) : Prop := (65 ≤ b ∧ b ≤ 90) ∨ (48 ≤ b ∧ b ≤ 57) ∨ b = 46
def byteAt (s : ByteArray) (i : Nat) : Nat := (s.data.getD i 0).toNat
def isLab (s : ByteArray) : Prop := 1 ≤ s.size ∧ s.size ≤ 20 ∧ ∀ i, i < s.size → okB (byteAt s i)
structure ScOK (s : Sc) : Prop where
  o1 : 0 ≤ s.op
  o2 : 0 ≤ s.off
  e1 : 0 ≤ s.err
  e2 : s.err ≤ 10000
def Kinds (r : Rc) : Prop := (r.kind = 1 ∧ r.cont = []) ∨ (r.kind = 2 ∧ r.cont.length ≤ 40 ∧ (∀ c ∈ r.cont, isLab c ∧ c ≠ r.label) ∧ r.cont.Nodup)
structure Comp (r : Rc) : Prop where
  s1 : 0 ≤ r.scn
  s2 : r.scn ≤ 1000000
  n1 : 0 ≤ r.num
  n2 : r.num ≤ 1000000
  t1 : 0 ≤ r.time
  t2 : r.time ≤ 1000000
  lab : isLab r.label
  kinds : Kinds r
structure Val (l : List Sc) (r : Rc) : Prop where
  few : l.length ≤ 24
  comp : Comp r
  scan : ∃ s, l[r.scn.toNat]? = some s ∧ ScOK s
theorem Val.man {l : List Sc} {r : Rc} (h : Val l r) {a : ByteArray} (ha : a ∈ r.cont) : r.kind = 2 := by
  rcases h.comp.kinds with ⟨_, h2⟩ | ⟨h1, _⟩
  · rw [h2] at ha; cases ha
  · exact h1
def scOf (l : List Sc) (r : Rc) : Sc := l.getD r.scn.toNat ⟨0, 0, 0⟩
def evOf (l : List Sc) (r : Rc) (needs : List Int) : Ev := ⟨(scOf l r).off, r.time - (scOf l r).err, r.time + (scOf l r).err, needs⟩
theorem Val.sc {l : List Sc} {r : Rc} (h : Val l r) : l[r.scn.toNat]? = some (scOf l r) ∧ ScOK (scOf l r) := by
  obtain ⟨s, h1, h2⟩ := h.scan
  have : scOf l r = s := by unfold scOf; rw [List.getD_eq_getElem?_getD, h1]; rfl
  rw [this]
  exact ⟨h1, h2⟩
end Go.Ord
namespace Go.PF
open Go.RowKit Go.Ord
def scT : Ty Sc where
  n := 3
  rep := fun _ _ cs s => cs = [.int .i64 s.op, .int .i64 s.off, .int .i64 s.err] ∧ I64 s.op ∧ I64 s.off ∧ I64 s.err
  len := fun _ _ _ _ h => by rw [h.1]; rfl
  mono := fun _ _ _ _ _ _ h => h
  wider := fun _ _ _ _ _ _ h => h
theorem scT_now : Ty.Now scT := ⟨by decide, fun _ _ _ _ h => h⟩
def rcT : Ty Rc where
  n := 6
  rep := fun F w cs r => ∃ v, cs = [.int .i64 r.scn, .int .i64 r.num, .int .i64 r.kind, .int .i64 r.time, .string r.label, v] ∧ I64 r.scn ∧ I64 r.num ∧ I64 r.kind ∧ I64 r.time ∧ r.label.size ≤ 9223372036854775807 ∧ SL strT F w v r.cont
  len := fun _ _ _ _ h => by obtain ⟨v, h, _⟩ := h; rw [h]; rfl
  mono := fun _ _ _ _ _ hk h => by obtain ⟨v, h, h1, h2, h3, h4, h5, hs⟩ := h; exact ⟨v, h, h1, h2, h3, h4, h5, hs.mono hk⟩
  wider := fun _ _ _ _ _ hF h => by obtain ⟨v, h, h1, h2, h3, h4, h5, hs⟩ := h; exact ⟨v, h, h1, h2, h3, h4, h5, hs.wider hF⟩
theorem rcT_now : Ty.Now rcT := ⟨by decide, fun F w cs e ⟨v, h, h1, h2, h3, h4, h5, hs⟩ => ⟨v, h, h1, h2, h3, h4, h5, hs.now strT_now⟩⟩
abbrev SS (w : World) (v : Value) (l : List Sc) : Prop := SL scT (fun k => k < w.heap.size) w v l
abbrev SR (w : World) (v : Value) (l : List Rc) : Prop := SL rcT (fun k => k < w.heap.size) w v l
abbrev ST (w : World) (v : Value) (l : List ByteArray) : Prop := SL strT (fun k => k < w.heap.size) w v l
theorem ss_step {w w' : World} {v : Value} {l : List Sc} (h : SS w v l) (hb : Below w.heap.size w w') : SS w' v l := h.step scT_now hb
theorem sr_step {w w' : World} {v : Value} {l : List Rc} (h : SR w v l) (hb : Below w.heap.size w w') : SR w' v l := h.step rcT_now hb
theorem st_step {w w' : World} {v : Value} {l : List ByteArray} (h : ST w v l) (hb : Below w.heap.size w w') : ST w' v l := h.step strT_now hb
/-- a scanner of the list: its cells -/
theorem SS.get {F : Nat → Prop} {w : World} {ad : Addr} {n cap : Nat} {l : List Sc} (h : SL scT F w (.slice (some ad) n cap) l) {i : Nat} {e : Sc} (hx : l[i]? = some e) :
    (∀ j u, [Value.int .i64 e.op, .int .i64 e.off, .int .i64 e.err][j]? = some u → w.cell? ((ad.add ((i : Int).toNat * 3)).add j) = some u) ∧ I64 e.op ∧ I64 e.off ∧ I64 e.err := by
  obtain ⟨ad', cs, h1, _, ⟨rfl, g1, g2, g3⟩, hc⟩ := h.at hx
  cases h1
  exact ⟨hc, g1, g2, g3⟩
/-- a record's value -/
def rcV (r : Rc) (v : Value) : List Value := [.int .i64 r.scn, .int .i64 r.num, .int .i64 r.kind, .int .i64 r.time, .string r.label, v]
structure RcOK (F : Nat → Prop) (w : World) (v : Value) (r : Rc) : Prop where
  i1 : I64 r.scn
  i2 : I64 r.num
  i3 : I64 r.kind
  i4 : I64 r.time
  lb : r.label.size ≤ 9223372036854775807
  ct : SL strT F w v r.cont
theorem SR.get {F : Nat → Prop} {w : World} {ad : Addr} {n cap : Nat} {l : List Rc} (h : SL rcT F w (.slice (some ad) n cap) l) {i : Nat} {e : Rc} (hx : l[i]? = some e) :
    ∃ v, (∀ j u, (rcV e v)[j]? = some u → w.cell? ((ad.add ((i : Int).toNat * 6)).add j) = some u) ∧ RcOK F w v e := by
  obtain ⟨ad', cs, h1, _, ⟨v, rfl, g1, g2, g3, g4, g5, hs⟩, hc⟩ := h.at hx
  cases h1
  exact ⟨v, hc, g1, g2, g3, g4, g5, hs⟩
theorem RcOK.below {F : Nat → Prop} {w w' : World} {v : Value} {r : Rc} (h : RcOK F w v r) (hb : Below w.heap.size w w') : RcOK F w' v r := ⟨h.i1, h.i2, h.i3, h.i4, h.lb, h.ct.below hb⟩
theorem RcOK.step {w w' : World} {v : Value} {r : Rc} (h : RcOK (fun k => k < w.heap.size) w v r) (hb : Below w.heap.size w w') : RcOK (fun k => k < w'.heap.size) w' v r := ⟨h.i1, h.i2, h.i3, h.i4, h.lb, st_step h.ct hb⟩
end Go.PF

/- Plain theory: the chains of manifests, the events that follow. -/
namespace Go.Ord
/-- chains of different well-formed manifests, from a label to the label of the last one -/
inductive Chn (l : List Sc) (r : List Rc) (lab : ByteArray) : List Nat → ByteArray → Prop
  | nil : Chn l r lab [] lab
  | snoc {c : List Nat} {a : ByteArray} {m : Nat} {x : Rc} : Chn l r lab c a → r[m]? = some x → Val l x → a ∈ x.cont → m ∉ c → c.length < 3 → Chn l r lab (c ++ [m]) x.label
def recI (c : List Nat) : List Int := insAll [] (c.map fun i : Nat => (i : Int))
theorem recI_inc (c : List Nat) : Inc (recI c) := Inc.insAll List.Pairwise.nil
theorem mem_recI {c : List Nat} {x : Int} : x ∈ recI c ↔ ∃ i ∈ c, (i : Int) = x := by
  unfold recI
  rw [mem_insAll]
  simp
theorem recI_congr {c c' : List Nat} (h : ∀ i, i ∈ c ↔ i ∈ c') : recI c = recI c' := inc_ext (recI_inc c) (recI_inc c') fun x => by
  rw [mem_recI, mem_recI]
  constructor
  · rintro ⟨i, hi, e⟩; exact ⟨i, (h i).1 hi, e⟩
  · rintro ⟨i, hi, e⟩; exact ⟨i, (h i).2 hi, e⟩
theorem recI_snoc (c : List Nat) (i : Nat) : recI (c ++ [i]) = insS (i : Int) (recI c) := by
  unfold recI insAll
  simp
theorem recI_len {c : List Nat} (h : c.Nodup) : (recI c).length = c.length := by
  have h1 : (recI c).length ≤ (c.map fun i : Nat => (i : Int)).length := nodup_len (recI_inc c).nodup fun x hx => by
    obtain ⟨i, hi, e⟩ := mem_recI.1 hx
    exact List.mem_map.2 ⟨i, hi, e⟩
  have h2 : (c.map fun i : Nat => (i : Int)).length ≤ (recI c).length := nodup_len (List.pairwise_map.2 (h.imp fun hab e => hab (by omega))) fun x hx => by
    obtain ⟨i, hi, e⟩ := List.mem_map.1 hx
    exact mem_recI.2 ⟨i, hi, e⟩
  simp at h1 h2
  omega
theorem recI_in {c : List Nat} {i : Nat} (h : i ∈ c) : recI (c ++ [i]) = recI c := recI_congr fun j => by
  simp
  exact fun e => e ▸ h
theorem Chn.nodup {l : List Sc} {r : List Rc} {lab : ByteArray} {c : List Nat} {a : ByteArray} (h : Chn l r lab c a) : c.Nodup := by
  induction h with
  | nil => exact List.Pairwise.nil
  | snoc h1 h2 h3 h4 h5 h6 ih =>
    refine List.pairwise_append.2 ⟨ih, List.pairwise_singleton _ _, fun x hx y hy e => ?_⟩
    rw [List.mem_singleton] at hy
    subst hy
    subst e
    exact h5 hx
theorem Chn.len {l : List Sc} {r : List Rc} {lab : ByteArray} {c : List Nat} {a : ByteArray} (h : Chn l r lab c a) : c.length ≤ 3 := by
  cases h with
  | nil => simp
  | snoc h1 h2 h3 h4 h5 h6 => simp; omega
theorem Chn.lt {l : List Sc} {r : List Rc} {lab : ByteArray} {c : List Nat} {a : ByteArray} (h : Chn l r lab c a) : ∀ m ∈ c, ∃ x, r[m]? = some x ∧ Val l x ∧ x.kind = 2 := by
  induction h with
  | nil => intro m hm; cases hm
  | snoc h1 h2 h3 h4 h5 h6 ih =>
    intro m hm
    rcases List.mem_append.1 hm with h | h
    · exact ih m h
    · rw [List.mem_singleton] at h
      subst h
      exact ⟨_, h2, h3, h3.man h4⟩
/-- the events that follow for a label -/
structure Fol (l : List Sc) (r : List Rc) (lab : ByteArray) (e : Ev) : Prop where
  has : ∃ c a i x, Chn l r lab c a ∧ r[i]? = some x ∧ Val l x ∧ x.label = a ∧ e = evOf l x (recI (c ++ [i]))
theorem Fol.len {l : List Sc} {r : List Rc} {lab : ByteArray} {e : Ev} (h : Fol l r lab e) : 1 ≤ e.needs.length ∧ e.needs.length ≤ 4 := by
  obtain ⟨c, a, i, x, h1, h2, h3, h4, rfl⟩ := h.has
  have hc := h1.len
  show 1 ≤ (recI (c ++ [i])).length ∧ (recI (c ++ [i])).length ≤ 4
  by_cases hi : i ∈ c
  · rw [recI_in hi, recI_len h1.nodup]
    have : 0 < c.length := List.length_pos_of_mem hi
    omega
  · rw [recI_len (List.pairwise_append.2 ⟨h1.nodup, List.pairwise_singleton _ _, fun x hx y hy e => by rw [List.mem_singleton] at hy; subst hy; subst e; exact hi hx⟩)]
    simp
    omega
theorem Fol.size {l : List Sc} {r : List Rc} {lab : ByteArray} {c : List Nat} {a : ByteArray} (h : Chn l r lab c a) (i : Nat) : (recI (c ++ [i])).length = if i ∈ c then c.length else c.length + 1 := by
  by_cases hi : i ∈ c
  · rw [if_pos hi, recI_in hi, recI_len h.nodup]
  · rw [if_neg hi, recI_len (List.pairwise_append.2 ⟨h.nodup, List.pairwise_singleton _ _, fun x hx y hy e => by rw [List.mem_singleton] at hy; subst hy; subst e; exact hi hx⟩)]
    simp
theorem Chn.det {l : List Sc} {r : List Rc} {lab : ByteArray} {c : List Nat} {a b : ByteArray} (h : Chn l r lab c a) (h' : Chn l r lab c b) : a = b := by
  cases h with
  | nil =>
    generalize hc : ([] : List Nat) = c at h'
    cases h' with
    | nil => rfl
    | snoc => exact absurd hc.symm (by simp)
  | @snoc c0 a0 m x h1 h2 h3 h4 h5 h6 =>
    generalize hc : c0 ++ [m] = c at h'
    cases h' with
    | nil => simp at hc
    | @snoc c1 a1 m' x' g1 g2 g3 g4 g5 g6 =>
      have := List.append_inj' hc rfl
      obtain ⟨_, e⟩ := this
      simp at e
      subst e
      rw [h2] at g2
      cases g2
      rfl
theorem Chn.pre {l : List Sc} {r : List Rc} {lab : ByteArray} {c : List Nat} {b : ByteArray} (h : Chn l r lab c b) : ∀ c1 c2, c = c1 ++ c2 → ∃ a, Chn l r lab c1 a := by
  induction h with
  | nil => intro c1 c2 e; have : c1 = [] := by cases c1 with | nil => rfl | cons x c1 => simp at e
           subst this; exact ⟨_, .nil⟩
  | @snoc c0 a0 m x h1 h2 h3 h4 h5 h6 ih =>
    intro c1 c2 e
    rcases List.eq_nil_or_concat c2 with rfl | ⟨c3, y, rfl⟩
    · rw [List.append_nil] at e
      subst e
      exact ⟨_, h1.snoc h2 h3 h4 h5 h6⟩
    · rw [List.concat_eq_append, ← List.append_assoc] at e
      exact ih c1 c3 (List.append_inj' e rfl).1
theorem Chn.last {l : List Sc} {r : List Rc} {lab : ByteArray} {c : List Nat} {m : Nat} {b : ByteArray} (h : Chn l r lab (c ++ [m]) b) : ∃ a x, Chn l r lab c a ∧ r[m]? = some x ∧ Val l x ∧ a ∈ x.cont ∧ m ∉ c ∧ c.length < 3 ∧ x.label = b := by
  generalize hc : c ++ [m] = c' at h
  cases h with
  | nil => simp at hc
  | @snoc c1 a1 m' x' g1 g2 g3 g4 g5 g6 =>
    obtain ⟨rfl, e⟩ := List.append_inj' hc rfl
    simp at e
    subst e
    exact ⟨_, _, g1, g2, g3, g4, g5, g6, rfl⟩
/-- the events that follow through a chain, or a longer one -/
def Ext (l : List Sc) (r : List Rc) (lab : ByteArray) (c : List Nat) (e : Ev) : Prop := ∃ c' b i x, Chn l r lab (c ++ c') b ∧ r[i]? = some x ∧ Val l x ∧ x.label = b ∧ e = evOf l x (recI (c ++ c' ++ [i]))
theorem ext_step {l : List Sc} {r : List Rc} {lab : ByteArray} {c : List Nat} {a : ByteArray} (h : Chn l r lab c a) (e : Ev) : Ext l r lab c e ↔ (∃ i x, r[i]? = some x ∧ Val l x ∧ x.label = a ∧ e = evOf l x (recI (c ++ [i]))) ∨ ∃ m x, r[m]? = some x ∧ Val l x ∧ a ∈ x.cont ∧ m ∉ c ∧ c.length < 3 ∧ Ext l r lab (c ++ [m]) e := by
  constructor
  · rintro ⟨c', b, i, x, h1, h2, h3, h4, h5⟩
    cases c' with
    | nil =>
      rw [List.append_nil] at h1 h5
      have := h.det h1
      subst this
      exact .inl ⟨i, x, h2, h3, h4, h5⟩
    | cons m c' =>
      right
      have e1 : c ++ m :: c' = (c ++ [m]) ++ c' := by simp
      rw [e1] at h1 h5
      obtain ⟨b', hb'⟩ := h1.pre _ _ rfl
      obtain ⟨a', y, g1, g2, g3, g4, g5, g6, g7⟩ := hb'.last
      have := h.det g1
      subst this
      exact ⟨m, y, g2, g3, g4, g5, g6, c', b, i, x, h1, h2, h3, h4, h5⟩
  · rintro (⟨i, x, h2, h3, h4, h5⟩ | ⟨m, y, g2, g3, g4, g5, g6, c', b, i, x, h1, h2, h3, h4, h5⟩)
    · exact ⟨[], a, i, x, by simpa using h, h2, h3, h4, by simpa using h5⟩
    · have e1 : c ++ m :: c' = (c ++ [m]) ++ c' := by simp
      exact ⟨m :: c', b, i, x, by rw [e1]; exact h1, h2, h3, h4, by rw [e1]; exact h5⟩
theorem fol_iff {l : List Sc} {r : List Rc} {lab : ByteArray} {e : Ev} : Fol l r lab e ↔ Ext l r lab [] e := by
  constructor
  · rintro ⟨c, a, i, x, h1, h2, h3, h4, h5⟩
    exact ⟨c, a, i, x, h1, h2, h3, h4, h5⟩
  · rintro ⟨c, a, i, x, h1, h2, h3, h4, h5⟩
    exact ⟨c, a, i, x, h1, h2, h3, h4, h5⟩
theorem Ext.len {l : List Sc} {r : List Rc} {lab : ByteArray} {c : List Nat} {e : Ev} (h : Ext l r lab c e) : c.length ≤ e.needs.length ∧ e.needs.length ≤ 4 := by
  obtain ⟨c', b, i, x, h1, h2, h3, h4, rfl⟩ := h
  show c.length ≤ (recI (c ++ c' ++ [i])).length ∧ (recI (c ++ c' ++ [i])).length ≤ 4
  have h5 := Fol.size h1 i
  have h6 := h1.len
  simp at h6
  rw [h5]
  split
  · simp; omega
  · simp; omega
/-- what the walk for one size looks at: at a chain, only some records; further only while the chain is short -/
theorem ext_size {l : List Sc} {r : List Rc} {lab : ByteArray} {c : List Nat} {a : ByteArray} {n : Nat} (h : Chn l r lab c a) (hn : c.length ≤ min n 3) (e : Ev) : (Ext l r lab c e ∧ e.needs.length = n) ↔
    (n ≤ c.length + 1 ∧ ∃ i x, r[i]? = some x ∧ Val l x ∧ x.label = a ∧ (i ∈ c ↔ c.length = n) ∧ e = evOf l x (recI (c ++ [i]))) ∨ (c.length ≠ min n 3 ∧ ∃ m x, r[m]? = some x ∧ Val l x ∧ a ∈ x.cont ∧ m ∉ c ∧ Ext l r lab (c ++ [m]) e ∧ e.needs.length = n) := by
  rw [ext_step h]
  constructor
  · rintro ⟨⟨i, x, h2, h3, h4, rfl⟩ | ⟨m, x, g1, g2, g3, g4, g5, g6⟩, hl⟩
    · left
      have hs := Fol.size h i
      have hl' : (recI (c ++ [i])).length = n := hl
      rw [hs] at hl'
      by_cases hi : i ∈ c
      · rw [if_pos hi] at hl'
        exact ⟨by omega, i, x, h2, h3, h4, ⟨fun _ => hl', fun _ => hi⟩, rfl⟩
      · rw [if_neg hi] at hl'
        exact ⟨by omega, i, x, h2, h3, h4, ⟨fun h => absurd h hi, fun h => by omega⟩, rfl⟩
    · right
      have := g6.len.1
      simp at this
      exact ⟨by omega, m, x, g1, g2, g3, g4, g6, hl⟩
  · rintro (⟨h1, i, x, h2, h3, h4, h5, rfl⟩ | ⟨h1, m, x, g1, g2, g3, g4, g6, hl⟩)
    · refine ⟨.inl ⟨i, x, h2, h3, h4, rfl⟩, ?_⟩
      show (recI (c ++ [i])).length = n
      rw [Fol.size h i]
      by_cases hi : i ∈ c
      · rw [if_pos hi]; exact h5.1 hi
      · rw [if_neg hi]
        have : c.length ≠ n := fun e => hi (h5.2 e)
        omega
    · exact ⟨.inr ⟨m, x, g1, g2, g3, g4, by omega, g6⟩, hl⟩
end Go.Ord

/- Plain: what the laws of the evidence need of the events that follow. -/
namespace Go.Ord
theorem Fol.facts {l : List Sc} {r : List Rc} {lab : ByteArray} {e : Ev} (h : Fol l r lab e) : Inc e.needs ∧ (∀ n ∈ e.needs, ∃ (i : Nat) (x : Rc), n = (i : Int) ∧ r[i]? = some x ∧ Val l x) ∧ (∃ (i : Nat) (x : Rc), (i : Int) ∈ e.needs ∧ r[i]? = some x ∧ e = evOf l x e.needs) ∧ ∀ n, e.needs = [n] → ∃ (i : Nat) (x : Rc), n = (i : Int) ∧ r[i]? = some x ∧ (x.label = lab ∨ x.kind = 2) := by
  obtain ⟨c, a, i, x, h1, h2, h3, h4, rfl⟩ := h.has
  have hm : ∀ n, n ∈ recI (c ++ [i]) → ∃ (j : Nat) (y : Rc), n = (j : Int) ∧ r[j]? = some y ∧ Val l y := fun n hn => by
    obtain ⟨j, hj, rfl⟩ := mem_recI.1 hn
    rcases List.mem_append.1 hj with hj | hj
    · obtain ⟨y, g1, g2, _⟩ := h1.lt j hj
      exact ⟨j, y, rfl, g1, g2⟩
    · rw [List.mem_singleton] at hj
      subst hj
      exact ⟨j, x, rfl, h2, h3⟩
  refine ⟨recI_inc _, hm, ⟨i, x, mem_recI.2 ⟨i, by simp, rfl⟩, h2, rfl⟩, fun n hn => ?_⟩
  have hi : (i : Int) = n := by
    have h5 : (i : Int) ∈ (evOf l x (recI (c ++ [i]))).needs := mem_recI.2 ⟨i, by simp, rfl⟩
    rw [hn] at h5
    exact List.mem_singleton.1 h5
  refine ⟨i, x, hi.symm, h2, ?_⟩
  by_cases hc : c = []
  · subst hc
    have := h1.det .nil
    rw [h4, this]
    exact .inl rfl
  · obtain ⟨m, hmc⟩ := List.exists_mem_of_ne_nil c hc
    have h5 : (m : Int) ∈ (evOf l x (recI (c ++ [i]))).needs := mem_recI.2 ⟨m, by simp [hmc], rfl⟩
    rw [hn] at h5
    have h6 := List.mem_singleton.1 h5
    have : m = i := by omega
    subst this
    obtain ⟨y, g1, _, g3⟩ := h1.lt m hmc
    rw [h2] at g1
    cases g1
    exact .inr g3

theorem canon_nodup (l : List Ev) : (canon l).Nodup := (srt_canon l).imp fun h e => by subst e; exact ltE_irrefl h
theorem nodup_lenC {α : Type} {l k : List α} (h : l.Nodup) (hs : ∀ x ∈ l, x ∈ k) : l.length ≤ k.length := by
  classical
  exact nodup_len h hs
theorem canon_len {l : List Ev} (h : l.Nodup) : (canon l).length = l.length := Nat.le_antisymm (nodup_lenC (canon_nodup l) fun x hx => mem_canon.1 hx) (nodup_lenC h fun x hx => mem_canon.2 hx)
theorem canon_len_le (l : List Ev) : (canon l).length ≤ l.length := nodup_lenC (canon_nodup l) fun x hx => mem_canon.1 hx
theorem canon_self {l : List Ev} (h : SrtE l) : canon l = l := (canon_of h fun _ => Iff.rfl).symm
theorem SrtE.filter {l : List Ev} (p : Ev → Bool) (h : SrtE l) : SrtE (l.filter p) := List.Pairwise.sublist List.filter_sublist h

/-! ### the records in the opposite order -/
def revI (n : Nat) (l : List Int) : List Int := (l.map fun k => (n : Int) - 1 - k).reverse
def revEv (n : Nat) (e : Ev) : Ev := ⟨e.office, e.low, e.high, revI n e.needs⟩
theorem mem_revI {n : Nat} {l : List Int} {x : Int} : x ∈ revI n l ↔ (n : Int) - 1 - x ∈ l := by
  unfold revI
  rw [List.mem_reverse, List.mem_map]
  constructor
  · rintro ⟨k, h, e⟩
    rw [show (n : Int) - 1 - x = k by omega]
    exact h
  · exact fun h => ⟨_, h, by omega⟩
theorem revI_inc {n : Nat} {l : List Int} (h : Inc l) : Inc (revI n l) := by
  unfold revI Inc
  rw [List.pairwise_reverse, List.pairwise_map]
  exact h.imp fun h => by omega
theorem revI_revI (n : Nat) (l : List Int) : revI n (revI n l) = l := by
  unfold revI
  rw [List.map_reverse, List.reverse_reverse, List.map_map]
  conv => rhs; rw [← List.map_id l]
  refine List.map_congr_left fun x _ => ?_
  show (n : Int) - 1 - ((n : Int) - 1 - x) = x
  omega
theorem revEv_revEv (n : Nat) (e : Ev) : revEv n (revEv n e) = e := by
  unfold revEv
  simp only [revI_revI]
theorem getElem?_rev {r : List Rc} {i : Nat} (h : i < r.length) : r.reverse[r.length - 1 - i]? = r[i]? := by
  rw [List.getElem?_reverse (by omega)]
  congr 1
  omega
theorem Chn.rev {l : List Sc} {r : List Rc} {lab : ByteArray} {c : List Nat} {a : ByteArray} (h : Chn l r lab c a) : Chn l r.reverse lab (c.map fun i => r.length - 1 - i) a := by
  induction h with
  | nil => exact .nil
  | @snoc c0 a0 m x h1 h2 h3 h4 h5 h6 ih =>
    have hm := (List.getElem?_eq_some_iff.1 h2).1
    rw [List.map_append]
    refine ih.snoc (by rw [getElem?_rev hm]; exact h2) h3 h4 (fun hin => ?_) (by rw [List.length_map]; exact h6)
    obtain ⟨k, hk, e⟩ := List.mem_map.1 hin
    obtain ⟨y, g1, _⟩ := h1.lt k hk
    have := (List.getElem?_eq_some_iff.1 g1).1
    dsimp only at e
    have : k = m := by omega
    subst this
    exact h5 hk
theorem recI_rev {n : Nat} {c : List Nat} (h : ∀ i ∈ c, i < n) : recI (c.map fun i => n - 1 - i) = revI n (recI c) := inc_ext (recI_inc _) (revI_inc (recI_inc _)) fun x => by
  rw [mem_revI, mem_recI, mem_recI]
  constructor
  · rintro ⟨j, hj, e⟩
    obtain ⟨i, hi, rfl⟩ := List.mem_map.1 hj
    have := h i hi
    exact ⟨i, hi, by omega⟩
  · rintro ⟨i, hi, e⟩
    have := h i hi
    exact ⟨n - 1 - i, List.mem_map.2 ⟨i, hi, rfl⟩, by omega⟩
theorem Fol.rev {l : List Sc} {r : List Rc} {lab : ByteArray} {e : Ev} (h : Fol l r lab e) : Fol l r.reverse lab (revEv r.length e) := by
  obtain ⟨c, a, i, x, h1, h2, h3, h4, rfl⟩ := h.has
  have hi := (List.getElem?_eq_some_iff.1 h2).1
  refine ⟨c.map fun i => r.length - 1 - i, a, r.length - 1 - i, x, h1.rev, by rw [getElem?_rev hi]; exact h2, h3, h4, ?_⟩
  have e1 : c.map (fun i => r.length - 1 - i) ++ [r.length - 1 - i] = (c ++ [i]).map fun i => r.length - 1 - i := by simp
  rw [e1, recI_rev (fun j hj => ?_)]
  · rfl
  · rcases List.mem_append.1 hj with hj | hj
    · obtain ⟨y, g1, _⟩ := h1.lt j hj
      exact (List.getElem?_eq_some_iff.1 g1).1
    · rw [List.mem_singleton] at hj
      omega
theorem fol_rev {l : List Sc} {r : List Rc} {lab : ByteArray} {e : Ev} : Fol l r.reverse lab e ↔ ∃ f, Fol l r lab f ∧ e = revEv r.length f := by
  constructor
  · intro h
    have := h.rev
    rw [List.reverse_reverse, List.length_reverse] at this
    exact ⟨_, this, (revEv_revEv _ _).symm⟩
  · rintro ⟨f, h, rfl⟩
    exact h.rev

/-! ### a further record -/
theorem Chn.up {l : List Sc} {r s : List Rc} {lab : ByteArray} {c : List Nat} {a : ByteArray} (h : Chn l r lab c a) : Chn l (r ++ s) lab c a := by
  induction h with
  | nil => exact .nil
  | @snoc c0 a0 m x h1 h2 h3 h4 h5 h6 ih => exact ih.snoc (by rw [List.getElem?_append_left (List.getElem?_eq_some_iff.1 h2).1]; exact h2) h3 h4 h5 h6
theorem Chn.down {l : List Sc} {r : List Rc} {y : Rc} {lab : ByteArray} {c : List Nat} {a : ByteArray} (h : Chn l (r ++ [y]) lab c a) (hc : r.length ∉ c) : Chn l r lab c a := by
  induction h with
  | nil => exact .nil
  | @snoc c0 a0 m x h1 h2 h3 h4 h5 h6 ih =>
    refine (ih fun h => hc (by simp [h])).snoc ?_ h3 h4 h5 h6
    have hm := (List.getElem?_eq_some_iff.1 h2).1
    simp at hm
    have hne : m ≠ r.length := fun e => hc (by simp [e])
    rw [List.getElem?_append_left (by omega)] at h2
    exact h2
theorem fol_more {l : List Sc} {r : List Rc} {y : Rc} {lab : ByteArray} {e : Ev} : (Fol l (r ++ [y]) lab e ∧ (r.length : Int) ∉ e.needs) ↔ Fol l r lab e := by
  constructor
  · rintro ⟨⟨c, a, i, x, h1, h2, h3, h4, rfl⟩, hn⟩
    have hni : r.length ∉ c ++ [i] := fun h => hn (mem_recI.2 ⟨_, h, rfl⟩)
    refine ⟨c, a, i, x, h1.down fun h => hni (by simp [h]), ?_, h3, h4, rfl⟩
    have hm := (List.getElem?_eq_some_iff.1 h2).1
    simp at hm
    have hne : i ≠ r.length := fun e => hni (by simp [e])
    rw [List.getElem?_append_left (by omega)] at h2
    exact h2
  · rintro ⟨c, a, i, x, h1, h2, h3, h4, rfl⟩
    have hi := (List.getElem?_eq_some_iff.1 h2).1
    refine ⟨⟨c, a, i, x, h1.up, by rw [List.getElem?_append_left hi]; exact h2, h3, h4, rfl⟩, fun h => ?_⟩
    obtain ⟨j, hj, e⟩ := mem_recI.1 h
    rcases List.mem_append.1 hj with hj | hj
    · obtain ⟨z, g1, _⟩ := h1.lt j hj
      have := (List.getElem?_eq_some_iff.1 g1).1
      omega
    · rw [List.mem_singleton] at hj
      omega
/-- a further record about other labels -/
theorem fol_other {l : List Sc} {r : List Rc} {y : Rc} {lab : ByteArray} {e : Ev} (h : Fol l (r ++ [y]) lab e) (h1 : y.label ≠ lab) (h2 : lab ∉ y.cont) (h3 : ∀ x ∈ r, x.kind ≠ 2) : (r.length : Int) ∉ e.needs := by
  obtain ⟨c, a, i, x, g1, g2, g3, g4, rfl⟩ := h.has
  have hnil : c = [] := by
    rcases c with _ | ⟨m, c⟩
    · rfl
    · obtain ⟨b, hb⟩ := g1.pre [m] c rfl
      obtain ⟨a0, z, k1, k2, k3, k4, k5, k6, k7⟩ := Chn.last (c := []) (m := m) (by simpa using hb)
      have := k1.det .nil
      subst this
      have hk := k3.man k4
      have hm := (List.getElem?_eq_some_iff.1 k2).1
      simp at hm
      rcases Nat.lt_or_ge m r.length with hlt | hge
      · rw [List.getElem?_append_left hlt] at k2
        exact absurd hk (h3 z (List.mem_of_getElem? k2))
      · have : m = r.length := by omega
        subst this
        simp at k2
        subst k2
        exact absurd k4 h2
  subst hnil
  have := g1.det .nil
  subst this
  intro hn
  obtain ⟨j, hj, e⟩ := mem_recI.1 hn
  have : j = i := by simpa using hj
  have : j = r.length := by omega
  subst this
  subst i
  simp at g2
  subst g2
  exact h1 g4

/-! ### one manifest -/
theorem fol_plain {l : List Sc} {r : List Rc} {lab : ByteArray} {e : Ev} (h : ∀ x ∈ r, x.kind ≠ 2) : Fol l r lab e ↔ ∃ (i : Nat) (x : Rc), r[i]? = some x ∧ x.label = lab ∧ Val l x ∧ e = evOf l x [(i : Int)] := by
  constructor
  · rintro ⟨c, a, i, x, g1, g2, g3, g4, g5⟩
    have hnil : c = [] := by
      rcases c with _ | ⟨m, c⟩
      · rfl
      · obtain ⟨y, k1, _, k3⟩ := g1.lt m (by simp)
        exact absurd k3 (h y (List.mem_of_getElem? k1))
    subst hnil
    have := g1.det .nil
    subst this
    exact ⟨i, x, g2, g4, g3, g5⟩
  · rintro ⟨i, x, h1, h2, h3, h4⟩
    exact ⟨[], lab, i, x, .nil, h1, h3, h2, h4⟩
/-- records without manifests, and a manifest at the end: the chains -/
theorem chn_man {l : List Sc} {r : List Rc} {m : Rc} {lab b : ByteArray} {c : List Nat} (h : ∀ x ∈ r, x.kind ≠ 2) : Chn l (r ++ [m]) lab c b ↔ (c = [] ∧ b = lab) ∨ (c = [r.length] ∧ b = m.label ∧ lab ∈ m.cont ∧ Val l m) := by
  have last : ∀ {k : Nat} {y : Rc}, (r ++ [m])[k]? = some y → y.kind = 2 → k = r.length ∧ y = m := fun {k y} h1 h2 => by
    have hk := (List.getElem?_eq_some_iff.1 h1).1
    simp at hk
    rcases Nat.lt_or_ge k r.length with hlt | hge
    · rw [List.getElem?_append_left hlt] at h1
      exact absurd h2 (h y (List.mem_of_getElem? h1))
    · have : k = r.length := by omega
      subst this
      simp at h1
      exact ⟨rfl, h1.symm⟩
  constructor
  · intro hc
    cases hc with
    | nil => exact .inl ⟨rfl, rfl⟩
    | @snoc c0 a0 k x h1 h2 h3 h4 h5 h6 =>
      obtain ⟨rfl, rfl⟩ := last h2 (h3.man h4)
      have hnil : c0 = [] := by
        rcases c0 with _ | ⟨m', c'⟩
        · rfl
        · obtain ⟨y, k1, _, k3⟩ := h1.lt m' (by simp)
          have := (last k1 k3).1
          subst this
          exact absurd (by simp) h5
      subst hnil
      have := h1.det .nil
      subst this
      exact .inr ⟨rfl, rfl, h4, h3⟩
  · rintro (⟨rfl, rfl⟩ | ⟨rfl, rfl, h1, h2⟩)
    · exact .nil
    · exact Chn.snoc (c := []) .nil (by simp) h2 h1 (by simp) (by simp)
def needM (n : Nat) (e : Ev) : Ev := if (n : Int) ∈ e.needs then e else ⟨e.office, e.low, e.high, e.needs ++ [(n : Int)]⟩
theorem fol_man {l : List Sc} {r : List Rc} {m : Rc} {lab : ByteArray} (h : ∀ x ∈ r, x.kind ≠ 2) (hm : Val l m) (hin : lab ∈ m.cont) (e : Ev) :
    Fol l (r ++ [m]) lab e ↔ (∃ (i : Nat) (x : Rc), r[i]? = some x ∧ x.label = lab ∧ Val l x ∧ e = evOf l x [(i : Int)]) ∨ ∃ f, Fol l (r ++ [m]) m.label f ∧ e = needM r.length f := by
  have hk := hm.man hin
  have hck : ∀ c ∈ m.cont, c ≠ m.label := by
    rcases hm.comp.kinds with ⟨_, h2⟩ | ⟨_, _, h2, _⟩
    · rw [h2]; intro c hc; cases hc
    · exact fun c hc => (h2 c hc).2
  have hne : lab ≠ m.label := hck lab hin
  -- the container's events
  have hF : ∀ f, Fol l (r ++ [m]) m.label f ↔ ∃ (i : Nat) (x : Rc), (r ++ [m])[i]? = some x ∧ x.label = m.label ∧ Val l x ∧ f = evOf l x [(i : Int)] := fun f => by
    constructor
    · rintro ⟨c, a, i, x, g1, g2, g3, g4, g5⟩
      rcases (chn_man h).1 g1 with ⟨rfl, rfl⟩ | ⟨_, _, hh, _⟩
      · exact ⟨i, x, g2, g4, g3, g5⟩
      · exact absurd rfl (hck _ hh)
    · rintro ⟨i, x, g1, g2, g3, g4⟩
      exact ⟨[], _, i, x, .nil, g1, g3, g2, g4⟩
  have hmap : ∀ (i : Nat) (x : Rc), i ≤ r.length → evOf l x (recI ([r.length] ++ [i])) = needM r.length (evOf l x [(i : Int)]) := fun i x hi => by
    unfold needM
    by_cases hir : i = r.length
    · subst hir
      rw [if_pos (by simp [evOf])]
      rw [recI_in (c := [r.length]) (by simp)]
      rfl
    · rw [if_neg (by simp [evOf]; omega)]
      show evOf l x _ = evOf l x ([(i : Int)] ++ [(r.length : Int)])
      congr 1
      refine inc_ext (recI_inc _) (by unfold Inc; simp; omega) fun z => ?_
      rw [mem_recI]
      simp
      constructor
      · rintro (h | h) <;> omega
      · rintro (h | h) <;> omega
  constructor
  · rintro ⟨c, a, i, x, g1, g2, g3, g4, g5⟩
    rcases (chn_man h).1 g1 with ⟨rfl, rfl⟩ | ⟨rfl, rfl, _, _⟩
    · left
      have hi := (List.getElem?_eq_some_iff.1 g2).1
      simp at hi
      rcases Nat.lt_or_ge i r.length with hlt | hge
      · rw [List.getElem?_append_left hlt] at g2
        exact ⟨i, x, g2, g4, g3, g5⟩
      · have : i = r.length := by omega
        subst this
        simp at g2
        subst g2
        exact absurd g4.symm hne
    · right
      have hi := (List.getElem?_eq_some_iff.1 g2).1
      simp at hi
      exact ⟨_, (hF _).2 ⟨i, x, g2, g4, g3, rfl⟩, by rw [g5, hmap i x (by omega)]⟩
  · rintro (⟨i, x, g1, g2, g3, g4⟩ | ⟨f, hf, rfl⟩)
    · have hi := (List.getElem?_eq_some_iff.1 g1).1
      exact ⟨[], lab, i, x, .nil, by rw [List.getElem?_append_left hi]; exact g1, g3, g2, g4⟩
    · obtain ⟨i, x, g1, g2, g3, rfl⟩ := (hF f).1 hf
      have hi := (List.getElem?_eq_some_iff.1 g1).1
      simp at hi
      exact ⟨[r.length], m.label, i, x, (chn_man h).2 (.inr ⟨rfl, rfl, hin, hm⟩), g1, g3, g2, (hmap i x (by omega)).symm⟩
end Go.Ord
