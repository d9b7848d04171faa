/- Rules on strings and bytes; slicing; arrays; scopes; what a region's own mode needs. -/
import Derived.Test.YthldjchogdefjaaDoorDrawO
import Derived.Scope
import Derived.Laws.IdiomStrings
import Derived.Laws.Strings3
import Derived.Laws.Runes
namespace Go.PF
open Go.RowKit

theorem wrap8_fits {z : Int} (h : 0 ≤ z ∧ z ≤ 255) : IntKind.u8.wrap z = z := by
  rw [IntKind.wrap_u8]; omega

section
variable {P : Program} {r : Option Nat} {Q : Exit → Act → World → Prop} {N : Nat} {ds : List Deferred} {ops rest : List Oper} {E : Env} {D : DE} {w : World} {G : Option Bool} {Fin : DE → Prop} {md : Mode}
variable {d : Option Tmp} {ty : TypeId} {pos : String} {af : Array Edge} {gu : Option (Nat × Bool)}
variable {x y z : Operand} {cx cy cz : Option Bool} {ρ : Operand → Value}

theorem CW.scope {c : Code} (h : CW P none (Exit.noGoto Q) N ds c E w) : CW P none Q N ds (.scope c) E w := fun a ha => wpIn_wide.2 (wp_scope_straight (wpIn_wide.1 (h a ha)))
theorem CW.label {l : Nat} (h : KW N ds (Q .normal) E w) : CW P r Q N ds (.label l) E w := fun a ha => wpIn_label (h a ha)
theorem KW.scopeN (h : KW N ds (Q .normal) E w) : KW N ds (Exit.noGoto Q .normal) E w := h
theorem KW.scopeX {id : Nat} (h : KW N ds (Q (.exit id)) E w) : KW N ds (Exit.noGoto Q (.exit id)) E w := h
theorem KW.scopeR (h : KW N ds (Q .ret) E w) : KW N ds (Exit.noGoto Q .ret) E w := h
/-- an operation whose guard is known false -/
theorem TW.dead {o : Oper} (v : Value) (hg : gd ops E o.guard = some G) (hn : ¬ Cnd G) (hd : okDst N o.dst = true) (next : TW P r Q N ds ops rest (ins E o.dst G v) w) : TW P r Q N ds ops (o :: rest) E w := by
  intro a ha
  obtain ⟨_, h2⟩ := wanted_of ha hg
  unfold wpListIn
  rw [if_neg (by rw [h2 hn]; simp)]
  exact ⟨fun _ _ => trivial, next _ (ha.put hd (fun h => absurd h hn) (fun _ => rfl))⟩
theorem DW.dead {o : Oper} (v : Value) (hg : dgd ops D o.guard = some G) (hn : ¬ Cnd G) (hd : okDst N o.dst = true) (hno : noDefer o.op = true) (next : DW P N ds md ops w Fin rest (dins D o.dst G (.ex v))) : DW P N ds md ops w Fin (o :: rest) D :=
  DW.val hg hd hno (fun hG => absurd hG hn) next
theorem RW.end {s : Nat} (hs : s = ops.length) (h : KW N ds (Q .normal) E w) : RW P r Q N ds ops s E w := by subst hs; exact RW.nil h
theorem KW.rk {s : Nat} (h : RW P r Q N ds ops s E w) : KW N ds (Exit.then (RK P r Q ops s) Q .normal) E w := h
theorem KW.rk' {s : Nat} (h : RW P r Q N ds ops s E w) : KW N ds (RK P r Q ops s) E w := h

theorem X.add8 {m n : Int} {t t' : TypeId}  (hx : ρ x = .int .u8 m) (hy : ρ y = .int .u8 n) (hb : 0 ≤ m + n ∧ m + n ≤ 255) : (execOp ρ ⟨d, .binOp .add t x y t', ty, pos, af, gu⟩).run P w = .ok (.value (.int .u8 (m + n))) w := by 
    simp only [execOp]; rw [hx, hy, eqGuard_add, binOp_add]
    show Result.ok (Next.value (Value.int .u8 (IntKind.u8.wrap (m + n)))) w = _
    rw [wrap8_fits hb]
theorem TW.add8 {m n : Int} {t t' : TypeId} (hg : gd ops E gu = some G) (hd : okDst N d = true)  (hx : ev E x = some (cx, .int .u8 m)) (ix : Cnd G → Cnd cx) (hy : ev E y = some (cy, .int .u8 n)) (iy : Cnd G → Cnd cy) (hb : Cnd G → 0 ≤ m + n ∧ m + n ≤ 255)
    (next : TW P r Q N ds ops rest (ins E d G (.int .u8 (m + n))) w) : TW P r Q N ds ops (⟨d, .binOp .add t x y t', ty, pos, af, gu⟩ :: rest) E w :=
  TW.val hg hd rfl (fun hG _ ha => X.add8  (ha.eval hx (ix hG)) (ha.eval hy (iy hG)) (hb hG)) next
theorem DW.add8 {m n : Int} {t t' : TypeId} (hg : dgd ops D gu = some G) (hd : okDst N d = true)  (hx : dev D x = some (cx, .ex (.int .u8 m))) (ix : Cnd G → Cnd cx) (hy : dev D y = some (cy, .ex (.int .u8 n))) (iy : Cnd G → Cnd cy) (hb : Cnd G → 0 ≤ m + n ∧ m + n ≤ 255)
    (next : DW P N ds md ops w Fin rest (dins D d G (.ex (.int .u8 (m + n))))) : DW P N ds md ops w Fin (⟨d, .binOp .add t x y t', ty, pos, af, gu⟩ :: rest) D :=
  DW.val hg hd rfl (fun hG _ _ _ ha => X.add8  (ha.eval (o := ⟨d, .binOp .add t x y t', ty, pos, af, gu⟩) hx (by simp [Op.operands, Call.operands]) (ix hG)) (ha.eval (o := ⟨d, .binOp .add t x y t', ty, pos, af, gu⟩) hy (by simp [Op.operands, Call.operands]) (iy hG)) (hb hG)) next
theorem X.sub8 {m n : Int} {t t' : TypeId}  (hx : ρ x = .int .u8 m) (hy : ρ y = .int .u8 n) (hb : 0 ≤ m - n ∧ m - n ≤ 255) : (execOp ρ ⟨d, .binOp .sub t x y t', ty, pos, af, gu⟩).run P w = .ok (.value (.int .u8 (m - n))) w := by 
    simp only [execOp]; rw [hx, hy, eqGuard_sub, binOp_sub]
    show Result.ok (Next.value (Value.int .u8 (IntKind.u8.wrap (m - n)))) w = _
    rw [wrap8_fits hb]
theorem TW.sub8 {m n : Int} {t t' : TypeId} (hg : gd ops E gu = some G) (hd : okDst N d = true)  (hx : ev E x = some (cx, .int .u8 m)) (ix : Cnd G → Cnd cx) (hy : ev E y = some (cy, .int .u8 n)) (iy : Cnd G → Cnd cy) (hb : Cnd G → 0 ≤ m - n ∧ m - n ≤ 255)
    (next : TW P r Q N ds ops rest (ins E d G (.int .u8 (m - n))) w) : TW P r Q N ds ops (⟨d, .binOp .sub t x y t', ty, pos, af, gu⟩ :: rest) E w :=
  TW.val hg hd rfl (fun hG _ ha => X.sub8  (ha.eval hx (ix hG)) (ha.eval hy (iy hG)) (hb hG)) next
theorem DW.sub8 {m n : Int} {t t' : TypeId} (hg : dgd ops D gu = some G) (hd : okDst N d = true)  (hx : dev D x = some (cx, .ex (.int .u8 m))) (ix : Cnd G → Cnd cx) (hy : dev D y = some (cy, .ex (.int .u8 n))) (iy : Cnd G → Cnd cy) (hb : Cnd G → 0 ≤ m - n ∧ m - n ≤ 255)
    (next : DW P N ds md ops w Fin rest (dins D d G (.ex (.int .u8 (m - n))))) : DW P N ds md ops w Fin (⟨d, .binOp .sub t x y t', ty, pos, af, gu⟩ :: rest) D :=
  DW.val hg hd rfl (fun hG _ _ _ ha => X.sub8  (ha.eval (o := ⟨d, .binOp .sub t x y t', ty, pos, af, gu⟩) hx (by simp [Op.operands, Call.operands]) (ix hG)) (ha.eval (o := ⟨d, .binOp .sub t x y t', ty, pos, af, gu⟩) hy (by simp [Op.operands, Call.operands]) (iy hG)) (hb hG)) next
theorem X.addS {s s' : ByteArray} {t t' : TypeId}  (hx : ρ x = .string s) (hy : ρ y = .string s') (hb : s.size + s'.size ≤ 9223372036854775807) : (execOp ρ ⟨d, .binOp .add t x y t', ty, pos, af, gu⟩).run P w = .ok (.value (.string (s ++ s'))) w := by 
    simp only [execOp]; rw [hx, hy, eqGuard_add, binOp_string_add]
    have h : ¬ (((s.size + s'.size : Nat) : Int) > IntKind.i64.max) := by
      have e : IntKind.i64.max = 9223372036854775807 := by decide
      rw [e]; omega
    unfold Op.stringOp
    simp only [if_neg h]; rfl
theorem TW.addS {s s' : ByteArray} {t t' : TypeId} (hg : gd ops E gu = some G) (hd : okDst N d = true)  (hx : ev E x = some (cx, .string s)) (ix : Cnd G → Cnd cx) (hy : ev E y = some (cy, .string s')) (iy : Cnd G → Cnd cy) (hb : Cnd G → s.size + s'.size ≤ 9223372036854775807)
    (next : TW P r Q N ds ops rest (ins E d G (.string (s ++ s'))) w) : TW P r Q N ds ops (⟨d, .binOp .add t x y t', ty, pos, af, gu⟩ :: rest) E w :=
  TW.val hg hd rfl (fun hG _ ha => X.addS  (ha.eval hx (ix hG)) (ha.eval hy (iy hG)) (hb hG)) next
theorem DW.addS {s s' : ByteArray} {t t' : TypeId} (hg : dgd ops D gu = some G) (hd : okDst N d = true)  (hx : dev D x = some (cx, .ex (.string s))) (ix : Cnd G → Cnd cx) (hy : dev D y = some (cy, .ex (.string s'))) (iy : Cnd G → Cnd cy) (hb : Cnd G → s.size + s'.size ≤ 9223372036854775807)
    (next : DW P N ds md ops w Fin rest (dins D d G (.ex (.string (s ++ s'))))) : DW P N ds md ops w Fin (⟨d, .binOp .add t x y t', ty, pos, af, gu⟩ :: rest) D :=
  DW.val hg hd rfl (fun hG _ _ _ ha => X.addS  (ha.eval (o := ⟨d, .binOp .add t x y t', ty, pos, af, gu⟩) hx (by simp [Op.operands, Call.operands]) (ix hG)) (ha.eval (o := ⟨d, .binOp .add t x y t', ty, pos, af, gu⟩) hy (by simp [Op.operands, Call.operands]) (iy hG)) (hb hG)) next
theorem X.lssS {s s' : ByteArray} {t t' : TypeId}  (hx : ρ x = .string s) (hy : ρ y = .string s')  : (execOp ρ ⟨d, .binOp .lss t x y t', ty, pos, af, gu⟩).run P w = .ok (.value (.bool (Op.bytesLess s.toList s'.toList))) w := by simp only [execOp]; rw [hx, hy, eqGuard_lss, binOp_string_lss]; rfl
theorem TW.lssS {s s' : ByteArray} {t t' : TypeId} (hg : gd ops E gu = some G) (hd : okDst N d = true)  (hx : ev E x = some (cx, .string s)) (ix : Cnd G → Cnd cx) (hy : ev E y = some (cy, .string s')) (iy : Cnd G → Cnd cy) 
    (next : TW P r Q N ds ops rest (ins E d G (.bool (Op.bytesLess s.toList s'.toList))) w) : TW P r Q N ds ops (⟨d, .binOp .lss t x y t', ty, pos, af, gu⟩ :: rest) E w :=
  TW.val hg hd rfl (fun hG _ ha => X.lssS  (ha.eval hx (ix hG)) (ha.eval hy (iy hG)) ) next
theorem DW.lssS {s s' : ByteArray} {t t' : TypeId} (hg : dgd ops D gu = some G) (hd : okDst N d = true)  (hx : dev D x = some (cx, .ex (.string s))) (ix : Cnd G → Cnd cx) (hy : dev D y = some (cy, .ex (.string s'))) (iy : Cnd G → Cnd cy) 
    (next : DW P N ds md ops w Fin rest (dins D d G (.ex (.bool (Op.bytesLess s.toList s'.toList))))) : DW P N ds md ops w Fin (⟨d, .binOp .lss t x y t', ty, pos, af, gu⟩ :: rest) D :=
  DW.val hg hd rfl (fun hG _ _ _ ha => X.lssS  (ha.eval (o := ⟨d, .binOp .lss t x y t', ty, pos, af, gu⟩) hx (by simp [Op.operands, Call.operands]) (ix hG)) (ha.eval (o := ⟨d, .binOp .lss t x y t', ty, pos, af, gu⟩) hy (by simp [Op.operands, Call.operands]) (iy hG)) ) next
theorem X.geqS {s s' : ByteArray} {t t' : TypeId}  (hx : ρ x = .string s) (hy : ρ y = .string s')  : (execOp ρ ⟨d, .binOp .geq t x y t', ty, pos, af, gu⟩).run P w = .ok (.value (.bool (!(Op.bytesLess s.toList s'.toList)))) w := by simp only [execOp]; rw [hx, hy, eqGuard_geq]; rfl
theorem TW.geqS {s s' : ByteArray} {t t' : TypeId} (hg : gd ops E gu = some G) (hd : okDst N d = true)  (hx : ev E x = some (cx, .string s)) (ix : Cnd G → Cnd cx) (hy : ev E y = some (cy, .string s')) (iy : Cnd G → Cnd cy) 
    (next : TW P r Q N ds ops rest (ins E d G (.bool (!(Op.bytesLess s.toList s'.toList)))) w) : TW P r Q N ds ops (⟨d, .binOp .geq t x y t', ty, pos, af, gu⟩ :: rest) E w :=
  TW.val hg hd rfl (fun hG _ ha => X.geqS  (ha.eval hx (ix hG)) (ha.eval hy (iy hG)) ) next
theorem DW.geqS {s s' : ByteArray} {t t' : TypeId} (hg : dgd ops D gu = some G) (hd : okDst N d = true)  (hx : dev D x = some (cx, .ex (.string s))) (ix : Cnd G → Cnd cx) (hy : dev D y = some (cy, .ex (.string s'))) (iy : Cnd G → Cnd cy) 
    (next : DW P N ds md ops w Fin rest (dins D d G (.ex (.bool (!(Op.bytesLess s.toList s'.toList)))))) : DW P N ds md ops w Fin (⟨d, .binOp .geq t x y t', ty, pos, af, gu⟩ :: rest) D :=
  DW.val hg hd rfl (fun hG _ _ _ ha => X.geqS  (ha.eval (o := ⟨d, .binOp .geq t x y t', ty, pos, af, gu⟩) hx (by simp [Op.operands, Call.operands]) (ix hG)) (ha.eval (o := ⟨d, .binOp .geq t x y t', ty, pos, af, gu⟩) hy (by simp [Op.operands, Call.operands]) (iy hG)) ) next
theorem X.convIS {k : IntKind} {m : Int} {t t' : TypeId} (hs : (P.underlying t).isSome = true) (hd' : P.underlying t' = some .string) (hx : ρ x = .int k m)  : (execOp ρ ⟨d, .convert t t' x, ty, pos, af, gu⟩).run P w = .ok (.value (.string (Utf8.encode m))) w := by simp only [execOp]; rw [hx]; simp [run_convert_int_string w t t' k m hs hd']
theorem TW.convIS {k : IntKind} {m : Int} {t t' : TypeId} (hg : gd ops E gu = some G) (hd : okDst N d = true) (hs : (P.underlying t).isSome = true) (hd' : P.underlying t' = some .string) (hx : ev E x = some (cx, .int k m)) (ix : Cnd G → Cnd cx) 
    (next : TW P r Q N ds ops rest (ins E d G (.string (Utf8.encode m))) w) : TW P r Q N ds ops (⟨d, .convert t t' x, ty, pos, af, gu⟩ :: rest) E w :=
  TW.val hg hd rfl (fun hG _ ha => X.convIS hs hd' (ha.eval hx (ix hG)) ) next
theorem DW.convIS {k : IntKind} {m : Int} {t t' : TypeId} (hg : dgd ops D gu = some G) (hd : okDst N d = true) (hs : (P.underlying t).isSome = true) (hd' : P.underlying t' = some .string) (hx : dev D x = some (cx, .ex (.int k m))) (ix : Cnd G → Cnd cx) 
    (next : DW P N ds md ops w Fin rest (dins D d G (.ex (.string (Utf8.encode m))))) : DW P N ds md ops w Fin (⟨d, .convert t t' x, ty, pos, af, gu⟩ :: rest) D :=
  DW.val hg hd rfl (fun hG _ _ _ ha => X.convIS hs hd' (ha.eval (o := ⟨d, .convert t t' x, ty, pos, af, gu⟩) hx (by simp [Op.operands, Call.operands]) (ix hG)) ) next
theorem X.sliceSLH {s : ByteArray} {k k' : IntKind} {i j : Int} {t : TypeId} (ht : P.underlying t = some .string) (hx : ρ x = .string s) (hy : ρ y = .int k i) (hz : ρ z = .int k' j) (hb : 0 ≤ i ∧ i ≤ j ∧ j ≤ (s.size : Int)) : (execOp ρ ⟨d, .slice t x (some y) (some z) none, ty, pos, af, gu⟩).run P w = .ok (.value (.string (s.extract i.toNat j.toNat))) w := by simp only [execOp, Option.map_some, Option.map_none]; rw [hx, hy, hz]; simp [run_sliceAt_string w t _ _ _ _ ht, run_slice_string w t s k k' i j ht hb.1 hb.2.1 hb.2.2]
theorem TW.sliceSLH {s : ByteArray} {k k' : IntKind} {i j : Int} {t : TypeId} (hg : gd ops E gu = some G) (hd : okDst N d = true) (ht : P.underlying t = some .string) (hx : ev E x = some (cx, .string s)) (ix : Cnd G → Cnd cx) (hy : ev E y = some (cy, .int k i)) (iy : Cnd G → Cnd cy) (hz : ev E z = some (cz, .int k' j)) (iz : Cnd G → Cnd cz) (hb : Cnd G → 0 ≤ i ∧ i ≤ j ∧ j ≤ (s.size : Int))
    (next : TW P r Q N ds ops rest (ins E d G (.string (s.extract i.toNat j.toNat))) w) : TW P r Q N ds ops (⟨d, .slice t x (some y) (some z) none, ty, pos, af, gu⟩ :: rest) E w :=
  TW.val hg hd rfl (fun hG _ ha => X.sliceSLH ht (ha.eval hx (ix hG)) (ha.eval hy (iy hG)) (ha.eval hz (iz hG)) (hb hG)) next
theorem DW.sliceSLH {s : ByteArray} {k k' : IntKind} {i j : Int} {t : TypeId} (hg : dgd ops D gu = some G) (hd : okDst N d = true) (ht : P.underlying t = some .string) (hx : dev D x = some (cx, .ex (.string s))) (ix : Cnd G → Cnd cx) (hy : dev D y = some (cy, .ex (.int k i))) (iy : Cnd G → Cnd cy) (hz : dev D z = some (cz, .ex (.int k' j))) (iz : Cnd G → Cnd cz) (hb : Cnd G → 0 ≤ i ∧ i ≤ j ∧ j ≤ (s.size : Int))
    (next : DW P N ds md ops w Fin rest (dins D d G (.ex (.string (s.extract i.toNat j.toNat))))) : DW P N ds md ops w Fin (⟨d, .slice t x (some y) (some z) none, ty, pos, af, gu⟩ :: rest) D :=
  DW.val hg hd rfl (fun hG _ _ _ ha => X.sliceSLH ht (ha.eval (o := ⟨d, .slice t x (some y) (some z) none, ty, pos, af, gu⟩) hx (by simp [Op.operands, Call.operands]) (ix hG)) (ha.eval (o := ⟨d, .slice t x (some y) (some z) none, ty, pos, af, gu⟩) hy (by simp [Op.operands, Call.operands]) (iy hG)) (ha.eval (o := ⟨d, .slice t x (some y) (some z) none, ty, pos, af, gu⟩) hz (by simp [Op.operands, Call.operands]) (iz hG)) (hb hG)) next
theorem X.sliceSL {s : ByteArray} {k : IntKind} {i : Int} {t : TypeId} (ht : P.underlying t = some .string) (hx : ρ x = .string s) (hy : ρ y = .int k i) (hb : 0 ≤ i ∧ i ≤ (s.size : Int)) : (execOp ρ ⟨d, .slice t x (some y) none none, ty, pos, af, gu⟩).run P w = .ok (.value (.string (s.extract i.toNat s.size))) w := by simp only [execOp, Option.map_some, Option.map_none]; rw [hx, hy]; simp [run_sliceAt_string w t _ _ _ _ ht, run_slice_string_l w t s ht k i hb.1 hb.2]
theorem TW.sliceSL {s : ByteArray} {k : IntKind} {i : Int} {t : TypeId} (hg : gd ops E gu = some G) (hd : okDst N d = true) (ht : P.underlying t = some .string) (hx : ev E x = some (cx, .string s)) (ix : Cnd G → Cnd cx) (hy : ev E y = some (cy, .int k i)) (iy : Cnd G → Cnd cy) (hb : Cnd G → 0 ≤ i ∧ i ≤ (s.size : Int))
    (next : TW P r Q N ds ops rest (ins E d G (.string (s.extract i.toNat s.size))) w) : TW P r Q N ds ops (⟨d, .slice t x (some y) none none, ty, pos, af, gu⟩ :: rest) E w :=
  TW.val hg hd rfl (fun hG _ ha => X.sliceSL ht (ha.eval hx (ix hG)) (ha.eval hy (iy hG)) (hb hG)) next
theorem DW.sliceSL {s : ByteArray} {k : IntKind} {i : Int} {t : TypeId} (hg : dgd ops D gu = some G) (hd : okDst N d = true) (ht : P.underlying t = some .string) (hx : dev D x = some (cx, .ex (.string s))) (ix : Cnd G → Cnd cx) (hy : dev D y = some (cy, .ex (.int k i))) (iy : Cnd G → Cnd cy) (hb : Cnd G → 0 ≤ i ∧ i ≤ (s.size : Int))
    (next : DW P N ds md ops w Fin rest (dins D d G (.ex (.string (s.extract i.toNat s.size))))) : DW P N ds md ops w Fin (⟨d, .slice t x (some y) none none, ty, pos, af, gu⟩ :: rest) D :=
  DW.val hg hd rfl (fun hG _ _ _ ha => X.sliceSL ht (ha.eval (o := ⟨d, .slice t x (some y) none none, ty, pos, af, gu⟩) hx (by simp [Op.operands, Call.operands]) (ix hG)) (ha.eval (o := ⟨d, .slice t x (some y) none none, ty, pos, af, gu⟩) hy (by simp [Op.operands, Call.operands]) (iy hG)) (hb hG)) next
theorem X.sliceSH {s : ByteArray} {k : IntKind} {i : Int} {t : TypeId} (ht : P.underlying t = some .string) (hx : ρ x = .string s) (hy : ρ y = .int k i) (hb : 0 ≤ i ∧ i ≤ (s.size : Int)) : (execOp ρ ⟨d, .slice t x none (some y) none, ty, pos, af, gu⟩).run P w = .ok (.value (.string (s.extract 0 i.toNat))) w := by simp only [execOp, Option.map_some, Option.map_none]; rw [hx, hy]; simp [run_sliceAt_string w t _ _ _ _ ht, run_slice_string_h w t s ht k i hb.1 hb.2]
theorem TW.sliceSH {s : ByteArray} {k : IntKind} {i : Int} {t : TypeId} (hg : gd ops E gu = some G) (hd : okDst N d = true) (ht : P.underlying t = some .string) (hx : ev E x = some (cx, .string s)) (ix : Cnd G → Cnd cx) (hy : ev E y = some (cy, .int k i)) (iy : Cnd G → Cnd cy) (hb : Cnd G → 0 ≤ i ∧ i ≤ (s.size : Int))
    (next : TW P r Q N ds ops rest (ins E d G (.string (s.extract 0 i.toNat))) w) : TW P r Q N ds ops (⟨d, .slice t x none (some y) none, ty, pos, af, gu⟩ :: rest) E w :=
  TW.val hg hd rfl (fun hG _ ha => X.sliceSH ht (ha.eval hx (ix hG)) (ha.eval hy (iy hG)) (hb hG)) next
theorem DW.sliceSH {s : ByteArray} {k : IntKind} {i : Int} {t : TypeId} (hg : dgd ops D gu = some G) (hd : okDst N d = true) (ht : P.underlying t = some .string) (hx : dev D x = some (cx, .ex (.string s))) (ix : Cnd G → Cnd cx) (hy : dev D y = some (cy, .ex (.int k i))) (iy : Cnd G → Cnd cy) (hb : Cnd G → 0 ≤ i ∧ i ≤ (s.size : Int))
    (next : DW P N ds md ops w Fin rest (dins D d G (.ex (.string (s.extract 0 i.toNat))))) : DW P N ds md ops w Fin (⟨d, .slice t x none (some y) none, ty, pos, af, gu⟩ :: rest) D :=
  DW.val hg hd rfl (fun hG _ _ _ ha => X.sliceSH ht (ha.eval (o := ⟨d, .slice t x none (some y) none, ty, pos, af, gu⟩) hx (by simp [Op.operands, Call.operands]) (ix hG)) (ha.eval (o := ⟨d, .slice t x none (some y) none, ty, pos, af, gu⟩) hy (by simp [Op.operands, Call.operands]) (iy hG)) (hb hG)) next
theorem X.sliceH {A : Option Addr} {l c sz : Nat} {k : IntKind} {i : Int} {t e : TypeId} (ht : P.underlying t = some (.slice e)) (hs : (P.info? e).map (·.size) = some sz) (hx : ρ x = .slice A l c) (hy : ρ y = .int k i) (hb : 0 ≤ i ∧ i ≤ (c : Int)) : (execOp ρ ⟨d, .slice t x none (some y) none, ty, pos, af, gu⟩).run P w = .ok (.value (.slice A i.toNat c)) w := by 
    simp only [execOp, Option.map_some, Option.map_none]; rw [hx, hy]
    simp [Instr.sliceAt, Instr.slice, run_underlying ht, Instr.sliceBounds, Instr.sliceBound, asIntOf, hb, run_sizeOf hs]
    intro _
    cases A with
    | none => rfl
    | some a => obtain ⟨b, o, f⟩ := a; cases f <;> simp [Addr.add]
theorem TW.sliceH {A : Option Addr} {l c sz : Nat} {k : IntKind} {i : Int} {t e : TypeId} (hg : gd ops E gu = some G) (hd : okDst N d = true) (ht : P.underlying t = some (.slice e)) (hs : (P.info? e).map (·.size) = some sz) (hx : ev E x = some (cx, .slice A l c)) (ix : Cnd G → Cnd cx) (hy : ev E y = some (cy, .int k i)) (iy : Cnd G → Cnd cy) (hb : Cnd G → 0 ≤ i ∧ i ≤ (c : Int))
    (next : TW P r Q N ds ops rest (ins E d G (.slice A i.toNat c)) w) : TW P r Q N ds ops (⟨d, .slice t x none (some y) none, ty, pos, af, gu⟩ :: rest) E w :=
  TW.val hg hd rfl (fun hG _ ha => X.sliceH ht hs (ha.eval hx (ix hG)) (ha.eval hy (iy hG)) (hb hG)) next
theorem DW.sliceH {A : Option Addr} {l c sz : Nat} {k : IntKind} {i : Int} {t e : TypeId} (hg : dgd ops D gu = some G) (hd : okDst N d = true) (ht : P.underlying t = some (.slice e)) (hs : (P.info? e).map (·.size) = some sz) (hx : dev D x = some (cx, .ex (.slice A l c))) (ix : Cnd G → Cnd cx) (hy : dev D y = some (cy, .ex (.int k i))) (iy : Cnd G → Cnd cy) (hb : Cnd G → 0 ≤ i ∧ i ≤ (c : Int))
    (next : DW P N ds md ops w Fin rest (dins D d G (.ex (.slice A i.toNat c)))) : DW P N ds md ops w Fin (⟨d, .slice t x none (some y) none, ty, pos, af, gu⟩ :: rest) D :=
  DW.val hg hd rfl (fun hG _ _ _ ha => X.sliceH ht hs (ha.eval (o := ⟨d, .slice t x none (some y) none, ty, pos, af, gu⟩) hx (by simp [Op.operands, Call.operands]) (ix hG)) (ha.eval (o := ⟨d, .slice t x none (some y) none, ty, pos, af, gu⟩) hy (by simp [Op.operands, Call.operands]) (iy hG)) (hb hG)) next
theorem X.sliceL {A : Option Addr} {l c sz : Nat} {k : IntKind} {i : Int} {t e : TypeId} (ht : P.underlying t = some (.slice e)) (hs : (P.info? e).map (·.size) = some sz) (hx : ρ x = .slice A l c) (hy : ρ y = .int k i) (hb : 0 ≤ i ∧ i ≤ (l : Int)) : (execOp ρ ⟨d, .slice t x (some y) none none, ty, pos, af, gu⟩).run P w = .ok (.value (.slice (if c = i.toNat then A else A.map (·.add (i.toNat * sz))) (l - i.toNat) (c - i.toNat))) w := by 
    simp only [execOp, Option.map_some, Option.map_none]; rw [hx, hy]
    simp [Instr.sliceAt, Instr.slice, run_underlying ht, Instr.sliceBounds, Instr.sliceBound, asIntOf, hb, run_sizeOf hs]
theorem TW.sliceL {A : Option Addr} {l c sz : Nat} {k : IntKind} {i : Int} {t e : TypeId} (hg : gd ops E gu = some G) (hd : okDst N d = true) (ht : P.underlying t = some (.slice e)) (hs : (P.info? e).map (·.size) = some sz) (hx : ev E x = some (cx, .slice A l c)) (ix : Cnd G → Cnd cx) (hy : ev E y = some (cy, .int k i)) (iy : Cnd G → Cnd cy) (hb : Cnd G → 0 ≤ i ∧ i ≤ (l : Int))
    (next : TW P r Q N ds ops rest (ins E d G (.slice (if c = i.toNat then A else A.map (·.add (i.toNat * sz))) (l - i.toNat) (c - i.toNat))) w) : TW P r Q N ds ops (⟨d, .slice t x (some y) none none, ty, pos, af, gu⟩ :: rest) E w :=
  TW.val hg hd rfl (fun hG _ ha => X.sliceL ht hs (ha.eval hx (ix hG)) (ha.eval hy (iy hG)) (hb hG)) next
theorem DW.sliceL {A : Option Addr} {l c sz : Nat} {k : IntKind} {i : Int} {t e : TypeId} (hg : dgd ops D gu = some G) (hd : okDst N d = true) (ht : P.underlying t = some (.slice e)) (hs : (P.info? e).map (·.size) = some sz) (hx : dev D x = some (cx, .ex (.slice A l c))) (ix : Cnd G → Cnd cx) (hy : dev D y = some (cy, .ex (.int k i))) (iy : Cnd G → Cnd cy) (hb : Cnd G → 0 ≤ i ∧ i ≤ (l : Int))
    (next : DW P N ds md ops w Fin rest (dins D d G (.ex (.slice (if c = i.toNat then A else A.map (·.add (i.toNat * sz))) (l - i.toNat) (c - i.toNat))))) : DW P N ds md ops w Fin (⟨d, .slice t x (some y) none none, ty, pos, af, gu⟩ :: rest) D :=
  DW.val hg hd rfl (fun hG _ _ _ ha => X.sliceL ht hs (ha.eval (o := ⟨d, .slice t x (some y) none none, ty, pos, af, gu⟩) hx (by simp [Op.operands, Call.operands]) (ix hG)) (ha.eval (o := ⟨d, .slice t x (some y) none none, ty, pos, af, gu⟩) hy (by simp [Op.operands, Call.operands]) (iy hG)) (hb hG)) next
theorem X.sliceLH {A : Option Addr} {l c sz : Nat} {k k' : IntKind} {i j : Int} {t e : TypeId} (ht : P.underlying t = some (.slice e)) (hs : (P.info? e).map (·.size) = some sz) (hx : ρ x = .slice A l c) (hy : ρ y = .int k i) (hz : ρ z = .int k' j) (hb : 0 ≤ i ∧ i ≤ j ∧ j ≤ (c : Int)) : (execOp ρ ⟨d, .slice t x (some y) (some z) none, ty, pos, af, gu⟩).run P w = .ok (.value (.slice (if c = i.toNat then A else A.map (·.add (i.toNat * sz))) (j.toNat - i.toNat) (c - i.toNat))) w := by 
    simp only [execOp, Option.map_some, Option.map_none]; rw [hx, hy, hz]
    have h1 : 0 ≤ j := by omega
    have h2 : i ≤ max j 0 := by omega
    simp [Instr.sliceAt, Instr.slice, run_underlying ht, Instr.sliceBounds, Instr.sliceBound, asIntOf, hb, h1, h2, run_sizeOf hs]
theorem TW.sliceLH {A : Option Addr} {l c sz : Nat} {k k' : IntKind} {i j : Int} {t e : TypeId} (hg : gd ops E gu = some G) (hd : okDst N d = true) (ht : P.underlying t = some (.slice e)) (hs : (P.info? e).map (·.size) = some sz) (hx : ev E x = some (cx, .slice A l c)) (ix : Cnd G → Cnd cx) (hy : ev E y = some (cy, .int k i)) (iy : Cnd G → Cnd cy) (hz : ev E z = some (cz, .int k' j)) (iz : Cnd G → Cnd cz) (hb : Cnd G → 0 ≤ i ∧ i ≤ j ∧ j ≤ (c : Int))
    (next : TW P r Q N ds ops rest (ins E d G (.slice (if c = i.toNat then A else A.map (·.add (i.toNat * sz))) (j.toNat - i.toNat) (c - i.toNat))) w) : TW P r Q N ds ops (⟨d, .slice t x (some y) (some z) none, ty, pos, af, gu⟩ :: rest) E w :=
  TW.val hg hd rfl (fun hG _ ha => X.sliceLH ht hs (ha.eval hx (ix hG)) (ha.eval hy (iy hG)) (ha.eval hz (iz hG)) (hb hG)) next
theorem DW.sliceLH {A : Option Addr} {l c sz : Nat} {k k' : IntKind} {i j : Int} {t e : TypeId} (hg : dgd ops D gu = some G) (hd : okDst N d = true) (ht : P.underlying t = some (.slice e)) (hs : (P.info? e).map (·.size) = some sz) (hx : dev D x = some (cx, .ex (.slice A l c))) (ix : Cnd G → Cnd cx) (hy : dev D y = some (cy, .ex (.int k i))) (iy : Cnd G → Cnd cy) (hz : dev D z = some (cz, .ex (.int k' j))) (iz : Cnd G → Cnd cz) (hb : Cnd G → 0 ≤ i ∧ i ≤ j ∧ j ≤ (c : Int))
    (next : DW P N ds md ops w Fin rest (dins D d G (.ex (.slice (if c = i.toNat then A else A.map (·.add (i.toNat * sz))) (j.toNat - i.toNat) (c - i.toNat))))) : DW P N ds md ops w Fin (⟨d, .slice t x (some y) (some z) none, ty, pos, af, gu⟩ :: rest) D :=
  DW.val hg hd rfl (fun hG _ _ _ ha => X.sliceLH ht hs (ha.eval (o := ⟨d, .slice t x (some y) (some z) none, ty, pos, af, gu⟩) hx (by simp [Op.operands, Call.operands]) (ix hG)) (ha.eval (o := ⟨d, .slice t x (some y) (some z) none, ty, pos, af, gu⟩) hy (by simp [Op.operands, Call.operands]) (iy hG)) (ha.eval (o := ⟨d, .slice t x (some y) (some z) none, ty, pos, af, gu⟩) hz (by simp [Op.operands, Call.operands]) (iz hG)) (hb hG)) next
theorem X.indexAddrA {ad : Addr} {l sz : Nat} {t e : TypeId} {k : IntKind} {i : Int} (ht : P.underlying t = some (.array l e)) (hs : (P.info? e).map (·.size) = some sz) (hx : ρ x = .pointer (some ad)) (hy : ρ y = .int k i) (hi : 0 ≤ i ∧ i < (l : Int)) : (execOp ρ ⟨d, .indexAddr t x y, ty, pos, af, gu⟩).run P w = .ok (.value (.pointer (some (ad.add (i.toNat * sz))))) w := by simp only [execOp]; rw [hx, hy]; simp [Instr.indexAt, run_underlying ht, asIntOf, Instr.sureAddr, hi, run_sizeOf hs]
theorem TW.indexAddrA {ad : Addr} {l sz : Nat} {t e : TypeId} {k : IntKind} {i : Int} (hg : gd ops E gu = some G) (hd : okDst N d = true) (ht : P.underlying t = some (.array l e)) (hs : (P.info? e).map (·.size) = some sz) (hx : ev E x = some (cx, .pointer (some ad))) (ix : Cnd G → Cnd cx) (hy : ev E y = some (cy, .int k i)) (iy : Cnd G → Cnd cy) (hi : Cnd G → 0 ≤ i ∧ i < (l : Int))
    (next : TW P r Q N ds ops rest (ins E d G (.pointer (some (ad.add (i.toNat * sz))))) w) : TW P r Q N ds ops (⟨d, .indexAddr t x y, ty, pos, af, gu⟩ :: rest) E w :=
  TW.val hg hd rfl (fun hG _ ha => X.indexAddrA ht hs (ha.eval hx (ix hG)) (ha.eval hy (iy hG)) (hi hG)) next
theorem DW.indexAddrA {ad : Addr} {l sz : Nat} {t e : TypeId} {k : IntKind} {i : Int} (hg : dgd ops D gu = some G) (hd : okDst N d = true) (ht : P.underlying t = some (.array l e)) (hs : (P.info? e).map (·.size) = some sz) (hx : dev D x = some (cx, .ex (.pointer (some ad)))) (ix : Cnd G → Cnd cx) (hy : dev D y = some (cy, .ex (.int k i))) (iy : Cnd G → Cnd cy) (hi : Cnd G → 0 ≤ i ∧ i < (l : Int))
    (next : DW P N ds md ops w Fin rest (dins D d G (.ex (.pointer (some (ad.add (i.toNat * sz))))))) : DW P N ds md ops w Fin (⟨d, .indexAddr t x y, ty, pos, af, gu⟩ :: rest) D :=
  DW.val hg hd rfl (fun hG _ _ _ ha => X.indexAddrA ht hs (ha.eval (o := ⟨d, .indexAddr t x y, ty, pos, af, gu⟩) hx (by simp [Op.operands, Call.operands]) (ix hG)) (ha.eval (o := ⟨d, .indexAddr t x y, ty, pos, af, gu⟩) hy (by simp [Op.operands, Call.operands]) (iy hG)) (hi hG)) next

/-- []byte(s) -/
theorem TW.bytesOf {s : ByteArray} {t t' e : TypeId} (hg : gu = none) (hd : okDst N d = true) (ht : P.underlying t = some .string) (ht' : P.underlying t' = some (.slice e)) (he : P.underlying e = some (.int .u8)) (hx : ev E x = some (none, .string s))
    (next : ∀ g c w', w'.heap.size = w.heap.size + 1 → g = w.heap.size → Below w.heap.size w w' → (∀ i, i < s.size → w'.cell? ⟨g, i, none⟩ = some (.int .u8 ((s.data.getD i 0).toNat : Int))) → TW P r Q N ds ops rest (ins E d none (.slice (some ⟨g, 0, none⟩) s.size c)) w') :
    TW P r Q N ds ops (⟨d, .convert t t' x, ty, pos, af, gu⟩ :: rest) E w := by
  refine TW.eff (v := .slice (some ⟨w.heap.size, 0, none⟩) s.size (grownCap w s.size 0 e)) hg hd rfl (fun a ha => ?_) (next w.heap.size _ (w.drew.alloc (.cells (bytesRow s (grownCap w s.size 0 e)) e ((bytesRow s (grownCap w s.size 0 e)).size, (bytesRow s (grownCap w s.size 0 e)).size + 1))) ?_ rfl ?_ ?_)
  · simp only [execOp]; rw [ha.eval hx trivial]
    simp [run_bytes_of_string w t t' e s ht ht' he]
  · simp
  · exact ((Below.refl _ _).drew).alloc (Nat.le_refl _) _
  · intro i hi
    have h1 : (w.drew.alloc (.cells (bytesRow s (grownCap w s.size 0 e)) e ((bytesRow s (grownCap w s.size 0 e)).size, (bytesRow s (grownCap w s.size 0 e)).size + 1))).heap[w.heap.size]? = some (.cells (bytesRow s (grownCap w s.size 0 e)) e ((bytesRow s (grownCap w s.size 0 e)).size, (bytesRow s (grownCap w s.size 0 e)).size + 1)) := heap_alloc_new w.drew _
    have hi' : i < s.data.size := hi
    unfold World.cell?
    rw [h1]
    simp [bytesRow, hi, Array.getElem?_append, Array.getElem?_eq_getElem hi']

/-- string(b) where b lies in memory as these bytes -/
theorem X.strOf {t t' e : TypeId} {ad : Addr} {c : Nat} {l : List UInt8} (hs : P.underlying t = some (.slice e)) (he : P.underlying e = some (.int .u8)) (hd' : P.underlying t' = some .string) (hx : ρ x = .slice (some ad) l.length c) (hc : ∀ j (hj : j < l.length), w.cell? (ad.add j) = some (.int .u8 (l[j].toNat : Int))) :
    (execOp ρ ⟨d, .convert t t' x, ty, pos, af, gu⟩).run P w = .ok (.value (.string ⟨l.toArray⟩)) w := by
  simp only [execOp]; rw [hx]
  simp [run_convert_bytes_back w t t' e ad c l hs he hd' hc]
theorem DW.strOfP {t t' e e1 : TypeId} (l : List UInt8) (hg : dgd ops D gu = some G) (hd : okDst N d = true) (hs : P.underlying t = some (.slice e)) (he : P.underlying e = some (.int .u8)) (hd' : P.underlying t' = some .string)
    (hx : dev D x = some (cx, .pr (Lies e1 l.length (l.map fun b => .int .u8 (b.toNat : Int))))) (ix : Cnd G → Cnd cx)
    (next : DW P N ds .weak ops w Fin rest (dins D d G (.ex (.string ⟨l.toArray⟩)))) : DW P N ds .weak ops w Fin (⟨d, .convert t t' x, ty, pos, af, gu⟩ :: rest) D := by
  refine DW.gen (e := .ex (.string ⟨l.toArray⟩)) (o := ⟨d, .convert t t' x, ty, pos, af, gu⟩) hg hd rfl trivial (fun hG a w' hb ha => ?_) next
  obtain ⟨g, hv, hB⟩ := ha.evalP (o := ⟨d, .convert t t' x, ty, pos, af, gu⟩) hx (by simp [Op.operands]) (ix hG)
  refine ⟨_, w', X.strOf hs he hd' hv (fun j hj => ?_), Below.refl _ _, rfl⟩
  exact hB.fld (by simp [List.getElem?_eq_getElem hj])

/-! ### own mode -/

/-- a row that the region has made -/
def rowE (w0 : World) (e : TypeId) (sz n : Nat) (xs : List Value) : Ent := .own (fun v w => OwnS w e sz v n xs ∧ ∀ g, v.ownBlock = some g → w0.heap.size ≤ g) (fun v g => v.ownBlock = some g)
theorem rowE_strong (w0 : World) (e : TypeId) (sz n : Nat) (xs : List Value) : (rowE w0 e sz n xs).strong w0 :=
  ⟨fun _ _ _ _ hk h => ⟨h.1.kept hk, h.2⟩, fun _ _ h g hg => ⟨h.2 g hg, h.1.lt hg⟩⟩

theorem OW.gen {o : Oper} (e : Ent) (eats : List Nat) (hg : dgd ops D o.guard = some G) (hd : okDst N o.dst = true) (hn : noDefer o.op = true) (hst : e.strong w) (hso : sole ops o eats = true) (heo : ∀ s, s ∈ eats → ∃ c φ S, dlook D s = some (c, .own φ S))
    (hrun : Cnd G → ∀ a w', Below w.heap.size w w' → FitL N ds (o.looksAt ops.toArray) D a w' → ∃ v w'', (execOp a.eval o).run P w' = .ok (.value v) w'' ∧ StepO w w' w'' (EatF D eats a) ∧ e.sat v w'' ∧ ∀ g, e.foot v g → EatF D eats a g ∨ w'.heap.size ≤ g)
    (next : DW P N ds .own ops w Fin rest (dins (ddrop D eats) o.dst G e)) : DW P N ds .own ops w Fin (o :: rest) D :=
  ⟨G, e, eats, ⟨hg, hd, hn, hst, hso, heo, fun hG a w' hb ha => .inl (hrun hG a w' hb ha)⟩, next⟩
theorem OW.enter {o : Oper} (e : Ent) (eats : List Nat) (hg : dgd ops D o.guard = some G) (hd : okDst N o.dst = true) (hn : noDefer o.op = true) (hst : e.strong w) (hso : sole ops o eats = true) (heo : ∀ s, s ∈ eats → ∃ c φ S, dlook D s = some (c, .own φ S))
    (hrun : Cnd G → ∀ a w', Below w.heap.size w w' → FitL N ds (o.looksAt ops.toArray) D a w' → ∃ f vs, (execOp a.eval o).run P w' = .ok (.enter f vs) w' ∧ Gives P f vs w' fun v w'' => StepO w w' w'' (EatF D eats a) ∧ e.sat v w'' ∧ ∀ g, e.foot v g → EatF D eats a g ∨ w'.heap.size ≤ g)
    (next : DW P N ds .own ops w Fin rest (dins (ddrop D eats) o.dst G e)) : DW P N ds .own ops w Fin (o :: rest) D :=
  ⟨G, e, eats, ⟨hg, hd, hn, hst, hso, heo, fun hG a w' hb ha => .inr (hrun hG a w' hb ha)⟩, next⟩

theorem stepO_below {w0 w w' : World} {E : Nat → Prop} (hb : Below w0.heap.size w0 w) (h : Below w.heap.size w w') : StepO w0 w w' E := ⟨h.mono hb.size, fun b _ hb _ => h.block b hb⟩

/-- a slice literal -/
theorem OW.buildSlice {t : TypeId} (e : TypeId) {sz len : Nat} {parts : Array (Nat × Operand)} (xs : List Operand) {vs cs : List Value} (hg : dgd ops D gu = some G) (hd : okDst N d = true) (hp : parts.toList = number xs) (he : elemOK P t e sz = true)
    (hx : DArgs (Oper.looksAt ops.toArray ⟨d, .buildSlice t len parts, ty, pos, af, gu⟩) N ds D G xs vs) (hl : len = vs.length) (hsz : vs.all (fun v => Nat.beq v.cells.size sz) = true) (hsm : Nat.ble (vs.length * sz) 16777216 = true) (hpos : Nat.blt 0 vs.length = true) (hc : (vs.map fun v => v.cells.toList).flatten = cs)
    (next : DW P N ds .own ops w Fin rest (dins D d G (rowE w e sz len cs))) : DW P N ds .own ops w Fin (⟨d, .buildSlice t len parts, ty, pos, af, gu⟩ :: rest) D := by
  subst hl
  have hv' : ∀ v ∈ vs, v.cells.size = sz := fun v hm => Nat.eq_of_beq_eq_true (List.all_eq_true.1 hsz v hm)
  have hcl : cs.length = vs.length * sz := by
    have key : ∀ us : List Value, (∀ v ∈ us, v.cells.size = sz) → ((us.map fun v => v.cells.toList).flatten).length = us.length * sz := by
      intro us
      induction us with
      | nil => simp
      | cons v us ih =>
        intro h
        have h1 := h v (by simp)
        have h2 := ih (fun u hu => h u (by simp [hu]))
        simp only [List.map_cons, List.flatten_cons, List.length_append, List.length_cons, h2, Array.length_toList, h1]
        rw [Nat.succ_mul]; omega
    rw [← hc]; exact key vs hv'
  have hfl : vs.flatMap (fun v => v.cells.toList) = cs := by rw [← hc]; simp [List.flatMap]
  refine OW.gen (rowE w e sz vs.length cs) [] hg hd rfl (rowE_strong _ _ _ _ _) rfl (fun s hs => by simp at hs) (fun hG a w' hb ha => ?_) (by rw [ddrop_nil]; exact next)
  refine ⟨_, _, X.buildSlice hp rfl he (hx (fun t ht => mem_looks ?_) a w' ha hG) hv' (Nat.le_of_ble_eq_true hsm) (blt_iff.1 hpos), stepO_below hb ((Below.refl _ _).alloc (Nat.le_refl _) _), ⟨?_, ?_⟩, ?_⟩
  · simp only [Op.operands]
    rw [hp]
    simp only [number, List.map_map]
    rw [List.mem_map]
    obtain ⟨j, hj, he⟩ := List.getElem_of_mem ht
    exact ⟨(Operand.tmp t, j), by rw [List.mem_zipIdx_iff_getElem?]; simp [he.symm], rfl⟩
  · rw [hfl]
    refine OwnS.of_blk (Blk.new w' e cs) hcl ?_
    have h1 := Nat.le_of_ble_eq_true hsm
    obtain ⟨_, _, _, _, _, _, _, h0⟩ := elemOK_spec he
    have : vs.length ≤ vs.length * sz := Nat.le_mul_of_pos_right _ h0
    omega
  · intro g hg
    simp [Value.ownBlock] at hg
    subst hg
    exact hb.size
  · intro g hg
    simp [Ent.foot, rowE, Value.ownBlock] at hg
    exact .inr (by omega)

theorem OW.buildSlice0 {t : TypeId} (e : TypeId) {sz : Nat} (hg : dgd ops D gu = some G) (hd : okDst N d = true) (he : elemOK P t e sz = true)
    (next : DW P N ds .own ops w Fin rest (dins D d G (rowE w e sz 0 []))) : DW P N ds .own ops w Fin (⟨d, .buildSlice t 0 #[], ty, pos, af, gu⟩ :: rest) D := by
  obtain ⟨i, zv, hu, hi, hz, rfl, hzs, hs⟩ := elemOK_spec he
  refine OW.gen (rowE w e i.size 0 []) [] hg hd rfl (rowE_strong _ _ _ _ _) rfl (fun s hs => by simp at hs) (fun hG a w' hb ha => ?_) (by rw [ddrop_nil]; exact next)
  refine ⟨.slice (some ⟨w'.heap.size, 0, none⟩) 0 0, w'.alloc (.cells [].toArray e), ?_, stepO_below hb ((Below.refl _ _).alloc (Nat.le_refl _) _), ⟨?_, ?_⟩, ?_⟩
  · simp [execOp, Instr.buildSlice, run_underlying hu, sizeOf, typeInfo, hi, Instr.fill, newRow, Array.range_zero']
  · exact OwnS.of_blk (Blk.new w' e []) (by simp) (by omega)
  · intro g hg
    simp [Value.ownBlock] at hg
    subst hg
    exact hb.size
  · intro g hg
    simp [Ent.foot, rowE, Value.ownBlock] at hg
    exact .inr (by omega)

/-- append onto a row that the region has made -/
theorem OW.appendG {t e : TypeId} {sz bytes n m : Nat} {st : Tmp} {xs : List Value} (news : List Value) (hg : dgd ops D gu = some G) (hd : okDst N d = true) (ho : growOK P t e sz bytes = true) (hs : dlook D st = some (none, rowE w e sz n xs)) (hso : sole ops ⟨d, .call ⟨.builtin .append, #[.tmp st, x], #[t, t]⟩, ty, pos, af, gu⟩ [st] = true)
    (hx : Cnd G → ∀ a w', Below w.heap.size w w' → FitL N ds (Oper.looksAt ops.toArray ⟨d, .call ⟨.builtin .append, #[.tmp st, x], #[t, t]⟩, ty, pos, af, gu⟩) D a w' → ∃ A c, a.eval x = .slice A m c ∧ ∀ j u, news[j]? = some u → ∃ ad, A = some ad ∧ w'.cell? (ad.add j) = some u)
    (hl : news.length = m * sz) (h1 : ∀ u ∈ news, u.oneCell' = true) (hb : (n + m) * bytes ≤ 140737488355328) (hb0 : 1 ≤ bytes)
    (next : DW P N ds .own ops w Fin rest (dins (ddrop D [st]) d G (rowE w e sz (n + m) (xs ++ news)))) : DW P N ds .own ops w Fin (⟨d, .call ⟨.builtin .append, #[.tmp st, x], #[t, t]⟩, ty, pos, af, gu⟩ :: rest) D := by
  refine OW.gen (rowE w e sz (n + m) (xs ++ news)) [st] hg hd rfl (rowE_strong _ _ _ _ _) hso (fun s hs' => ⟨none, _, _, by simp at hs'; subst hs'; exact hs⟩) (fun hG a w' hb' ha => ?_) next
  have hst : OwnS w' e sz (a.eval (.tmp st)) n xs ∧ ∀ g, (a.eval (.tmp st)).ownBlock = some g → w.heap.size ≤ g :=
    (ha.slots st (mem_looks (o := ⟨d, .call ⟨.builtin .append, #[.tmp st, x], #[t, t]⟩, ty, pos, af, gu⟩) (by simp [Op.operands, Call.operands])) none _ hs).1 trivial
  obtain ⟨A, c, hev, hcell⟩ := hx hG a w' hb' ha
  obtain ⟨v', w'', a1, a2, a3, a5⟩ := append_run (ty := ty) (c := c) ho hst.1 hl hcell h1 hb hb0
  refine ⟨v', w'', ?_, ⟨?_, ?_⟩, ⟨a2, ?_⟩, ?_⟩
  · simp only [execOp, resolve, invoke, builtin, Sem.run_bind, Sem.run_pure, Result.andThen_ok, List.map_toArray, List.map_cons, List.map_nil, hev, a1]
  · exact (Below.refl _ _).grown a3 hb'.size hst.2
  · intro b hb1 hb2 hE
    refine a3.block b hb2 (fun h => hE ⟨st, none, _, by simp [hasN, beq_self], hs, trivial, ?_⟩)
    exact h.symm
  · intro g hg
    rcases a5 with h | h
    · exact hst.2 g (by rw [← h]; exact hg)
    · rw [hg] at h; simp at h; have := hb'.size; omega
  · intro g hg
    rcases a5 with h | h
    · exact .inl ⟨st, none, _, by simp [hasN, beq_self], hs, trivial, by show (a.eval (.tmp st)).ownBlock = some g; rw [← h]; exact hg⟩
    · have hg : v'.ownBlock = some g := hg
      rw [hg] at h; simp at h; exact .inr (by omega)

/-- .. of what lies in old memory -/
theorem OW.append {t e : TypeId} {sz bytes n m c : Nat} {st : Tmp} {xs : List Value} {A : Option Addr} (news : List Value) (hg : dgd ops D gu = some G) (hd : okDst N d = true) (ho : growOK P t e sz bytes = true) (hs : dlook D st = some (none, rowE w e sz n xs)) (hso : sole ops ⟨d, .call ⟨.builtin .append, #[.tmp st, x], #[t, t]⟩, ty, pos, af, gu⟩ [st] = true)
    (hx : dev D x = some (cx, .ex (.slice A m c))) (ix : Cnd G → Cnd cx) (hn : ∀ j u, news[j]? = some u → ∃ ad, A = some ad ∧ w.cell? (ad.add j) = some u)
    (hl : news.length = m * sz) (h1 : ∀ u ∈ news, u.oneCell' = true) (hb : (n + m) * bytes ≤ 140737488355328) (hb0 : 1 ≤ bytes)
    (next : DW P N ds .own ops w Fin rest (dins (ddrop D [st]) d G (rowE w e sz (n + m) (xs ++ news)))) : DW P N ds .own ops w Fin (⟨d, .call ⟨.builtin .append, #[.tmp st, x], #[t, t]⟩, ty, pos, af, gu⟩ :: rest) D :=
  OW.appendG news hg hd ho hs hso (fun hG a w' hb' ha => ⟨A, c, ha.eval (o := ⟨d, .call ⟨.builtin .append, #[.tmp st, x], #[t, t]⟩, ty, pos, af, gu⟩) hx (by simp [Op.operands, Call.operands]) (ix hG), fun j u hj => by
    obtain ⟨ad, h1, h2⟩ := hn j u hj
    exact ⟨ad, h1, (hb'.cell (block_lt_of_cell h2)).trans h2⟩⟩) hl h1 hb hb0 next

/-- .. of another row that the region has made -/
theorem OW.appendR {t e e' : TypeId} {sz bytes n m : Nat} {st sx : Tmp} {xs : List Value} (news : List Value) (hg : dgd ops D gu = some G) (hd : okDst N d = true) (ho : growOK P t e sz bytes = true) (hs : dlook D st = some (none, rowE w e sz n xs)) (hso : sole ops ⟨d, .call ⟨.builtin .append, #[.tmp st, .tmp sx], #[t, t]⟩, ty, pos, af, gu⟩ [st] = true)
    (hx : dlook D sx = some (cx, rowE w e' sz m news)) (ix : Cnd G → Cnd cx)
    (h1 : ∀ u ∈ news, u.oneCell' = true) (hb : (n + m) * bytes ≤ 140737488355328) (hb0 : 1 ≤ bytes) (hl : news.length = m * sz)
    (next : DW P N ds .own ops w Fin rest (dins (ddrop D [st]) d G (rowE w e sz (n + m) (xs ++ news)))) : DW P N ds .own ops w Fin (⟨d, .call ⟨.builtin .append, #[.tmp st, .tmp sx], #[t, t]⟩, ty, pos, af, gu⟩ :: rest) D :=
  OW.appendG news hg hd ho hs hso (fun hG a w' hb' ha => by
    have hr : OwnS w' e' sz (a.eval (.tmp sx)) m news ∧ _ := (ha.slots sx (mem_looks (o := ⟨d, .call ⟨.builtin .append, #[.tmp st, .tmp sx], #[t, t]⟩, ty, pos, af, gu⟩) (by simp [Op.operands, Call.operands])) cx _ hx).1 (ix hG)
    obtain ⟨A, cap, h1, _, _, h2⟩ := hr.1.form
    refine ⟨A, cap, h1, fun j u hj => ?_⟩
    obtain ⟨g, q1, _, q3, _⟩ := h2 j u hj
    exact ⟨_, q1, by
      have e : Addr.add ⟨g, 0, none⟩ j = ⟨g, j, none⟩ := by unfold Addr.add; split <;> simp_all
      rw [e]; exact q3⟩) hl h1 hb hb0 next

theorem OW.assign {φ : Value → World → Prop} {S : Value → Nat → Prop} {st : Tmp} (hg : dgd ops D gu = some G) (hd : okDst N d = true) (hs : dlook D st = some (cx, .own φ S)) (ix : Cnd G → Cnd cx) (hst : (Ent.own φ S).strong w) (hso : sole ops ⟨d, .assign (.tmp st), ty, pos, af, gu⟩ [st] = true)
    (next : DW P N ds .own ops w Fin rest (dins (ddrop D [st]) d G (.own φ S))) : DW P N ds .own ops w Fin (⟨d, .assign (.tmp st), ty, pos, af, gu⟩ :: rest) D :=
  OW.gen (.own φ S) [st] hg hd rfl hst hso (fun s hs' => ⟨cx, φ, S, by simp at hs'; subst hs'; exact hs⟩) (fun hG a w' hb' ha =>
    have h := (ha.slots st (mem_looks (o := ⟨d, .assign (.tmp st), ty, pos, af, gu⟩) (by simp [Op.operands])) cx _ hs).1 (ix hG)
    ⟨a.tmps.getD st undef, w', rfl, ⟨Below.refl _ _, fun _ _ _ _ => rfl⟩, h, fun g hg => .inl ⟨st, cx, _, by simp [hasN, beq_self], hs, ix hG, hg⟩⟩) next
theorem OW.move {φ : Value → World → Prop} {S : Value → Nat → Prop} {st : Tmp} (hg : dgd ops D gu = some G) (hd : okDst N d = true) (hs : dlook D st = some (cx, .own φ S)) (ix : Cnd G → Cnd cx) (hst : (Ent.own φ S).strong w) (hso : sole ops ⟨d, .move (.tmp st), ty, pos, af, gu⟩ [st] = true)
    (next : DW P N ds .own ops w Fin rest (dins (ddrop D [st]) d G (.own φ S))) : DW P N ds .own ops w Fin (⟨d, .move (.tmp st), ty, pos, af, gu⟩ :: rest) D :=
  OW.gen (.own φ S) [st] hg hd rfl hst hso (fun s hs' => ⟨cx, φ, S, by simp at hs'; subst hs'; exact hs⟩) (fun hG a w' hb' ha =>
    have h := (ha.slots st (mem_looks (o := ⟨d, .move (.tmp st), ty, pos, af, gu⟩) (by simp [Op.operands])) cx _ hs).1 (ix hG)
    ⟨a.tmps.getD st undef, w', rfl, ⟨Below.refl _ _, fun _ _ _ _ => rfl⟩, h, fun g hg => .inl ⟨st, cx, _, by simp [hasN, beq_self], hs, ix hG, hg⟩⟩) next
end
end Go.PF
