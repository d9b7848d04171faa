/- Texts joined: Str Facts Ord Tim Pos Now Dec Bits Evs. -/
import Derived.Test.YtmdjkgkgpkaliaaQFa
import Derived.Scope
import Derived.Laws.IdiomStrings
import Derived.Laws.Strings3
import Derived.Laws.Runes
import Derived.Test.YtmdjkgkgpkaliaaProg
import Derived.KernelRfl
import Derived.Laws.Small
import Derived.DataElems
import Derived.Laws.MakeOwn
set_option linter.unusedSimpArgs false
set_option linter.unusedVariables false

/- Rules on strings and bytes; slicing; arrays; scopes; what a region's own mode needs. -/
namespace Go.PF
open Go.RowKit

theorem wrap8_fits {z : Int} (h : 0 ≤ z ∧ z ≤ 255) : IntKind.u8.wrap z = z := by
  rw [IntKind.wrap_u8]; omega

section
variable {P : Program} {r : Option Nat} {Q : Exit → Act → World → Prop} {N : Nat} {ds : List Deferred} {ops rest : List Oper} {E : Env} {D : DE} {w : World} {G : Option Bool} {Fin : DE → Prop} {md : Mode}
variable {d : Option Tmp} {ty : TypeId} {pos : String} {af : Array Edge} {gu : Option (Nat × Bool)}
variable {x y z : Operand} {cx cy cz : Option Bool} {ρ : Operand → Value}

theorem CW.scope {c : Code} (h : CW P none (Exit.noGoto Q) N ds c E w) : CW P none Q N ds (.scope c) E w := fun a ha => wpIn_wide.2 (wp_scope_straight (wpIn_wide.1 (h a ha)))
theorem CW.label {l : Nat} (h : KW N ds (Q .normal) E w) : CW P r Q N ds (.label l) E w := fun a ha => wpIn_label (h a ha)
theorem KW.scopeN (h : KW N ds (Q .normal) E w) : KW N ds (Exit.noGoto Q .normal) E w := h
theorem KW.scopeX {id : Nat} (h : KW N ds (Q (.exit id)) E w) : KW N ds (Exit.noGoto Q (.exit id)) E w := h
theorem KW.scopeR (h : KW N ds (Q .ret) E w) : KW N ds (Exit.noGoto Q .ret) E w := h
/-- an operation whose guard is known false -/
theorem TW.dead {o : Oper} (v : Value) (hg : gd ops E o.guard = some G) (hn : ¬ Cnd G) (hd : okDst N o.dst = true) (next : TW P r Q N ds ops rest (ins E o.dst G v) w) : TW P r Q N ds ops (o :: rest) E w := by
  intro a ha
  obtain ⟨_, h2⟩ := wanted_of ha hg
  unfold wpListIn
  rw [if_neg (by rw [h2 hn]; simp)]
  exact ⟨fun _ _ => trivial, next _ (ha.put hd (fun h => absurd h hn) (fun _ => rfl))⟩
theorem DW.dead {o : Oper} (v : Value) (hg : dgd ops D o.guard = some G) (hn : ¬ Cnd G) (hd : okDst N o.dst = true) (hno : noDefer o.op = true) (next : DW P N ds md ops w Fin rest (dins D o.dst G (.ex v))) : DW P N ds md ops w Fin (o :: rest) D :=
  DW.val hg hd hno (fun hG => absurd hG hn) next
theorem RW.end {s : Nat} (hs : s = ops.length) (h : KW N ds (Q .normal) E w) : RW P r Q N ds ops s E w := by subst hs; exact RW.nil h
theorem KW.rk {s : Nat} (h : RW P r Q N ds ops s E w) : KW N ds (Exit.then (RK P r Q ops s) Q .normal) E w := h
theorem KW.rk' {s : Nat} (h : RW P r Q N ds ops s E w) : KW N ds (RK P r Q ops s) E w := h

theorem X.add8 {m n : Int} {t t' : TypeId}  (hx : ρ x = .int .u8 m) (hy : ρ y = .int .u8 n) (hb : 0 ≤ m + n ∧ m + n ≤ 255) : (execOp ρ ⟨d, .binOp .add t x y t', ty, pos, af, gu⟩).run P w = .ok (.value (.int .u8 (m + n))) w := by 
    simp only [execOp]; rw [hx, hy, eqGuard_add, binOp_add]
    show Result.ok (Next.value (Value.int .u8 (IntKind.u8.wrap (m + n)))) w = _
    rw [wrap8_fits hb]
theorem TW.add8 {m n : Int} {t t' : TypeId} (hg : gd ops E gu = some G) (hd : okDst N d = true)  (hx : ev E x = some (cx, .int .u8 m)) (ix : Cnd G → Cnd cx) (hy : ev E y = some (cy, .int .u8 n)) (iy : Cnd G → Cnd cy) (hb : Cnd G → 0 ≤ m + n ∧ m + n ≤ 255)
    (next : TW P r Q N ds ops rest (ins E d G (.int .u8 (m + n))) w) : TW P r Q N ds ops (⟨d, .binOp .add t x y t', ty, pos, af, gu⟩ :: rest) E w :=
  TW.val hg hd rfl (fun hG _ ha => X.add8  (ha.eval hx (ix hG)) (ha.eval hy (iy hG)) (hb hG)) next
theorem DW.add8 {m n : Int} {t t' : TypeId} (hg : dgd ops D gu = some G) (hd : okDst N d = true)  (hx : dev D x = some (cx, .ex (.int .u8 m))) (ix : Cnd G → Cnd cx) (hy : dev D y = some (cy, .ex (.int .u8 n))) (iy : Cnd G → Cnd cy) (hb : Cnd G → 0 ≤ m + n ∧ m + n ≤ 255)
    (next : DW P N ds md ops w Fin rest (dins D d G (.ex (.int .u8 (m + n))))) : DW P N ds md ops w Fin (⟨d, .binOp .add t x y t', ty, pos, af, gu⟩ :: rest) D :=
  DW.val hg hd rfl (fun hG _ _ _ ha => X.add8  (ha.eval (o := ⟨d, .binOp .add t x y t', ty, pos, af, gu⟩) hx (by simp [Op.operands, Call.operands]) (ix hG)) (ha.eval (o := ⟨d, .binOp .add t x y t', ty, pos, af, gu⟩) hy (by simp [Op.operands, Call.operands]) (iy hG)) (hb hG)) next
theorem X.sub8 {m n : Int} {t t' : TypeId}  (hx : ρ x = .int .u8 m) (hy : ρ y = .int .u8 n) (hb : 0 ≤ m - n ∧ m - n ≤ 255) : (execOp ρ ⟨d, .binOp .sub t x y t', ty, pos, af, gu⟩).run P w = .ok (.value (.int .u8 (m - n))) w := by 
    simp only [execOp]; rw [hx, hy, eqGuard_sub, binOp_sub]
    show Result.ok (Next.value (Value.int .u8 (IntKind.u8.wrap (m - n)))) w = _
    rw [wrap8_fits hb]
theorem TW.sub8 {m n : Int} {t t' : TypeId} (hg : gd ops E gu = some G) (hd : okDst N d = true)  (hx : ev E x = some (cx, .int .u8 m)) (ix : Cnd G → Cnd cx) (hy : ev E y = some (cy, .int .u8 n)) (iy : Cnd G → Cnd cy) (hb : Cnd G → 0 ≤ m - n ∧ m - n ≤ 255)
    (next : TW P r Q N ds ops rest (ins E d G (.int .u8 (m - n))) w) : TW P r Q N ds ops (⟨d, .binOp .sub t x y t', ty, pos, af, gu⟩ :: rest) E w :=
  TW.val hg hd rfl (fun hG _ ha => X.sub8  (ha.eval hx (ix hG)) (ha.eval hy (iy hG)) (hb hG)) next
theorem DW.sub8 {m n : Int} {t t' : TypeId} (hg : dgd ops D gu = some G) (hd : okDst N d = true)  (hx : dev D x = some (cx, .ex (.int .u8 m))) (ix : Cnd G → Cnd cx) (hy : dev D y = some (cy, .ex (.int .u8 n))) (iy : Cnd G → Cnd cy) (hb : Cnd G → 0 ≤ m - n ∧ m - n ≤ 255)
    (next : DW P N ds md ops w Fin rest (dins D d G (.ex (.int .u8 (m - n))))) : DW P N ds md ops w Fin (⟨d, .binOp .sub t x y t', ty, pos, af, gu⟩ :: rest) D :=
  DW.val hg hd rfl (fun hG _ _ _ ha => X.sub8  (ha.eval (o := ⟨d, .binOp .sub t x y t', ty, pos, af, gu⟩) hx (by simp [Op.operands, Call.operands]) (ix hG)) (ha.eval (o := ⟨d, .binOp .sub t x y t', ty, pos, af, gu⟩) hy (by simp [Op.operands, Call.operands]) (iy hG)) (hb hG)) next
theorem X.addS {s s' : ByteArray} {t t' : TypeId}  (hx : ρ x = .string s) (hy : ρ y = .string s') (hb : s.size + s'.size ≤ 9223372036854775807) : (execOp ρ ⟨d, .binOp .add t x y t', ty, pos, af, gu⟩).run P w = .ok (.value (.string (s ++ s'))) w := by 
    simp only [execOp]; rw [hx, hy, eqGuard_add, binOp_string_add]
    have h : ¬ (((s.size + s'.size : Nat) : Int) > IntKind.i64.max) := by
      have e : IntKind.i64.max = 9223372036854775807 := by decide
      rw [e]; omega
    unfold Op.stringOp
    simp only [if_neg h]; rfl
theorem TW.addS {s s' : ByteArray} {t t' : TypeId} (hg : gd ops E gu = some G) (hd : okDst N d = true)  (hx : ev E x = some (cx, .string s)) (ix : Cnd G → Cnd cx) (hy : ev E y = some (cy, .string s')) (iy : Cnd G → Cnd cy) (hb : Cnd G → s.size + s'.size ≤ 9223372036854775807)
    (next : TW P r Q N ds ops rest (ins E d G (.string (s ++ s'))) w) : TW P r Q N ds ops (⟨d, .binOp .add t x y t', ty, pos, af, gu⟩ :: rest) E w :=
  TW.val hg hd rfl (fun hG _ ha => X.addS  (ha.eval hx (ix hG)) (ha.eval hy (iy hG)) (hb hG)) next
theorem DW.addS {s s' : ByteArray} {t t' : TypeId} (hg : dgd ops D gu = some G) (hd : okDst N d = true)  (hx : dev D x = some (cx, .ex (.string s))) (ix : Cnd G → Cnd cx) (hy : dev D y = some (cy, .ex (.string s'))) (iy : Cnd G → Cnd cy) (hb : Cnd G → s.size + s'.size ≤ 9223372036854775807)
    (next : DW P N ds md ops w Fin rest (dins D d G (.ex (.string (s ++ s'))))) : DW P N ds md ops w Fin (⟨d, .binOp .add t x y t', ty, pos, af, gu⟩ :: rest) D :=
  DW.val hg hd rfl (fun hG _ _ _ ha => X.addS  (ha.eval (o := ⟨d, .binOp .add t x y t', ty, pos, af, gu⟩) hx (by simp [Op.operands, Call.operands]) (ix hG)) (ha.eval (o := ⟨d, .binOp .add t x y t', ty, pos, af, gu⟩) hy (by simp [Op.operands, Call.operands]) (iy hG)) (hb hG)) next
theorem X.lssS {s s' : ByteArray} {t t' : TypeId}  (hx : ρ x = .string s) (hy : ρ y = .string s')  : (execOp ρ ⟨d, .binOp .lss t x y t', ty, pos, af, gu⟩).run P w = .ok (.value (.bool (Op.bytesLess s.toList s'.toList))) w := by simp only [execOp]; rw [hx, hy, eqGuard_lss, binOp_string_lss]; rfl
theorem TW.lssS {s s' : ByteArray} {t t' : TypeId} (hg : gd ops E gu = some G) (hd : okDst N d = true)  (hx : ev E x = some (cx, .string s)) (ix : Cnd G → Cnd cx) (hy : ev E y = some (cy, .string s')) (iy : Cnd G → Cnd cy) 
    (next : TW P r Q N ds ops rest (ins E d G (.bool (Op.bytesLess s.toList s'.toList))) w) : TW P r Q N ds ops (⟨d, .binOp .lss t x y t', ty, pos, af, gu⟩ :: rest) E w :=
  TW.val hg hd rfl (fun hG _ ha => X.lssS  (ha.eval hx (ix hG)) (ha.eval hy (iy hG)) ) next
theorem DW.lssS {s s' : ByteArray} {t t' : TypeId} (hg : dgd ops D gu = some G) (hd : okDst N d = true)  (hx : dev D x = some (cx, .ex (.string s))) (ix : Cnd G → Cnd cx) (hy : dev D y = some (cy, .ex (.string s'))) (iy : Cnd G → Cnd cy) 
    (next : DW P N ds md ops w Fin rest (dins D d G (.ex (.bool (Op.bytesLess s.toList s'.toList))))) : DW P N ds md ops w Fin (⟨d, .binOp .lss t x y t', ty, pos, af, gu⟩ :: rest) D :=
  DW.val hg hd rfl (fun hG _ _ _ ha => X.lssS  (ha.eval (o := ⟨d, .binOp .lss t x y t', ty, pos, af, gu⟩) hx (by simp [Op.operands, Call.operands]) (ix hG)) (ha.eval (o := ⟨d, .binOp .lss t x y t', ty, pos, af, gu⟩) hy (by simp [Op.operands, Call.operands]) (iy hG)) ) next
theorem X.geqS {s s' : ByteArray} {t t' : TypeId}  (hx : ρ x = .string s) (hy : ρ y = .string s')  : (execOp ρ ⟨d, .binOp .geq t x y t', ty, pos, af, gu⟩).run P w = .ok (.value (.bool (!(Op.bytesLess s.toList s'.toList)))) w := by simp only [execOp]; rw [hx, hy, eqGuard_geq]; rfl
theorem TW.geqS {s s' : ByteArray} {t t' : TypeId} (hg : gd ops E gu = some G) (hd : okDst N d = true)  (hx : ev E x = some (cx, .string s)) (ix : Cnd G → Cnd cx) (hy : ev E y = some (cy, .string s')) (iy : Cnd G → Cnd cy) 
    (next : TW P r Q N ds ops rest (ins E d G (.bool (!(Op.bytesLess s.toList s'.toList)))) w) : TW P r Q N ds ops (⟨d, .binOp .geq t x y t', ty, pos, af, gu⟩ :: rest) E w :=
  TW.val hg hd rfl (fun hG _ ha => X.geqS  (ha.eval hx (ix hG)) (ha.eval hy (iy hG)) ) next
theorem DW.geqS {s s' : ByteArray} {t t' : TypeId} (hg : dgd ops D gu = some G) (hd : okDst N d = true)  (hx : dev D x = some (cx, .ex (.string s))) (ix : Cnd G → Cnd cx) (hy : dev D y = some (cy, .ex (.string s'))) (iy : Cnd G → Cnd cy) 
    (next : DW P N ds md ops w Fin rest (dins D d G (.ex (.bool (!(Op.bytesLess s.toList s'.toList)))))) : DW P N ds md ops w Fin (⟨d, .binOp .geq t x y t', ty, pos, af, gu⟩ :: rest) D :=
  DW.val hg hd rfl (fun hG _ _ _ ha => X.geqS  (ha.eval (o := ⟨d, .binOp .geq t x y t', ty, pos, af, gu⟩) hx (by simp [Op.operands, Call.operands]) (ix hG)) (ha.eval (o := ⟨d, .binOp .geq t x y t', ty, pos, af, gu⟩) hy (by simp [Op.operands, Call.operands]) (iy hG)) ) next
theorem X.convIS {k : IntKind} {m : Int} {t t' : TypeId} (hs : (P.underlying t).isSome = true) (hd' : P.underlying t' = some .string) (hx : ρ x = .int k m)  : (execOp ρ ⟨d, .convert t t' x, ty, pos, af, gu⟩).run P w = .ok (.value (.string (Utf8.encode m))) w := by simp only [execOp]; rw [hx]; simp [run_convert_int_string w t t' k m hs hd']
theorem TW.convIS {k : IntKind} {m : Int} {t t' : TypeId} (hg : gd ops E gu = some G) (hd : okDst N d = true) (hs : (P.underlying t).isSome = true) (hd' : P.underlying t' = some .string) (hx : ev E x = some (cx, .int k m)) (ix : Cnd G → Cnd cx) 
    (next : TW P r Q N ds ops rest (ins E d G (.string (Utf8.encode m))) w) : TW P r Q N ds ops (⟨d, .convert t t' x, ty, pos, af, gu⟩ :: rest) E w :=
  TW.val hg hd rfl (fun hG _ ha => X.convIS hs hd' (ha.eval hx (ix hG)) ) next
theorem DW.convIS {k : IntKind} {m : Int} {t t' : TypeId} (hg : dgd ops D gu = some G) (hd : okDst N d = true) (hs : (P.underlying t).isSome = true) (hd' : P.underlying t' = some .string) (hx : dev D x = some (cx, .ex (.int k m))) (ix : Cnd G → Cnd cx) 
    (next : DW P N ds md ops w Fin rest (dins D d G (.ex (.string (Utf8.encode m))))) : DW P N ds md ops w Fin (⟨d, .convert t t' x, ty, pos, af, gu⟩ :: rest) D :=
  DW.val hg hd rfl (fun hG _ _ _ ha => X.convIS hs hd' (ha.eval (o := ⟨d, .convert t t' x, ty, pos, af, gu⟩) hx (by simp [Op.operands, Call.operands]) (ix hG)) ) next
theorem X.sliceSLH {s : ByteArray} {k k' : IntKind} {i j : Int} {t : TypeId} (ht : P.underlying t = some .string) (hx : ρ x = .string s) (hy : ρ y = .int k i) (hz : ρ z = .int k' j) (hb : 0 ≤ i ∧ i ≤ j ∧ j ≤ (s.size : Int)) : (execOp ρ ⟨d, .slice t x (some y) (some z) none, ty, pos, af, gu⟩).run P w = .ok (.value (.string (s.extract i.toNat j.toNat))) w := by simp only [execOp, Option.map_some, Option.map_none]; rw [hx, hy, hz]; simp [run_sliceAt_string w t _ _ _ _ ht, run_slice_string w t s k k' i j ht hb.1 hb.2.1 hb.2.2]
theorem TW.sliceSLH {s : ByteArray} {k k' : IntKind} {i j : Int} {t : TypeId} (hg : gd ops E gu = some G) (hd : okDst N d = true) (ht : P.underlying t = some .string) (hx : ev E x = some (cx, .string s)) (ix : Cnd G → Cnd cx) (hy : ev E y = some (cy, .int k i)) (iy : Cnd G → Cnd cy) (hz : ev E z = some (cz, .int k' j)) (iz : Cnd G → Cnd cz) (hb : Cnd G → 0 ≤ i ∧ i ≤ j ∧ j ≤ (s.size : Int))
    (next : TW P r Q N ds ops rest (ins E d G (.string (s.extract i.toNat j.toNat))) w) : TW P r Q N ds ops (⟨d, .slice t x (some y) (some z) none, ty, pos, af, gu⟩ :: rest) E w :=
  TW.val hg hd rfl (fun hG _ ha => X.sliceSLH ht (ha.eval hx (ix hG)) (ha.eval hy (iy hG)) (ha.eval hz (iz hG)) (hb hG)) next
theorem DW.sliceSLH {s : ByteArray} {k k' : IntKind} {i j : Int} {t : TypeId} (hg : dgd ops D gu = some G) (hd : okDst N d = true) (ht : P.underlying t = some .string) (hx : dev D x = some (cx, .ex (.string s))) (ix : Cnd G → Cnd cx) (hy : dev D y = some (cy, .ex (.int k i))) (iy : Cnd G → Cnd cy) (hz : dev D z = some (cz, .ex (.int k' j))) (iz : Cnd G → Cnd cz) (hb : Cnd G → 0 ≤ i ∧ i ≤ j ∧ j ≤ (s.size : Int))
    (next : DW P N ds md ops w Fin rest (dins D d G (.ex (.string (s.extract i.toNat j.toNat))))) : DW P N ds md ops w Fin (⟨d, .slice t x (some y) (some z) none, ty, pos, af, gu⟩ :: rest) D :=
  DW.val hg hd rfl (fun hG _ _ _ ha => X.sliceSLH ht (ha.eval (o := ⟨d, .slice t x (some y) (some z) none, ty, pos, af, gu⟩) hx (by simp [Op.operands, Call.operands]) (ix hG)) (ha.eval (o := ⟨d, .slice t x (some y) (some z) none, ty, pos, af, gu⟩) hy (by simp [Op.operands, Call.operands]) (iy hG)) (ha.eval (o := ⟨d, .slice t x (some y) (some z) none, ty, pos, af, gu⟩) hz (by simp [Op.operands, Call.operands]) (iz hG)) (hb hG)) next
theorem X.sliceSL {s : ByteArray} {k : IntKind} {i : Int} {t : TypeId} (ht : P.underlying t = some .string) (hx : ρ x = .string s) (hy : ρ y = .int k i) (hb : 0 ≤ i ∧ i ≤ (s.size : Int)) : (execOp ρ ⟨d, .slice t x (some y) none none, ty, pos, af, gu⟩).run P w = .ok (.value (.string (s.extract i.toNat s.size))) w := by simp only [execOp, Option.map_some, Option.map_none]; rw [hx, hy]; simp [run_sliceAt_string w t _ _ _ _ ht, run_slice_string_l w t s ht k i hb.1 hb.2]
theorem TW.sliceSL {s : ByteArray} {k : IntKind} {i : Int} {t : TypeId} (hg : gd ops E gu = some G) (hd : okDst N d = true) (ht : P.underlying t = some .string) (hx : ev E x = some (cx, .string s)) (ix : Cnd G → Cnd cx) (hy : ev E y = some (cy, .int k i)) (iy : Cnd G → Cnd cy) (hb : Cnd G → 0 ≤ i ∧ i ≤ (s.size : Int))
    (next : TW P r Q N ds ops rest (ins E d G (.string (s.extract i.toNat s.size))) w) : TW P r Q N ds ops (⟨d, .slice t x (some y) none none, ty, pos, af, gu⟩ :: rest) E w :=
  TW.val hg hd rfl (fun hG _ ha => X.sliceSL ht (ha.eval hx (ix hG)) (ha.eval hy (iy hG)) (hb hG)) next
theorem DW.sliceSL {s : ByteArray} {k : IntKind} {i : Int} {t : TypeId} (hg : dgd ops D gu = some G) (hd : okDst N d = true) (ht : P.underlying t = some .string) (hx : dev D x = some (cx, .ex (.string s))) (ix : Cnd G → Cnd cx) (hy : dev D y = some (cy, .ex (.int k i))) (iy : Cnd G → Cnd cy) (hb : Cnd G → 0 ≤ i ∧ i ≤ (s.size : Int))
    (next : DW P N ds md ops w Fin rest (dins D d G (.ex (.string (s.extract i.toNat s.size))))) : DW P N ds md ops w Fin (⟨d, .slice t x (some y) none none, ty, pos, af, gu⟩ :: rest) D :=
  DW.val hg hd rfl (fun hG _ _ _ ha => X.sliceSL ht (ha.eval (o := ⟨d, .slice t x (some y) none none, ty, pos, af, gu⟩) hx (by simp [Op.operands, Call.operands]) (ix hG)) (ha.eval (o := ⟨d, .slice t x (some y) none none, ty, pos, af, gu⟩) hy (by simp [Op.operands, Call.operands]) (iy hG)) (hb hG)) next
theorem X.sliceSH {s : ByteArray} {k : IntKind} {i : Int} {t : TypeId} (ht : P.underlying t = some .string) (hx : ρ x = .string s) (hy : ρ y = .int k i) (hb : 0 ≤ i ∧ i ≤ (s.size : Int)) : (execOp ρ ⟨d, .slice t x none (some y) none, ty, pos, af, gu⟩).run P w = .ok (.value (.string (s.extract 0 i.toNat))) w := by simp only [execOp, Option.map_some, Option.map_none]; rw [hx, hy]; simp [run_sliceAt_string w t _ _ _ _ ht, run_slice_string_h w t s ht k i hb.1 hb.2]
theorem TW.sliceSH {s : ByteArray} {k : IntKind} {i : Int} {t : TypeId} (hg : gd ops E gu = some G) (hd : okDst N d = true) (ht : P.underlying t = some .string) (hx : ev E x = some (cx, .string s)) (ix : Cnd G → Cnd cx) (hy : ev E y = some (cy, .int k i)) (iy : Cnd G → Cnd cy) (hb : Cnd G → 0 ≤ i ∧ i ≤ (s.size : Int))
    (next : TW P r Q N ds ops rest (ins E d G (.string (s.extract 0 i.toNat))) w) : TW P r Q N ds ops (⟨d, .slice t x none (some y) none, ty, pos, af, gu⟩ :: rest) E w :=
  TW.val hg hd rfl (fun hG _ ha => X.sliceSH ht (ha.eval hx (ix hG)) (ha.eval hy (iy hG)) (hb hG)) next
theorem DW.sliceSH {s : ByteArray} {k : IntKind} {i : Int} {t : TypeId} (hg : dgd ops D gu = some G) (hd : okDst N d = true) (ht : P.underlying t = some .string) (hx : dev D x = some (cx, .ex (.string s))) (ix : Cnd G → Cnd cx) (hy : dev D y = some (cy, .ex (.int k i))) (iy : Cnd G → Cnd cy) (hb : Cnd G → 0 ≤ i ∧ i ≤ (s.size : Int))
    (next : DW P N ds md ops w Fin rest (dins D d G (.ex (.string (s.extract 0 i.toNat))))) : DW P N ds md ops w Fin (⟨d, .slice t x none (some y) none, ty, pos, af, gu⟩ :: rest) D :=
  DW.val hg hd rfl (fun hG _ _ _ ha => X.sliceSH ht (ha.eval (o := ⟨d, .slice t x none (some y) none, ty, pos, af, gu⟩) hx (by simp [Op.operands, Call.operands]) (ix hG)) (ha.eval (o := ⟨d, .slice t x none (some y) none, ty, pos, af, gu⟩) hy (by simp [Op.operands, Call.operands]) (iy hG)) (hb hG)) next
theorem X.sliceH {A : Option Addr} {l c sz : Nat} {k : IntKind} {i : Int} {t e : TypeId} (ht : P.underlying t = some (.slice e)) (hs : (P.info? e).map (·.size) = some sz) (hx : ρ x = .slice A l c) (hy : ρ y = .int k i) (hb : 0 ≤ i ∧ i ≤ (c : Int)) : (execOp ρ ⟨d, .slice t x none (some y) none, ty, pos, af, gu⟩).run P w = .ok (.value (.slice A i.toNat c)) w := by 
    simp only [execOp, Option.map_some, Option.map_none]; rw [hx, hy]
    simp [Instr.sliceAt, Instr.slice, run_underlying ht, Instr.sliceBounds, Instr.sliceBound, asIntOf, hb, run_sizeOf hs]
    intro _
    cases A with
    | none => rfl
    | some a => obtain ⟨b, o, f⟩ := a; cases f <;> simp [Addr.add]
theorem TW.sliceH {A : Option Addr} {l c sz : Nat} {k : IntKind} {i : Int} {t e : TypeId} (hg : gd ops E gu = some G) (hd : okDst N d = true) (ht : P.underlying t = some (.slice e)) (hs : (P.info? e).map (·.size) = some sz) (hx : ev E x = some (cx, .slice A l c)) (ix : Cnd G → Cnd cx) (hy : ev E y = some (cy, .int k i)) (iy : Cnd G → Cnd cy) (hb : Cnd G → 0 ≤ i ∧ i ≤ (c : Int))
    (next : TW P r Q N ds ops rest (ins E d G (.slice A i.toNat c)) w) : TW P r Q N ds ops (⟨d, .slice t x none (some y) none, ty, pos, af, gu⟩ :: rest) E w :=
  TW.val hg hd rfl (fun hG _ ha => X.sliceH ht hs (ha.eval hx (ix hG)) (ha.eval hy (iy hG)) (hb hG)) next
theorem DW.sliceH {A : Option Addr} {l c sz : Nat} {k : IntKind} {i : Int} {t e : TypeId} (hg : dgd ops D gu = some G) (hd : okDst N d = true) (ht : P.underlying t = some (.slice e)) (hs : (P.info? e).map (·.size) = some sz) (hx : dev D x = some (cx, .ex (.slice A l c))) (ix : Cnd G → Cnd cx) (hy : dev D y = some (cy, .ex (.int k i))) (iy : Cnd G → Cnd cy) (hb : Cnd G → 0 ≤ i ∧ i ≤ (c : Int))
    (next : DW P N ds md ops w Fin rest (dins D d G (.ex (.slice A i.toNat c)))) : DW P N ds md ops w Fin (⟨d, .slice t x none (some y) none, ty, pos, af, gu⟩ :: rest) D :=
  DW.val hg hd rfl (fun hG _ _ _ ha => X.sliceH ht hs (ha.eval (o := ⟨d, .slice t x none (some y) none, ty, pos, af, gu⟩) hx (by simp [Op.operands, Call.operands]) (ix hG)) (ha.eval (o := ⟨d, .slice t x none (some y) none, ty, pos, af, gu⟩) hy (by simp [Op.operands, Call.operands]) (iy hG)) (hb hG)) next
theorem X.sliceL {A : Option Addr} {l c sz : Nat} {k : IntKind} {i : Int} {t e : TypeId} (ht : P.underlying t = some (.slice e)) (hs : (P.info? e).map (·.size) = some sz) (hx : ρ x = .slice A l c) (hy : ρ y = .int k i) (hb : 0 ≤ i ∧ i ≤ (l : Int)) : (execOp ρ ⟨d, .slice t x (some y) none none, ty, pos, af, gu⟩).run P w = .ok (.value (.slice (if c = i.toNat then A else A.map (·.add (i.toNat * sz))) (l - i.toNat) (c - i.toNat))) w := by 
    simp only [execOp, Option.map_some, Option.map_none]; rw [hx, hy]
    simp [Instr.sliceAt, Instr.slice, run_underlying ht, Instr.sliceBounds, Instr.sliceBound, asIntOf, hb, run_sizeOf hs]
theorem TW.sliceL {A : Option Addr} {l c sz : Nat} {k : IntKind} {i : Int} {t e : TypeId} (hg : gd ops E gu = some G) (hd : okDst N d = true) (ht : P.underlying t = some (.slice e)) (hs : (P.info? e).map (·.size) = some sz) (hx : ev E x = some (cx, .slice A l c)) (ix : Cnd G → Cnd cx) (hy : ev E y = some (cy, .int k i)) (iy : Cnd G → Cnd cy) (hb : Cnd G → 0 ≤ i ∧ i ≤ (l : Int))
    (next : TW P r Q N ds ops rest (ins E d G (.slice (if c = i.toNat then A else A.map (·.add (i.toNat * sz))) (l - i.toNat) (c - i.toNat))) w) : TW P r Q N ds ops (⟨d, .slice t x (some y) none none, ty, pos, af, gu⟩ :: rest) E w :=
  TW.val hg hd rfl (fun hG _ ha => X.sliceL ht hs (ha.eval hx (ix hG)) (ha.eval hy (iy hG)) (hb hG)) next
theorem DW.sliceL {A : Option Addr} {l c sz : Nat} {k : IntKind} {i : Int} {t e : TypeId} (hg : dgd ops D gu = some G) (hd : okDst N d = true) (ht : P.underlying t = some (.slice e)) (hs : (P.info? e).map (·.size) = some sz) (hx : dev D x = some (cx, .ex (.slice A l c))) (ix : Cnd G → Cnd cx) (hy : dev D y = some (cy, .ex (.int k i))) (iy : Cnd G → Cnd cy) (hb : Cnd G → 0 ≤ i ∧ i ≤ (l : Int))
    (next : DW P N ds md ops w Fin rest (dins D d G (.ex (.slice (if c = i.toNat then A else A.map (·.add (i.toNat * sz))) (l - i.toNat) (c - i.toNat))))) : DW P N ds md ops w Fin (⟨d, .slice t x (some y) none none, ty, pos, af, gu⟩ :: rest) D :=
  DW.val hg hd rfl (fun hG _ _ _ ha => X.sliceL ht hs (ha.eval (o := ⟨d, .slice t x (some y) none none, ty, pos, af, gu⟩) hx (by simp [Op.operands, Call.operands]) (ix hG)) (ha.eval (o := ⟨d, .slice t x (some y) none none, ty, pos, af, gu⟩) hy (by simp [Op.operands, Call.operands]) (iy hG)) (hb hG)) next
theorem X.sliceLH {A : Option Addr} {l c sz : Nat} {k k' : IntKind} {i j : Int} {t e : TypeId} (ht : P.underlying t = some (.slice e)) (hs : (P.info? e).map (·.size) = some sz) (hx : ρ x = .slice A l c) (hy : ρ y = .int k i) (hz : ρ z = .int k' j) (hb : 0 ≤ i ∧ i ≤ j ∧ j ≤ (c : Int)) : (execOp ρ ⟨d, .slice t x (some y) (some z) none, ty, pos, af, gu⟩).run P w = .ok (.value (.slice (if c = i.toNat then A else A.map (·.add (i.toNat * sz))) (j.toNat - i.toNat) (c - i.toNat))) w := by 
    simp only [execOp, Option.map_some, Option.map_none]; rw [hx, hy, hz]
    have h1 : 0 ≤ j := by omega
    have h2 : i ≤ max j 0 := by omega
    simp [Instr.sliceAt, Instr.slice, run_underlying ht, Instr.sliceBounds, Instr.sliceBound, asIntOf, hb, h1, h2, run_sizeOf hs]
theorem TW.sliceLH {A : Option Addr} {l c sz : Nat} {k k' : IntKind} {i j : Int} {t e : TypeId} (hg : gd ops E gu = some G) (hd : okDst N d = true) (ht : P.underlying t = some (.slice e)) (hs : (P.info? e).map (·.size) = some sz) (hx : ev E x = some (cx, .slice A l c)) (ix : Cnd G → Cnd cx) (hy : ev E y = some (cy, .int k i)) (iy : Cnd G → Cnd cy) (hz : ev E z = some (cz, .int k' j)) (iz : Cnd G → Cnd cz) (hb : Cnd G → 0 ≤ i ∧ i ≤ j ∧ j ≤ (c : Int))
    (next : TW P r Q N ds ops rest (ins E d G (.slice (if c = i.toNat then A else A.map (·.add (i.toNat * sz))) (j.toNat - i.toNat) (c - i.toNat))) w) : TW P r Q N ds ops (⟨d, .slice t x (some y) (some z) none, ty, pos, af, gu⟩ :: rest) E w :=
  TW.val hg hd rfl (fun hG _ ha => X.sliceLH ht hs (ha.eval hx (ix hG)) (ha.eval hy (iy hG)) (ha.eval hz (iz hG)) (hb hG)) next
theorem DW.sliceLH {A : Option Addr} {l c sz : Nat} {k k' : IntKind} {i j : Int} {t e : TypeId} (hg : dgd ops D gu = some G) (hd : okDst N d = true) (ht : P.underlying t = some (.slice e)) (hs : (P.info? e).map (·.size) = some sz) (hx : dev D x = some (cx, .ex (.slice A l c))) (ix : Cnd G → Cnd cx) (hy : dev D y = some (cy, .ex (.int k i))) (iy : Cnd G → Cnd cy) (hz : dev D z = some (cz, .ex (.int k' j))) (iz : Cnd G → Cnd cz) (hb : Cnd G → 0 ≤ i ∧ i ≤ j ∧ j ≤ (c : Int))
    (next : DW P N ds md ops w Fin rest (dins D d G (.ex (.slice (if c = i.toNat then A else A.map (·.add (i.toNat * sz))) (j.toNat - i.toNat) (c - i.toNat))))) : DW P N ds md ops w Fin (⟨d, .slice t x (some y) (some z) none, ty, pos, af, gu⟩ :: rest) D :=
  DW.val hg hd rfl (fun hG _ _ _ ha => X.sliceLH ht hs (ha.eval (o := ⟨d, .slice t x (some y) (some z) none, ty, pos, af, gu⟩) hx (by simp [Op.operands, Call.operands]) (ix hG)) (ha.eval (o := ⟨d, .slice t x (some y) (some z) none, ty, pos, af, gu⟩) hy (by simp [Op.operands, Call.operands]) (iy hG)) (ha.eval (o := ⟨d, .slice t x (some y) (some z) none, ty, pos, af, gu⟩) hz (by simp [Op.operands, Call.operands]) (iz hG)) (hb hG)) next
theorem X.indexAddrA {ad : Addr} {l sz : Nat} {t e : TypeId} {k : IntKind} {i : Int} (ht : P.underlying t = some (.array l e)) (hs : (P.info? e).map (·.size) = some sz) (hx : ρ x = .pointer (some ad)) (hy : ρ y = .int k i) (hi : 0 ≤ i ∧ i < (l : Int)) : (execOp ρ ⟨d, .indexAddr t x y, ty, pos, af, gu⟩).run P w = .ok (.value (.pointer (some (ad.add (i.toNat * sz))))) w := by simp only [execOp]; rw [hx, hy]; simp [Instr.indexAt, run_underlying ht, asIntOf, Instr.sureAddr, hi, run_sizeOf hs]
theorem TW.indexAddrA {ad : Addr} {l sz : Nat} {t e : TypeId} {k : IntKind} {i : Int} (hg : gd ops E gu = some G) (hd : okDst N d = true) (ht : P.underlying t = some (.array l e)) (hs : (P.info? e).map (·.size) = some sz) (hx : ev E x = some (cx, .pointer (some ad))) (ix : Cnd G → Cnd cx) (hy : ev E y = some (cy, .int k i)) (iy : Cnd G → Cnd cy) (hi : Cnd G → 0 ≤ i ∧ i < (l : Int))
    (next : TW P r Q N ds ops rest (ins E d G (.pointer (some (ad.add (i.toNat * sz))))) w) : TW P r Q N ds ops (⟨d, .indexAddr t x y, ty, pos, af, gu⟩ :: rest) E w :=
  TW.val hg hd rfl (fun hG _ ha => X.indexAddrA ht hs (ha.eval hx (ix hG)) (ha.eval hy (iy hG)) (hi hG)) next
theorem DW.indexAddrA {ad : Addr} {l sz : Nat} {t e : TypeId} {k : IntKind} {i : Int} (hg : dgd ops D gu = some G) (hd : okDst N d = true) (ht : P.underlying t = some (.array l e)) (hs : (P.info? e).map (·.size) = some sz) (hx : dev D x = some (cx, .ex (.pointer (some ad)))) (ix : Cnd G → Cnd cx) (hy : dev D y = some (cy, .ex (.int k i))) (iy : Cnd G → Cnd cy) (hi : Cnd G → 0 ≤ i ∧ i < (l : Int))
    (next : DW P N ds md ops w Fin rest (dins D d G (.ex (.pointer (some (ad.add (i.toNat * sz))))))) : DW P N ds md ops w Fin (⟨d, .indexAddr t x y, ty, pos, af, gu⟩ :: rest) D :=
  DW.val hg hd rfl (fun hG _ _ _ ha => X.indexAddrA ht hs (ha.eval (o := ⟨d, .indexAddr t x y, ty, pos, af, gu⟩) hx (by simp [Op.operands, Call.operands]) (ix hG)) (ha.eval (o := ⟨d, .indexAddr t x y, ty, pos, af, gu⟩) hy (by simp [Op.operands, Call.operands]) (iy hG)) (hi hG)) next

/-- []byte(s) -/
theorem TW.bytesOf {s : ByteArray} {t t' e : TypeId} (hg : gu = none) (hd : okDst N d = true) (ht : P.underlying t = some .string) (ht' : P.underlying t' = some (.slice e)) (he : P.underlying e = some (.int .u8)) (hx : ev E x = some (none, .string s))
    (next : ∀ g c w', w'.heap.size = w.heap.size + 1 → g = w.heap.size → Below w.heap.size w w' → (∀ i, i < s.size → w'.cell? ⟨g, i, none⟩ = some (.int .u8 ((s.data.getD i 0).toNat : Int))) → TW P r Q N ds ops rest (ins E d none (.slice (some ⟨g, 0, none⟩) s.size c)) w') :
    TW P r Q N ds ops (⟨d, .convert t t' x, ty, pos, af, gu⟩ :: rest) E w := by
  refine TW.eff (v := .slice (some ⟨w.heap.size, 0, none⟩) s.size (grownCap w s.size 0 e)) hg hd rfl (fun a ha => ?_) (next w.heap.size _ (w.drew.alloc (.cells (bytesRow s (grownCap w s.size 0 e)) e ((bytesRow s (grownCap w s.size 0 e)).size, (bytesRow s (grownCap w s.size 0 e)).size + 1))) ?_ rfl ?_ ?_)
  · simp only [execOp]; rw [ha.eval hx trivial]
    simp [run_bytes_of_string w t t' e s ht ht' he]
  · simp
  · exact ((Below.refl _ _).drew).alloc (Nat.le_refl _) _
  · intro i hi
    have h1 : (w.drew.alloc (.cells (bytesRow s (grownCap w s.size 0 e)) e ((bytesRow s (grownCap w s.size 0 e)).size, (bytesRow s (grownCap w s.size 0 e)).size + 1))).heap[w.heap.size]? = some (.cells (bytesRow s (grownCap w s.size 0 e)) e ((bytesRow s (grownCap w s.size 0 e)).size, (bytesRow s (grownCap w s.size 0 e)).size + 1)) := heap_alloc_new w.drew _
    have hi' : i < s.data.size := hi
    unfold World.cell?
    rw [h1]
    simp [bytesRow, hi, Array.getElem?_append, Array.getElem?_eq_getElem hi']

/-- string(b) where b lies in memory as these bytes -/
theorem X.strOf {t t' e : TypeId} {ad : Addr} {c : Nat} {l : List UInt8} (hs : P.underlying t = some (.slice e)) (he : P.underlying e = some (.int .u8)) (hd' : P.underlying t' = some .string) (hx : ρ x = .slice (some ad) l.length c) (hc : ∀ j (hj : j < l.length), w.cell? (ad.add j) = some (.int .u8 (l[j].toNat : Int))) :
    (execOp ρ ⟨d, .convert t t' x, ty, pos, af, gu⟩).run P w = .ok (.value (.string ⟨l.toArray⟩)) w := by
  simp only [execOp]; rw [hx]
  simp [run_convert_bytes_back w t t' e ad c l hs he hd' hc]
theorem DW.strOfP {t t' e e1 : TypeId} (l : List UInt8) (hg : dgd ops D gu = some G) (hd : okDst N d = true) (hs : P.underlying t = some (.slice e)) (he : P.underlying e = some (.int .u8)) (hd' : P.underlying t' = some .string)
    (hx : dev D x = some (cx, .pr (Lies e1 l.length (l.map fun b => .int .u8 (b.toNat : Int))))) (ix : Cnd G → Cnd cx)
    (next : DW P N ds .weak ops w Fin rest (dins D d G (.ex (.string ⟨l.toArray⟩)))) : DW P N ds .weak ops w Fin (⟨d, .convert t t' x, ty, pos, af, gu⟩ :: rest) D := by
  refine DW.gen (e := .ex (.string ⟨l.toArray⟩)) (o := ⟨d, .convert t t' x, ty, pos, af, gu⟩) hg hd rfl trivial (fun hG a w' hb ha => ?_) next
  obtain ⟨g, hv, hB⟩ := ha.evalP (o := ⟨d, .convert t t' x, ty, pos, af, gu⟩) hx (by simp [Op.operands]) (ix hG)
  refine ⟨_, w', X.strOf hs he hd' hv (fun j hj => ?_), Below.refl _ _, rfl⟩
  exact hB.fld (by simp [List.getElem?_eq_getElem hj])

/-! ### own mode -/

/-- a row that the region has made -/
def rowE (w0 : World) (e : TypeId) (sz n : Nat) (xs : List Value) : Ent := .own (fun v w => OwnS w e sz v n xs ∧ ∀ g, v.ownBlock = some g → w0.heap.size ≤ g) (fun v g => v.ownBlock = some g)
theorem rowE_strong (w0 : World) (e : TypeId) (sz n : Nat) (xs : List Value) : (rowE w0 e sz n xs).strong w0 :=
  ⟨fun _ _ _ _ hk h => ⟨h.1.kept hk, h.2⟩, fun _ _ h g hg => ⟨h.2 g hg, h.1.lt hg⟩⟩

theorem OW.gen {o : Oper} (e : Ent) (eats : List Nat) (hg : dgd ops D o.guard = some G) (hd : okDst N o.dst = true) (hn : noDefer o.op = true) (hst : e.strong w) (hso : sole ops o eats = true) (heo : ∀ s, s ∈ eats → ∃ c φ S, dlook D s = some (c, .own φ S))
    (hrun : Cnd G → ∀ a w', Below w.heap.size w w' → FitL N ds (o.looksAt ops.toArray) D a w' → ∃ v w'', (execOp a.eval o).run P w' = .ok (.value v) w'' ∧ StepO w w' w'' (EatF D eats a) ∧ e.sat v w'' ∧ ∀ g, e.foot v g → EatF D eats a g ∨ w'.heap.size ≤ g)
    (next : DW P N ds .own ops w Fin rest (dins (ddrop D eats) o.dst G e)) : DW P N ds .own ops w Fin (o :: rest) D :=
  ⟨G, e, eats, ⟨hg, hd, hn, hst, hso, heo, fun hG a w' hb ha => .inl (hrun hG a w' hb ha)⟩, next⟩
theorem OW.enter {o : Oper} (e : Ent) (eats : List Nat) (hg : dgd ops D o.guard = some G) (hd : okDst N o.dst = true) (hn : noDefer o.op = true) (hst : e.strong w) (hso : sole ops o eats = true) (heo : ∀ s, s ∈ eats → ∃ c φ S, dlook D s = some (c, .own φ S))
    (hrun : Cnd G → ∀ a w', Below w.heap.size w w' → FitL N ds (o.looksAt ops.toArray) D a w' → ∃ f vs, (execOp a.eval o).run P w' = .ok (.enter f vs) w' ∧ Gives P f vs w' fun v w'' => StepO w w' w'' (EatF D eats a) ∧ e.sat v w'' ∧ ∀ g, e.foot v g → EatF D eats a g ∨ w'.heap.size ≤ g)
    (next : DW P N ds .own ops w Fin rest (dins (ddrop D eats) o.dst G e)) : DW P N ds .own ops w Fin (o :: rest) D :=
  ⟨G, e, eats, ⟨hg, hd, hn, hst, hso, heo, fun hG a w' hb ha => .inr (hrun hG a w' hb ha)⟩, next⟩

theorem stepO_below {w0 w w' : World} {E : Nat → Prop} (hb : Below w0.heap.size w0 w) (h : Below w.heap.size w w') : StepO w0 w w' E := ⟨h.mono hb.size, fun b _ hb _ => h.block b hb⟩

/-- a slice literal -/
theorem OW.buildSlice {t : TypeId} (e : TypeId) {sz len : Nat} {parts : Array (Nat × Operand)} (xs : List Operand) {vs cs : List Value} (hg : dgd ops D gu = some G) (hd : okDst N d = true) (hp : parts.toList = number xs) (he : elemOK P t e sz = true)
    (hx : DArgs (Oper.looksAt ops.toArray ⟨d, .buildSlice t len parts, ty, pos, af, gu⟩) N ds D G xs vs) (hl : len = vs.length) (hsz : vs.all (fun v => Nat.beq v.cells.size sz) = true) (hsm : Nat.ble (vs.length * sz) 16777216 = true) (hpos : Nat.blt 0 vs.length = true) (hc : (vs.map fun v => v.cells.toList).flatten = cs)
    (next : DW P N ds .own ops w Fin rest (dins D d G (rowE w e sz len cs))) : DW P N ds .own ops w Fin (⟨d, .buildSlice t len parts, ty, pos, af, gu⟩ :: rest) D := by
  subst hl
  have hv' : ∀ v ∈ vs, v.cells.size = sz := fun v hm => Nat.eq_of_beq_eq_true (List.all_eq_true.1 hsz v hm)
  have hcl : cs.length = vs.length * sz := by
    have key : ∀ us : List Value, (∀ v ∈ us, v.cells.size = sz) → ((us.map fun v => v.cells.toList).flatten).length = us.length * sz := by
      intro us
      induction us with
      | nil => simp
      | cons v us ih =>
        intro h
        have h1 := h v (by simp)
        have h2 := ih (fun u hu => h u (by simp [hu]))
        simp only [List.map_cons, List.flatten_cons, List.length_append, List.length_cons, h2, Array.length_toList, h1]
        rw [Nat.succ_mul]; omega
    rw [← hc]; exact key vs hv'
  have hfl : vs.flatMap (fun v => v.cells.toList) = cs := by rw [← hc]; simp [List.flatMap]
  refine OW.gen (rowE w e sz vs.length cs) [] hg hd rfl (rowE_strong _ _ _ _ _) rfl (fun s hs => by simp at hs) (fun hG a w' hb ha => ?_) (by rw [ddrop_nil]; exact next)
  refine ⟨_, _, X.buildSlice hp rfl he (hx (fun t ht => mem_looks ?_) a w' ha hG) hv' (Nat.le_of_ble_eq_true hsm) (blt_iff.1 hpos), stepO_below hb ((Below.refl _ _).alloc (Nat.le_refl _) _), ⟨?_, ?_⟩, ?_⟩
  · simp only [Op.operands]
    rw [hp]
    simp only [number, List.map_map]
    rw [List.mem_map]
    obtain ⟨j, hj, he⟩ := List.getElem_of_mem ht
    exact ⟨(Operand.tmp t, j), by rw [List.mem_zipIdx_iff_getElem?]; simp [he.symm], rfl⟩
  · rw [hfl]
    refine OwnS.of_blk (Blk.new w' e cs) hcl ?_
    have h1 := Nat.le_of_ble_eq_true hsm
    obtain ⟨_, _, _, _, _, _, _, h0⟩ := elemOK_spec he
    have : vs.length ≤ vs.length * sz := Nat.le_mul_of_pos_right _ h0
    omega
  · intro g hg
    simp [Value.ownBlock] at hg
    subst hg
    exact hb.size
  · intro g hg
    simp [Ent.foot, rowE, Value.ownBlock] at hg
    exact .inr (by omega)

theorem OW.buildSlice0 {t : TypeId} (e : TypeId) {sz : Nat} (hg : dgd ops D gu = some G) (hd : okDst N d = true) (he : elemOK P t e sz = true)
    (next : DW P N ds .own ops w Fin rest (dins D d G (rowE w e sz 0 []))) : DW P N ds .own ops w Fin (⟨d, .buildSlice t 0 #[], ty, pos, af, gu⟩ :: rest) D := by
  obtain ⟨i, zv, hu, hi, hz, rfl, hzs, hs⟩ := elemOK_spec he
  refine OW.gen (rowE w e i.size 0 []) [] hg hd rfl (rowE_strong _ _ _ _ _) rfl (fun s hs => by simp at hs) (fun hG a w' hb ha => ?_) (by rw [ddrop_nil]; exact next)
  refine ⟨.slice (some ⟨w'.heap.size, 0, none⟩) 0 0, w'.alloc (.cells [].toArray e), ?_, stepO_below hb ((Below.refl _ _).alloc (Nat.le_refl _) _), ⟨?_, ?_⟩, ?_⟩
  · simp [execOp, Instr.buildSlice, run_underlying hu, sizeOf, typeInfo, hi, Instr.fill, newRow, Array.range_zero']
  · exact OwnS.of_blk (Blk.new w' e []) (by simp) (by omega)
  · intro g hg
    simp [Value.ownBlock] at hg
    subst hg
    exact hb.size
  · intro g hg
    simp [Ent.foot, rowE, Value.ownBlock] at hg
    exact .inr (by omega)

/-- append onto a row that the region has made -/
theorem OW.appendG {t e : TypeId} {sz bytes n m : Nat} {st : Tmp} {xs : List Value} (news : List Value) (hg : dgd ops D gu = some G) (hd : okDst N d = true) (ho : growOK P t e sz bytes = true) (hs : dlook D st = some (none, rowE w e sz n xs)) (hso : sole ops ⟨d, .call ⟨.builtin .append, #[.tmp st, x], #[t, t]⟩, ty, pos, af, gu⟩ [st] = true)
    (hx : Cnd G → ∀ a w', Below w.heap.size w w' → FitL N ds (Oper.looksAt ops.toArray ⟨d, .call ⟨.builtin .append, #[.tmp st, x], #[t, t]⟩, ty, pos, af, gu⟩) D a w' → ∃ A c, a.eval x = .slice A m c ∧ ∀ j u, news[j]? = some u → ∃ ad, A = some ad ∧ w'.cell? (ad.add j) = some u)
    (hl : news.length = m * sz) (h1 : ∀ u ∈ news, u.oneCell' = true) (hb : (n + m) * bytes ≤ 140737488355328) (hb0 : 1 ≤ bytes)
    (next : DW P N ds .own ops w Fin rest (dins (ddrop D [st]) d G (rowE w e sz (n + m) (xs ++ news)))) : DW P N ds .own ops w Fin (⟨d, .call ⟨.builtin .append, #[.tmp st, x], #[t, t]⟩, ty, pos, af, gu⟩ :: rest) D := by
  refine OW.gen (rowE w e sz (n + m) (xs ++ news)) [st] hg hd rfl (rowE_strong _ _ _ _ _) hso (fun s hs' => ⟨none, _, _, by simp at hs'; subst hs'; exact hs⟩) (fun hG a w' hb' ha => ?_) next
  have hst : OwnS w' e sz (a.eval (.tmp st)) n xs ∧ ∀ g, (a.eval (.tmp st)).ownBlock = some g → w.heap.size ≤ g :=
    (ha.slots st (mem_looks (o := ⟨d, .call ⟨.builtin .append, #[.tmp st, x], #[t, t]⟩, ty, pos, af, gu⟩) (by simp [Op.operands, Call.operands])) none _ hs).1 trivial
  obtain ⟨A, c, hev, hcell⟩ := hx hG a w' hb' ha
  obtain ⟨v', w'', a1, a2, a3, a5⟩ := append_run (ty := ty) (c := c) ho hst.1 hl hcell h1 hb hb0
  refine ⟨v', w'', ?_, ⟨?_, ?_⟩, ⟨a2, ?_⟩, ?_⟩
  · simp only [execOp, resolve, invoke, builtin, Sem.run_bind, Sem.run_pure, Result.andThen_ok, List.map_toArray, List.map_cons, List.map_nil, hev, a1]
  · exact (Below.refl _ _).grown a3 hb'.size hst.2
  · intro b hb1 hb2 hE
    refine a3.block b hb2 (fun h => hE ⟨st, none, _, by simp [hasN, beq_self], hs, trivial, ?_⟩)
    exact h.symm
  · intro g hg
    rcases a5 with h | h
    · exact hst.2 g (by rw [← h]; exact hg)
    · rw [hg] at h; simp at h; have := hb'.size; omega
  · intro g hg
    rcases a5 with h | h
    · exact .inl ⟨st, none, _, by simp [hasN, beq_self], hs, trivial, by show (a.eval (.tmp st)).ownBlock = some g; rw [← h]; exact hg⟩
    · have hg : v'.ownBlock = some g := hg
      rw [hg] at h; simp at h; exact .inr (by omega)

/-- .. of what lies in old memory -/
theorem OW.append {t e : TypeId} {sz bytes n m c : Nat} {st : Tmp} {xs : List Value} {A : Option Addr} (news : List Value) (hg : dgd ops D gu = some G) (hd : okDst N d = true) (ho : growOK P t e sz bytes = true) (hs : dlook D st = some (none, rowE w e sz n xs)) (hso : sole ops ⟨d, .call ⟨.builtin .append, #[.tmp st, x], #[t, t]⟩, ty, pos, af, gu⟩ [st] = true)
    (hx : dev D x = some (cx, .ex (.slice A m c))) (ix : Cnd G → Cnd cx) (hn : ∀ j u, news[j]? = some u → ∃ ad, A = some ad ∧ w.cell? (ad.add j) = some u)
    (hl : news.length = m * sz) (h1 : ∀ u ∈ news, u.oneCell' = true) (hb : (n + m) * bytes ≤ 140737488355328) (hb0 : 1 ≤ bytes)
    (next : DW P N ds .own ops w Fin rest (dins (ddrop D [st]) d G (rowE w e sz (n + m) (xs ++ news)))) : DW P N ds .own ops w Fin (⟨d, .call ⟨.builtin .append, #[.tmp st, x], #[t, t]⟩, ty, pos, af, gu⟩ :: rest) D :=
  OW.appendG news hg hd ho hs hso (fun hG a w' hb' ha => ⟨A, c, ha.eval (o := ⟨d, .call ⟨.builtin .append, #[.tmp st, x], #[t, t]⟩, ty, pos, af, gu⟩) hx (by simp [Op.operands, Call.operands]) (ix hG), fun j u hj => by
    obtain ⟨ad, h1, h2⟩ := hn j u hj
    exact ⟨ad, h1, (hb'.cell (block_lt_of_cell h2)).trans h2⟩⟩) hl h1 hb hb0 next

/-- .. of another row that the region has made -/
theorem OW.appendR {t e e' : TypeId} {sz bytes n m : Nat} {st sx : Tmp} {xs : List Value} (news : List Value) (hg : dgd ops D gu = some G) (hd : okDst N d = true) (ho : growOK P t e sz bytes = true) (hs : dlook D st = some (none, rowE w e sz n xs)) (hso : sole ops ⟨d, .call ⟨.builtin .append, #[.tmp st, .tmp sx], #[t, t]⟩, ty, pos, af, gu⟩ [st] = true)
    (hx : dlook D sx = some (cx, rowE w e' sz m news)) (ix : Cnd G → Cnd cx)
    (h1 : ∀ u ∈ news, u.oneCell' = true) (hb : (n + m) * bytes ≤ 140737488355328) (hb0 : 1 ≤ bytes) (hl : news.length = m * sz)
    (next : DW P N ds .own ops w Fin rest (dins (ddrop D [st]) d G (rowE w e sz (n + m) (xs ++ news)))) : DW P N ds .own ops w Fin (⟨d, .call ⟨.builtin .append, #[.tmp st, .tmp sx], #[t, t]⟩, ty, pos, af, gu⟩ :: rest) D :=
  OW.appendG news hg hd ho hs hso (fun hG a w' hb' ha => by
    have hr : OwnS w' e' sz (a.eval (.tmp sx)) m news ∧ _ := (ha.slots sx (mem_looks (o := ⟨d, .call ⟨.builtin .append, #[.tmp st, .tmp sx], #[t, t]⟩, ty, pos, af, gu⟩) (by simp [Op.operands, Call.operands])) cx _ hx).1 (ix hG)
    obtain ⟨A, cap, h1, _, _, h2⟩ := hr.1.form
    refine ⟨A, cap, h1, fun j u hj => ?_⟩
    obtain ⟨g, q1, _, q3, _⟩ := h2 j u hj
    exact ⟨_, q1, by
      have e : Addr.add ⟨g, 0, none⟩ j = ⟨g, j, none⟩ := by unfold Addr.add; split <;> simp_all
      rw [e]; exact q3⟩) hl h1 hb hb0 next

theorem OW.assign {φ : Value → World → Prop} {S : Value → Nat → Prop} {st : Tmp} (hg : dgd ops D gu = some G) (hd : okDst N d = true) (hs : dlook D st = some (cx, .own φ S)) (ix : Cnd G → Cnd cx) (hst : (Ent.own φ S).strong w) (hso : sole ops ⟨d, .assign (.tmp st), ty, pos, af, gu⟩ [st] = true)
    (next : DW P N ds .own ops w Fin rest (dins (ddrop D [st]) d G (.own φ S))) : DW P N ds .own ops w Fin (⟨d, .assign (.tmp st), ty, pos, af, gu⟩ :: rest) D :=
  OW.gen (.own φ S) [st] hg hd rfl hst hso (fun s hs' => ⟨cx, φ, S, by simp at hs'; subst hs'; exact hs⟩) (fun hG a w' hb' ha =>
    have h := (ha.slots st (mem_looks (o := ⟨d, .assign (.tmp st), ty, pos, af, gu⟩) (by simp [Op.operands])) cx _ hs).1 (ix hG)
    ⟨a.tmps.getD st undef, w', rfl, ⟨Below.refl _ _, fun _ _ _ _ => rfl⟩, h, fun g hg => .inl ⟨st, cx, _, by simp [hasN, beq_self], hs, ix hG, hg⟩⟩) next
theorem OW.move {φ : Value → World → Prop} {S : Value → Nat → Prop} {st : Tmp} (hg : dgd ops D gu = some G) (hd : okDst N d = true) (hs : dlook D st = some (cx, .own φ S)) (ix : Cnd G → Cnd cx) (hst : (Ent.own φ S).strong w) (hso : sole ops ⟨d, .move (.tmp st), ty, pos, af, gu⟩ [st] = true)
    (next : DW P N ds .own ops w Fin rest (dins (ddrop D [st]) d G (.own φ S))) : DW P N ds .own ops w Fin (⟨d, .move (.tmp st), ty, pos, af, gu⟩ :: rest) D :=
  OW.gen (.own φ S) [st] hg hd rfl hst hso (fun s hs' => ⟨cx, φ, S, by simp at hs'; subst hs'; exact hs⟩) (fun hG a w' hb' ha =>
    have h := (ha.slots st (mem_looks (o := ⟨d, .move (.tmp st), ty, pos, af, gu⟩) (by simp [Op.operands])) cx _ hs).1 (ix hG)
    ⟨a.tmps.getD st undef, w', rfl, ⟨Below.refl _ _, fun _ _ _ _ => rfl⟩, h, fun g hg => .inl ⟨st, cx, _, by simp [hasN, beq_self], hs, ix hG, hg⟩⟩) next
end
end Go.PF

namespace Go.Proofs.Ytmdjkgkgpkaliaa
open Go.PF
theorem mixed : Try.prog.follows .mixedOrders = true := by kernel_rfl
theorem one1 : one Try.prog 1 = true := by kernel_rfl
theorem sz1 : (Try.prog.info? 1).map (·.size) = some 1 := by kernel_rfl
theorem zc1 : zeroCells Try.prog 1 = some [.nilFunc] := by kernel_rfl
theorem ze1 : (Try.prog.info? 1).bind (·.zero) = some (.nilFunc) := by kernel_rfl
theorem one2 : one Try.prog 2 = true := by kernel_rfl
theorem sz2 : (Try.prog.info? 2).map (·.size) = some 1 := by kernel_rfl
theorem zc2 : zeroCells Try.prog 2 = some [.int .i64 0] := by kernel_rfl
theorem ze2 : (Try.prog.info? 2).bind (·.zero) = some (.int .i64 0) := by kernel_rfl
theorem one3 : one Try.prog 3 = true := by kernel_rfl
theorem sz3 : (Try.prog.info? 3).map (·.size) = some 1 := by kernel_rfl
theorem zc3 : zeroCells Try.prog 3 = some [.int .i64 0] := by kernel_rfl
theorem ze3 : (Try.prog.info? 3).bind (·.zero) = some (.int .i64 0) := by kernel_rfl
theorem one4 : one Try.prog 4 = true := by kernel_rfl
theorem sz4 : (Try.prog.info? 4).map (·.size) = some 1 := by kernel_rfl
theorem zc4 : zeroCells Try.prog 4 = some [.bool false] := by kernel_rfl
theorem ze4 : (Try.prog.info? 4).bind (·.zero) = some (.bool false) := by kernel_rfl
theorem one5 : one Try.prog 5 = true := by kernel_rfl
theorem sz5 : (Try.prog.info? 5).map (·.size) = some 1 := by kernel_rfl
theorem zc5 : zeroCells Try.prog 5 = some [.int .u8 0] := by kernel_rfl
theorem ze5 : (Try.prog.info? 5).bind (·.zero) = some (.int .u8 0) := by kernel_rfl
theorem one6 : one Try.prog 6 = true := by kernel_rfl
theorem sz6 : (Try.prog.info? 6).map (·.size) = some 1 := by kernel_rfl
theorem zc6 : zeroCells Try.prog 6 = some [.int .u8 0] := by kernel_rfl
theorem ze6 : (Try.prog.info? 6).bind (·.zero) = some (.int .u8 0) := by kernel_rfl
theorem sz7 : (Try.prog.info? 7).map (·.size) = some 4 := by kernel_rfl
theorem zc7 : zeroCells Try.prog 7 = some [.int .i64 0, .int .i64 0, .bool false, .int .u8 0] := by kernel_rfl
theorem fo7_0 : fieldOff Try.prog 7 0 = some 0 := by kernel_rfl
theorem fo7_1 : fieldOff Try.prog 7 1 = some 1 := by kernel_rfl
theorem fo7_2 : fieldOff Try.prog 7 2 = some 2 := by kernel_rfl
theorem fo7_3 : fieldOff Try.prog 7 3 = some 3 := by kernel_rfl
theorem sz8 : (Try.prog.info? 8).map (·.size) = some 4 := by kernel_rfl
theorem zc8 : zeroCells Try.prog 8 = some [.int .i64 0, .int .i64 0, .bool false, .int .u8 0] := by kernel_rfl
theorem fo8_0 : fieldOff Try.prog 8 0 = some 0 := by kernel_rfl
theorem fo8_1 : fieldOff Try.prog 8 1 = some 1 := by kernel_rfl
theorem fo8_2 : fieldOff Try.prog 8 2 = some 2 := by kernel_rfl
theorem fo8_3 : fieldOff Try.prog 8 3 = some 3 := by kernel_rfl
theorem one9 : one Try.prog 9 = true := by kernel_rfl
theorem sz9 : (Try.prog.info? 9).map (·.size) = some 1 := by kernel_rfl
theorem zc9 : zeroCells Try.prog 9 = some [.string ByteArray.empty] := by kernel_rfl
theorem ze9 : (Try.prog.info? 9).bind (·.zero) = some (.string ByteArray.empty) := by kernel_rfl
theorem one10 : one Try.prog 10 = true := by kernel_rfl
theorem sz10 : (Try.prog.info? 10).map (·.size) = some 1 := by kernel_rfl
theorem zc10 : zeroCells Try.prog 10 = some [.string ByteArray.empty] := by kernel_rfl
theorem ze10 : (Try.prog.info? 10).bind (·.zero) = some (.string ByteArray.empty) := by kernel_rfl
theorem one11 : one Try.prog 11 = true := by kernel_rfl
theorem sz11 : (Try.prog.info? 11).map (·.size) = some 1 := by kernel_rfl
theorem zc11 : zeroCells Try.prog 11 = some [.string ByteArray.empty] := by kernel_rfl
theorem ze11 : (Try.prog.info? 11).bind (·.zero) = some (.string ByteArray.empty) := by kernel_rfl
theorem one12 : one Try.prog 12 = true := by kernel_rfl
theorem sz12 : (Try.prog.info? 12).map (·.size) = some 1 := by kernel_rfl
theorem zc12 : zeroCells Try.prog 12 = some [.int .u64 0] := by kernel_rfl
theorem ze12 : (Try.prog.info? 12).bind (·.zero) = some (.int .u64 0) := by kernel_rfl
theorem sz13 : (Try.prog.info? 13).map (·.size) = some 2 := by kernel_rfl
theorem zc13 : zeroCells Try.prog 13 = some [.string ByteArray.empty, .int .u64 0] := by kernel_rfl
theorem fo13_0 : fieldOff Try.prog 13 0 = some 0 := by kernel_rfl
theorem fo13_1 : fieldOff Try.prog 13 1 = some 1 := by kernel_rfl
theorem sz14 : (Try.prog.info? 14).map (·.size) = some 2 := by kernel_rfl
theorem zc14 : zeroCells Try.prog 14 = some [.string ByteArray.empty, .int .u64 0] := by kernel_rfl
theorem fo14_0 : fieldOff Try.prog 14 0 = some 0 := by kernel_rfl
theorem fo14_1 : fieldOff Try.prog 14 1 = some 1 := by kernel_rfl
theorem one15 : one Try.prog 15 = true := by kernel_rfl
theorem sz15 : (Try.prog.info? 15).map (·.size) = some 1 := by kernel_rfl
theorem zc15 : zeroCells Try.prog 15 = some [.pointer none] := by kernel_rfl
theorem ze15 : (Try.prog.info? 15).bind (·.zero) = some (.pointer none) := by kernel_rfl
theorem one16 : one Try.prog 16 = true := by kernel_rfl
theorem sz16 : (Try.prog.info? 16).map (·.size) = some 1 := by kernel_rfl
theorem zc16 : zeroCells Try.prog 16 = some [.pointer none] := by kernel_rfl
theorem ze16 : (Try.prog.info? 16).bind (·.zero) = some (.pointer none) := by kernel_rfl
theorem one17 : one Try.prog 17 = true := by kernel_rfl
theorem sz17 : (Try.prog.info? 17).map (·.size) = some 1 := by kernel_rfl
theorem zc17 : zeroCells Try.prog 17 = some [.pointer none] := by kernel_rfl
theorem ze17 : (Try.prog.info? 17).bind (·.zero) = some (.pointer none) := by kernel_rfl
theorem sz18 : (Try.prog.info? 18).map (·.size) = some 1 := by kernel_rfl
theorem zc18 : zeroCells Try.prog 18 = some [.pointer none] := by kernel_rfl
theorem fo18_0 : fieldOff Try.prog 18 0 = some 0 := by kernel_rfl
theorem sz19 : (Try.prog.info? 19).map (·.size) = some 1 := by kernel_rfl
theorem zc19 : zeroCells Try.prog 19 = some [.pointer none] := by kernel_rfl
theorem fo19_0 : fieldOff Try.prog 19 0 = some 0 := by kernel_rfl
theorem one20 : one Try.prog 20 = true := by kernel_rfl
theorem sz20 : (Try.prog.info? 20).map (·.size) = some 1 := by kernel_rfl
theorem zc20 : zeroCells Try.prog 20 = some [.nilIface] := by kernel_rfl
theorem ze20 : (Try.prog.info? 20).bind (·.zero) = some (.nilIface) := by kernel_rfl
theorem one21 : one Try.prog 21 = true := by kernel_rfl
theorem sz21 : (Try.prog.info? 21).map (·.size) = some 1 := by kernel_rfl
theorem zc21 : zeroCells Try.prog 21 = some [.int .i32 0] := by kernel_rfl
theorem ze21 : (Try.prog.info? 21).bind (·.zero) = some (.int .i32 0) := by kernel_rfl
theorem one22 : one Try.prog 22 = true := by kernel_rfl
theorem sz22 : (Try.prog.info? 22).map (·.size) = some 1 := by kernel_rfl
theorem zc22 : zeroCells Try.prog 22 = some [.slice none 0 0] := by kernel_rfl
theorem eo22 : elemOK Try.prog 22 24 1 = true := by kernel_rfl
theorem go22 : growOK Try.prog 22 24 1 24 = true := by kernel_rfl
theorem ze22 : (Try.prog.info? 22).bind (·.zero) = some (.slice none 0 0) := by kernel_rfl
theorem one23 : one Try.prog 23 = true := by kernel_rfl
theorem sz23 : (Try.prog.info? 23).map (·.size) = some 1 := by kernel_rfl
theorem zc23 : zeroCells Try.prog 23 = some [.slice none 0 0] := by kernel_rfl
theorem eo23 : elemOK Try.prog 23 43 4 = true := by kernel_rfl
theorem go23 : growOK Try.prog 23 43 4 48 = true := by kernel_rfl
theorem ze23 : (Try.prog.info? 23).bind (·.zero) = some (.slice none 0 0) := by kernel_rfl
theorem one24 : one Try.prog 24 = true := by kernel_rfl
theorem sz24 : (Try.prog.info? 24).map (·.size) = some 1 := by kernel_rfl
theorem zc24 : zeroCells Try.prog 24 = some [.slice none 0 0] := by kernel_rfl
theorem eo24 : elemOK Try.prog 24 3 1 = true := by kernel_rfl
theorem go24 : growOK Try.prog 24 3 1 8 = true := by kernel_rfl
theorem ze24 : (Try.prog.info? 24).bind (·.zero) = some (.slice none 0 0) := by kernel_rfl
theorem one25 : one Try.prog 25 = true := by kernel_rfl
theorem sz25 : (Try.prog.info? 25).map (·.size) = some 1 := by kernel_rfl
theorem zc25 : zeroCells Try.prog 25 = some [.nilFunc] := by kernel_rfl
theorem ze25 : (Try.prog.info? 25).bind (·.zero) = some (.nilFunc) := by kernel_rfl
theorem one26 : one Try.prog 26 = true := by kernel_rfl
theorem sz26 : (Try.prog.info? 26).map (·.size) = some 1 := by kernel_rfl
theorem zc26 : zeroCells Try.prog 26 = some [.nilFunc] := by kernel_rfl
theorem ze26 : (Try.prog.info? 26).bind (·.zero) = some (.nilFunc) := by kernel_rfl
theorem one27 : one Try.prog 27 = true := by kernel_rfl
theorem sz27 : (Try.prog.info? 27).map (·.size) = some 1 := by kernel_rfl
theorem zc27 : zeroCells Try.prog 27 = some [.int .i64 0] := by kernel_rfl
theorem ze27 : (Try.prog.info? 27).bind (·.zero) = some (.int .i64 0) := by kernel_rfl
theorem one29 : one Try.prog 29 = true := by kernel_rfl
theorem sz29 : (Try.prog.info? 29).map (·.size) = some 1 := by kernel_rfl
theorem zc29 : zeroCells Try.prog 29 = some [.nilFunc] := by kernel_rfl
theorem ze29 : (Try.prog.info? 29).bind (·.zero) = some (.nilFunc) := by kernel_rfl
theorem one30 : one Try.prog 30 = true := by kernel_rfl
theorem sz30 : (Try.prog.info? 30).map (·.size) = some 1 := by kernel_rfl
theorem zc30 : zeroCells Try.prog 30 = some [.nilFunc] := by kernel_rfl
theorem ze30 : (Try.prog.info? 30).bind (·.zero) = some (.nilFunc) := by kernel_rfl
theorem one31 : one Try.prog 31 = true := by kernel_rfl
theorem sz31 : (Try.prog.info? 31).map (·.size) = some 1 := by kernel_rfl
theorem zc31 : zeroCells Try.prog 31 = some [.nilFunc] := by kernel_rfl
theorem ze31 : (Try.prog.info? 31).bind (·.zero) = some (.nilFunc) := by kernel_rfl
theorem one32 : one Try.prog 32 = true := by kernel_rfl
theorem sz32 : (Try.prog.info? 32).map (·.size) = some 1 := by kernel_rfl
theorem zc32 : zeroCells Try.prog 32 = some [.nilFunc] := by kernel_rfl
theorem ze32 : (Try.prog.info? 32).bind (·.zero) = some (.nilFunc) := by kernel_rfl
theorem one33 : one Try.prog 33 = true := by kernel_rfl
theorem sz33 : (Try.prog.info? 33).map (·.size) = some 1 := by kernel_rfl
theorem zc33 : zeroCells Try.prog 33 = some [.nilFunc] := by kernel_rfl
theorem ze33 : (Try.prog.info? 33).bind (·.zero) = some (.nilFunc) := by kernel_rfl
theorem one34 : one Try.prog 34 = true := by kernel_rfl
theorem sz34 : (Try.prog.info? 34).map (·.size) = some 1 := by kernel_rfl
theorem zc34 : zeroCells Try.prog 34 = some [.nilFunc] := by kernel_rfl
theorem ze34 : (Try.prog.info? 34).bind (·.zero) = some (.nilFunc) := by kernel_rfl
theorem one35 : one Try.prog 35 = true := by kernel_rfl
theorem sz35 : (Try.prog.info? 35).map (·.size) = some 1 := by kernel_rfl
theorem zc35 : zeroCells Try.prog 35 = some [.nilFunc] := by kernel_rfl
theorem ze35 : (Try.prog.info? 35).bind (·.zero) = some (.nilFunc) := by kernel_rfl
theorem one36 : one Try.prog 36 = true := by kernel_rfl
theorem sz36 : (Try.prog.info? 36).map (·.size) = some 1 := by kernel_rfl
theorem zc36 : zeroCells Try.prog 36 = some [.nilFunc] := by kernel_rfl
theorem ze36 : (Try.prog.info? 36).bind (·.zero) = some (.nilFunc) := by kernel_rfl
theorem one38 : one Try.prog 38 = true := by kernel_rfl
theorem sz38 : (Try.prog.info? 38).map (·.size) = some 1 := by kernel_rfl
theorem zc38 : zeroCells Try.prog 38 = some [.nilFunc] := by kernel_rfl
theorem ze38 : (Try.prog.info? 38).bind (·.zero) = some (.nilFunc) := by kernel_rfl
theorem one39 : one Try.prog 39 = true := by kernel_rfl
theorem sz39 : (Try.prog.info? 39).map (·.size) = some 1 := by kernel_rfl
theorem zc39 : zeroCells Try.prog 39 = some [.nilFunc] := by kernel_rfl
theorem ze39 : (Try.prog.info? 39).bind (·.zero) = some (.nilFunc) := by kernel_rfl
theorem one40 : one Try.prog 40 = true := by kernel_rfl
theorem sz40 : (Try.prog.info? 40).map (·.size) = some 1 := by kernel_rfl
theorem zc40 : zeroCells Try.prog 40 = some [.nilFunc] := by kernel_rfl
theorem ze40 : (Try.prog.info? 40).bind (·.zero) = some (.nilFunc) := by kernel_rfl
theorem one41 : one Try.prog 41 = true := by kernel_rfl
theorem sz41 : (Try.prog.info? 41).map (·.size) = some 1 := by kernel_rfl
theorem zc41 : zeroCells Try.prog 41 = some [.nilFunc] := by kernel_rfl
theorem ze41 : (Try.prog.info? 41).bind (·.zero) = some (.nilFunc) := by kernel_rfl
theorem sz42 : (Try.prog.info? 42).map (·.size) = some 4 := by kernel_rfl
theorem zc42 : zeroCells Try.prog 42 = some [.int .i64 0, .int .i64 0, .int .i64 0, .slice none 0 0] := by kernel_rfl
theorem fo42_0 : fieldOff Try.prog 42 0 = some 0 := by kernel_rfl
theorem fo42_1 : fieldOff Try.prog 42 1 = some 1 := by kernel_rfl
theorem fo42_2 : fieldOff Try.prog 42 2 = some 2 := by kernel_rfl
theorem fo42_3 : fieldOff Try.prog 42 3 = some 3 := by kernel_rfl
theorem sz43 : (Try.prog.info? 43).map (·.size) = some 4 := by kernel_rfl
theorem zc43 : zeroCells Try.prog 43 = some [.int .i64 0, .int .i64 0, .int .i64 0, .slice none 0 0] := by kernel_rfl
theorem fo43_0 : fieldOff Try.prog 43 0 = some 0 := by kernel_rfl
theorem fo43_1 : fieldOff Try.prog 43 1 = some 1 := by kernel_rfl
theorem fo43_2 : fieldOff Try.prog 43 2 = some 2 := by kernel_rfl
theorem fo43_3 : fieldOff Try.prog 43 3 = some 3 := by kernel_rfl
theorem one44 : one Try.prog 44 = true := by kernel_rfl
theorem sz44 : (Try.prog.info? 44).map (·.size) = some 1 := by kernel_rfl
theorem zc44 : zeroCells Try.prog 44 = some [.nilFunc] := by kernel_rfl
theorem ze44 : (Try.prog.info? 44).bind (·.zero) = some (.nilFunc) := by kernel_rfl
theorem one45 : one Try.prog 45 = true := by kernel_rfl
theorem sz45 : (Try.prog.info? 45).map (·.size) = some 1 := by kernel_rfl
theorem zc45 : zeroCells Try.prog 45 = some [.nilFunc] := by kernel_rfl
theorem ze45 : (Try.prog.info? 45).bind (·.zero) = some (.nilFunc) := by kernel_rfl
theorem one46 : one Try.prog 46 = true := by kernel_rfl
theorem sz46 : (Try.prog.info? 46).map (·.size) = some 1 := by kernel_rfl
theorem zc46 : zeroCells Try.prog 46 = some [.nilFunc] := by kernel_rfl
theorem ze46 : (Try.prog.info? 46).bind (·.zero) = some (.nilFunc) := by kernel_rfl
theorem one48 : one Try.prog 48 = true := by kernel_rfl
theorem sz48 : (Try.prog.info? 48).map (·.size) = some 1 := by kernel_rfl
theorem zc48 : zeroCells Try.prog 48 = some [.nilFunc] := by kernel_rfl
theorem ze48 : (Try.prog.info? 48).bind (·.zero) = some (.nilFunc) := by kernel_rfl
theorem one49 : one Try.prog 49 = true := by kernel_rfl
theorem sz49 : (Try.prog.info? 49).map (·.size) = some 1 := by kernel_rfl
theorem zc49 : zeroCells Try.prog 49 = some [.nilFunc] := by kernel_rfl
theorem ze49 : (Try.prog.info? 49).bind (·.zero) = some (.nilFunc) := by kernel_rfl
theorem one50 : one Try.prog 50 = true := by kernel_rfl
theorem sz50 : (Try.prog.info? 50).map (·.size) = some 1 := by kernel_rfl
theorem zc50 : zeroCells Try.prog 50 = some [.nilFunc] := by kernel_rfl
theorem ze50 : (Try.prog.info? 50).bind (·.zero) = some (.nilFunc) := by kernel_rfl
theorem one51 : one Try.prog 51 = true := by kernel_rfl
theorem sz51 : (Try.prog.info? 51).map (·.size) = some 1 := by kernel_rfl
theorem zc51 : zeroCells Try.prog 51 = some [.nilFunc] := by kernel_rfl
theorem ze51 : (Try.prog.info? 51).bind (·.zero) = some (.nilFunc) := by kernel_rfl
theorem one52 : one Try.prog 52 = true := by kernel_rfl
theorem sz52 : (Try.prog.info? 52).map (·.size) = some 1 := by kernel_rfl
theorem zc52 : zeroCells Try.prog 52 = some [.nilFunc] := by kernel_rfl
theorem ze52 : (Try.prog.info? 52).bind (·.zero) = some (.nilFunc) := by kernel_rfl
theorem one53 : one Try.prog 53 = true := by kernel_rfl
theorem sz53 : (Try.prog.info? 53).map (·.size) = some 1 := by kernel_rfl
theorem zc53 : zeroCells Try.prog 53 = some [.nilFunc] := by kernel_rfl
theorem ze53 : (Try.prog.info? 53).bind (·.zero) = some (.nilFunc) := by kernel_rfl
theorem one54 : one Try.prog 54 = true := by kernel_rfl
theorem sz54 : (Try.prog.info? 54).map (·.size) = some 1 := by kernel_rfl
theorem zc54 : zeroCells Try.prog 54 = some [.map none] := by kernel_rfl
theorem ze54 : (Try.prog.info? 54).bind (·.zero) = some (.map none) := by kernel_rfl
theorem one55 : one Try.prog 55 = true := by kernel_rfl
theorem sz55 : (Try.prog.info? 55).map (·.size) = some 1 := by kernel_rfl
theorem zc55 : zeroCells Try.prog 55 = some [.nilFunc] := by kernel_rfl
theorem ze55 : (Try.prog.info? 55).bind (·.zero) = some (.nilFunc) := by kernel_rfl
theorem one56 : one Try.prog 56 = true := by kernel_rfl
theorem sz56 : (Try.prog.info? 56).map (·.size) = some 1 := by kernel_rfl
theorem zc56 : zeroCells Try.prog 56 = some [.nilFunc] := by kernel_rfl
theorem ze56 : (Try.prog.info? 56).bind (·.zero) = some (.nilFunc) := by kernel_rfl
theorem one57 : one Try.prog 57 = true := by kernel_rfl
theorem sz57 : (Try.prog.info? 57).map (·.size) = some 1 := by kernel_rfl
theorem zc57 : zeroCells Try.prog 57 = some [.nilFunc] := by kernel_rfl
theorem ze57 : (Try.prog.info? 57).bind (·.zero) = some (.nilFunc) := by kernel_rfl
theorem one58 : one Try.prog 58 = true := by kernel_rfl
theorem sz58 : (Try.prog.info? 58).map (·.size) = some 1 := by kernel_rfl
theorem zc58 : zeroCells Try.prog 58 = some [.nilFunc] := by kernel_rfl
theorem ze58 : (Try.prog.info? 58).bind (·.zero) = some (.nilFunc) := by kernel_rfl
theorem one59 : one Try.prog 59 = true := by kernel_rfl
theorem sz59 : (Try.prog.info? 59).map (·.size) = some 1 := by kernel_rfl
theorem zc59 : zeroCells Try.prog 59 = some [.nilFunc] := by kernel_rfl
theorem ze59 : (Try.prog.info? 59).bind (·.zero) = some (.nilFunc) := by kernel_rfl
theorem one60 : one Try.prog 60 = true := by kernel_rfl
theorem sz60 : (Try.prog.info? 60).map (·.size) = some 1 := by kernel_rfl
theorem zc60 : zeroCells Try.prog 60 = some [.nilFunc] := by kernel_rfl
theorem ze60 : (Try.prog.info? 60).bind (·.zero) = some (.nilFunc) := by kernel_rfl
theorem one61 : one Try.prog 61 = true := by kernel_rfl
theorem sz61 : (Try.prog.info? 61).map (·.size) = some 1 := by kernel_rfl
theorem zc61 : zeroCells Try.prog 61 = some [.slice none 0 0] := by kernel_rfl
theorem eo61 : elemOK Try.prog 61 82 3 = true := by kernel_rfl
theorem go61 : growOK Try.prog 61 82 3 24 = true := by kernel_rfl
theorem ze61 : (Try.prog.info? 61).bind (·.zero) = some (.slice none 0 0) := by kernel_rfl
theorem one62 : one Try.prog 62 = true := by kernel_rfl
theorem sz62 : (Try.prog.info? 62).map (·.size) = some 1 := by kernel_rfl
theorem zc62 : zeroCells Try.prog 62 = some [.nilFunc] := by kernel_rfl
theorem ze62 : (Try.prog.info? 62).bind (·.zero) = some (.nilFunc) := by kernel_rfl
theorem one63 : one Try.prog 63 = true := by kernel_rfl
theorem sz63 : (Try.prog.info? 63).map (·.size) = some 1 := by kernel_rfl
theorem zc63 : zeroCells Try.prog 63 = some [.slice none 0 0] := by kernel_rfl
theorem eo63 : elemOK Try.prog 63 76 1 = true := by kernel_rfl
theorem go63 : growOK Try.prog 63 76 1 16 = true := by kernel_rfl
theorem ze63 : (Try.prog.info? 63).bind (·.zero) = some (.slice none 0 0) := by kernel_rfl
theorem one65 : one Try.prog 65 = true := by kernel_rfl
theorem sz65 : (Try.prog.info? 65).map (·.size) = some 1 := by kernel_rfl
theorem zc65 : zeroCells Try.prog 65 = some [.nilFunc] := by kernel_rfl
theorem ze65 : (Try.prog.info? 65).bind (·.zero) = some (.nilFunc) := by kernel_rfl
theorem one66 : one Try.prog 66 = true := by kernel_rfl
theorem sz66 : (Try.prog.info? 66).map (·.size) = some 1 := by kernel_rfl
theorem zc66 : zeroCells Try.prog 66 = some [.pointer none] := by kernel_rfl
theorem ze66 : (Try.prog.info? 66).bind (·.zero) = some (.pointer none) := by kernel_rfl
theorem one67 : one Try.prog 67 = true := by kernel_rfl
theorem sz67 : (Try.prog.info? 67).map (·.size) = some 1 := by kernel_rfl
theorem zc67 : zeroCells Try.prog 67 = some [.slice none 0 0] := by kernel_rfl
theorem eo67 : elemOK Try.prog 67 71 1 = true := by kernel_rfl
theorem go67 : growOK Try.prog 67 71 1 4 = true := by kernel_rfl
theorem ze67 : (Try.prog.info? 67).bind (·.zero) = some (.slice none 0 0) := by kernel_rfl
theorem sz68 : (Try.prog.info? 68).map (·.size) = some 3 := by kernel_rfl
theorem zc68 : zeroCells Try.prog 68 = some [.slice none 0 0, .slice none 0 0, .slice none 0 0] := by kernel_rfl
theorem fo68_0 : fieldOff Try.prog 68 0 = some 0 := by kernel_rfl
theorem fo68_1 : fieldOff Try.prog 68 1 = some 1 := by kernel_rfl
theorem fo68_2 : fieldOff Try.prog 68 2 = some 2 := by kernel_rfl
theorem sz69 : (Try.prog.info? 69).map (·.size) = some 3 := by kernel_rfl
theorem zc69 : zeroCells Try.prog 69 = some [.slice none 0 0, .slice none 0 0, .slice none 0 0] := by kernel_rfl
theorem fo69_0 : fieldOff Try.prog 69 0 = some 0 := by kernel_rfl
theorem fo69_1 : fieldOff Try.prog 69 1 = some 1 := by kernel_rfl
theorem fo69_2 : fieldOff Try.prog 69 2 = some 2 := by kernel_rfl
theorem one70 : one Try.prog 70 = true := by kernel_rfl
theorem sz70 : (Try.prog.info? 70).map (·.size) = some 1 := by kernel_rfl
theorem zc70 : zeroCells Try.prog 70 = some [.nilFunc] := by kernel_rfl
theorem ze70 : (Try.prog.info? 70).bind (·.zero) = some (.nilFunc) := by kernel_rfl
theorem one71 : one Try.prog 71 = true := by kernel_rfl
theorem sz71 : (Try.prog.info? 71).map (·.size) = some 1 := by kernel_rfl
theorem zc71 : zeroCells Try.prog 71 = some [.int .u32 0] := by kernel_rfl
theorem ze71 : (Try.prog.info? 71).bind (·.zero) = some (.int .u32 0) := by kernel_rfl
theorem sz72 : (Try.prog.info? 72).map (·.size) = some 2 := by kernel_rfl
theorem zc72 : zeroCells Try.prog 72 = some [.int .u32 0, .int .i64 0] := by kernel_rfl
theorem fo72_0 : fieldOff Try.prog 72 0 = some 0 := by kernel_rfl
theorem fo72_1 : fieldOff Try.prog 72 1 = some 1 := by kernel_rfl
theorem sz73 : (Try.prog.info? 73).map (·.size) = some 2 := by kernel_rfl
theorem zc73 : zeroCells Try.prog 73 = some [.int .u32 0, .int .i64 0] := by kernel_rfl
theorem fo73_0 : fieldOff Try.prog 73 0 = some 0 := by kernel_rfl
theorem fo73_1 : fieldOff Try.prog 73 1 = some 1 := by kernel_rfl
theorem one74 : one Try.prog 74 = true := by kernel_rfl
theorem sz74 : (Try.prog.info? 74).map (·.size) = some 1 := by kernel_rfl
theorem zc74 : zeroCells Try.prog 74 = some [.nilFunc] := by kernel_rfl
theorem ze74 : (Try.prog.info? 74).bind (·.zero) = some (.nilFunc) := by kernel_rfl
theorem one75 : one Try.prog 75 = true := by kernel_rfl
theorem sz75 : (Try.prog.info? 75).map (·.size) = some 1 := by kernel_rfl
theorem zc75 : zeroCells Try.prog 75 = some [.nilIface] := by kernel_rfl
theorem ze75 : (Try.prog.info? 75).bind (·.zero) = some (.nilIface) := by kernel_rfl
theorem one76 : one Try.prog 76 = true := by kernel_rfl
theorem sz76 : (Try.prog.info? 76).map (·.size) = some 1 := by kernel_rfl
theorem zc76 : zeroCells Try.prog 76 = some [.nilIface] := by kernel_rfl
theorem ze76 : (Try.prog.info? 76).bind (·.zero) = some (.nilIface) := by kernel_rfl
theorem one77 : one Try.prog 77 = true := by kernel_rfl
theorem sz77 : (Try.prog.info? 77).map (·.size) = some 1 := by kernel_rfl
theorem zc77 : zeroCells Try.prog 77 = some [.nilFunc] := by kernel_rfl
theorem ze77 : (Try.prog.info? 77).bind (·.zero) = some (.nilFunc) := by kernel_rfl
theorem one78 : one Try.prog 78 = true := by kernel_rfl
theorem sz78 : (Try.prog.info? 78).map (·.size) = some 1 := by kernel_rfl
theorem zc78 : zeroCells Try.prog 78 = some [.nilFunc] := by kernel_rfl
theorem ze78 : (Try.prog.info? 78).bind (·.zero) = some (.nilFunc) := by kernel_rfl
theorem one79 : one Try.prog 79 = true := by kernel_rfl
theorem sz79 : (Try.prog.info? 79).map (·.size) = some 1 := by kernel_rfl
theorem zc79 : zeroCells Try.prog 79 = some [.nilFunc] := by kernel_rfl
theorem ze79 : (Try.prog.info? 79).bind (·.zero) = some (.nilFunc) := by kernel_rfl
theorem one80 : one Try.prog 80 = true := by kernel_rfl
theorem sz80 : (Try.prog.info? 80).map (·.size) = some 1 := by kernel_rfl
theorem zc80 : zeroCells Try.prog 80 = some [.nilFunc] := by kernel_rfl
theorem ze80 : (Try.prog.info? 80).bind (·.zero) = some (.nilFunc) := by kernel_rfl
theorem sz81 : (Try.prog.info? 81).map (·.size) = some 3 := by kernel_rfl
theorem zc81 : zeroCells Try.prog 81 = some [.int .i64 0, .int .i64 0, .int .i64 0] := by kernel_rfl
theorem fo81_0 : fieldOff Try.prog 81 0 = some 0 := by kernel_rfl
theorem fo81_1 : fieldOff Try.prog 81 1 = some 1 := by kernel_rfl
theorem fo81_2 : fieldOff Try.prog 81 2 = some 2 := by kernel_rfl
theorem sz82 : (Try.prog.info? 82).map (·.size) = some 3 := by kernel_rfl
theorem zc82 : zeroCells Try.prog 82 = some [.int .i64 0, .int .i64 0, .int .i64 0] := by kernel_rfl
theorem fo82_0 : fieldOff Try.prog 82 0 = some 0 := by kernel_rfl
theorem fo82_1 : fieldOff Try.prog 82 1 = some 1 := by kernel_rfl
theorem fo82_2 : fieldOff Try.prog 82 2 = some 2 := by kernel_rfl
theorem one83 : one Try.prog 83 = true := by kernel_rfl
theorem sz83 : (Try.prog.info? 83).map (·.size) = some 1 := by kernel_rfl
theorem zc83 : zeroCells Try.prog 83 = some [.nilFunc] := by kernel_rfl
theorem ze83 : (Try.prog.info? 83).bind (·.zero) = some (.nilFunc) := by kernel_rfl
theorem one84 : one Try.prog 84 = true := by kernel_rfl
theorem sz84 : (Try.prog.info? 84).map (·.size) = some 1 := by kernel_rfl
theorem zc84 : zeroCells Try.prog 84 = some [.nilFunc] := by kernel_rfl
theorem ze84 : (Try.prog.info? 84).bind (·.zero) = some (.nilFunc) := by kernel_rfl
theorem one85 : one Try.prog 85 = true := by kernel_rfl
theorem sz85 : (Try.prog.info? 85).map (·.size) = some 1 := by kernel_rfl
theorem zc85 : zeroCells Try.prog 85 = some [.nilFunc] := by kernel_rfl
theorem ze85 : (Try.prog.info? 85).bind (·.zero) = some (.nilFunc) := by kernel_rfl
theorem one86 : one Try.prog 86 = true := by kernel_rfl
theorem sz86 : (Try.prog.info? 86).map (·.size) = some 1 := by kernel_rfl
theorem zc86 : zeroCells Try.prog 86 = some [.map none] := by kernel_rfl
theorem ze86 : (Try.prog.info? 86).bind (·.zero) = some (.map none) := by kernel_rfl
theorem one87 : one Try.prog 87 = true := by kernel_rfl
theorem sz87 : (Try.prog.info? 87).map (·.size) = some 1 := by kernel_rfl
theorem zc87 : zeroCells Try.prog 87 = some [.nilFunc] := by kernel_rfl
theorem ze87 : (Try.prog.info? 87).bind (·.zero) = some (.nilFunc) := by kernel_rfl
theorem one88 : one Try.prog 88 = true := by kernel_rfl
theorem sz88 : (Try.prog.info? 88).map (·.size) = some 1 := by kernel_rfl
theorem zc88 : zeroCells Try.prog 88 = some [.nilFunc] := by kernel_rfl
theorem ze88 : (Try.prog.info? 88).bind (·.zero) = some (.nilFunc) := by kernel_rfl
theorem one89 : one Try.prog 89 = true := by kernel_rfl
theorem sz89 : (Try.prog.info? 89).map (·.size) = some 1 := by kernel_rfl
theorem zc89 : zeroCells Try.prog 89 = some [.nilFunc] := by kernel_rfl
theorem ze89 : (Try.prog.info? 89).bind (·.zero) = some (.nilFunc) := by kernel_rfl
theorem one90 : one Try.prog 90 = true := by kernel_rfl
theorem sz90 : (Try.prog.info? 90).map (·.size) = some 1 := by kernel_rfl
theorem zc90 : zeroCells Try.prog 90 = some [.nilFunc] := by kernel_rfl
theorem ze90 : (Try.prog.info? 90).bind (·.zero) = some (.nilFunc) := by kernel_rfl
theorem one91 : one Try.prog 91 = true := by kernel_rfl
theorem sz91 : (Try.prog.info? 91).map (·.size) = some 1 := by kernel_rfl
theorem zc91 : zeroCells Try.prog 91 = some [.nilFunc] := by kernel_rfl
theorem ze91 : (Try.prog.info? 91).bind (·.zero) = some (.nilFunc) := by kernel_rfl
theorem one92 : one Try.prog 92 = true := by kernel_rfl
theorem sz92 : (Try.prog.info? 92).map (·.size) = some 1 := by kernel_rfl
theorem zc92 : zeroCells Try.prog 92 = some [.nilFunc] := by kernel_rfl
theorem ze92 : (Try.prog.info? 92).bind (·.zero) = some (.nilFunc) := by kernel_rfl
theorem one93 : one Try.prog 93 = true := by kernel_rfl
theorem sz93 : (Try.prog.info? 93).map (·.size) = some 1 := by kernel_rfl
theorem zc93 : zeroCells Try.prog 93 = some [.nilFunc] := by kernel_rfl
theorem ze93 : (Try.prog.info? 93).bind (·.zero) = some (.nilFunc) := by kernel_rfl
theorem one94 : one Try.prog 94 = true := by kernel_rfl
theorem sz94 : (Try.prog.info? 94).map (·.size) = some 1 := by kernel_rfl
theorem zc94 : zeroCells Try.prog 94 = some [.slice none 0 0] := by kernel_rfl
theorem eo94 : elemOK Try.prog 94 4 1 = true := by kernel_rfl
theorem go94 : growOK Try.prog 94 4 1 1 = true := by kernel_rfl
theorem ze94 : (Try.prog.info? 94).bind (·.zero) = some (.slice none 0 0) := by kernel_rfl
theorem sz95 : (Try.prog.info? 95).map (·.size) = some 11 := by kernel_rfl
theorem zc95 : zeroCells Try.prog 95 = some [.int .i64 0, .int .i64 0, .int .i64 0, .int .i64 0, .int .i64 0, .int .i64 0, .slice none 0 0, .int .i64 0, .int .i64 0, .int .i64 0, .slice none 0 0] := by kernel_rfl
theorem fo95_0 : fieldOff Try.prog 95 0 = some 0 := by kernel_rfl
theorem fo95_1 : fieldOff Try.prog 95 1 = some 3 := by kernel_rfl
theorem fo95_2 : fieldOff Try.prog 95 2 = some 7 := by kernel_rfl
theorem sz96 : (Try.prog.info? 96).map (·.size) = some 11 := by kernel_rfl
theorem zc96 : zeroCells Try.prog 96 = some [.int .i64 0, .int .i64 0, .int .i64 0, .int .i64 0, .int .i64 0, .int .i64 0, .slice none 0 0, .int .i64 0, .int .i64 0, .int .i64 0, .slice none 0 0] := by kernel_rfl
theorem fo96_0 : fieldOff Try.prog 96 0 = some 0 := by kernel_rfl
theorem fo96_1 : fieldOff Try.prog 96 1 = some 3 := by kernel_rfl
theorem fo96_2 : fieldOff Try.prog 96 2 = some 7 := by kernel_rfl
theorem sz97 : (Try.prog.info? 97).map (·.size) = some 5 := by kernel_rfl
theorem zc97 : zeroCells Try.prog 97 = some [.int .i64 0, .int .i64 0, .int .i64 0, .int .i64 0, .slice none 0 0] := by kernel_rfl
theorem fo97_0 : fieldOff Try.prog 97 0 = some 0 := by kernel_rfl
theorem fo97_1 : fieldOff Try.prog 97 1 = some 1 := by kernel_rfl
theorem sz98 : (Try.prog.info? 98).map (·.size) = some 5 := by kernel_rfl
theorem zc98 : zeroCells Try.prog 98 = some [.int .i64 0, .int .i64 0, .int .i64 0, .int .i64 0, .slice none 0 0] := by kernel_rfl
theorem fo98_0 : fieldOff Try.prog 98 0 = some 0 := by kernel_rfl
theorem fo98_1 : fieldOff Try.prog 98 1 = some 1 := by kernel_rfl
theorem one100 : one Try.prog 100 = true := by kernel_rfl
theorem sz100 : (Try.prog.info? 100).map (·.size) = some 1 := by kernel_rfl
theorem zc100 : zeroCells Try.prog 100 = some [.nilFunc] := by kernel_rfl
theorem ze100 : (Try.prog.info? 100).bind (·.zero) = some (.nilFunc) := by kernel_rfl
theorem one101 : one Try.prog 101 = true := by kernel_rfl
theorem sz101 : (Try.prog.info? 101).map (·.size) = some 1 := by kernel_rfl
theorem zc101 : zeroCells Try.prog 101 = some [.nilFunc] := by kernel_rfl
theorem ze101 : (Try.prog.info? 101).bind (·.zero) = some (.nilFunc) := by kernel_rfl
theorem one102 : one Try.prog 102 = true := by kernel_rfl
theorem sz102 : (Try.prog.info? 102).map (·.size) = some 1 := by kernel_rfl
theorem zc102 : zeroCells Try.prog 102 = some [.nilFunc] := by kernel_rfl
theorem ze102 : (Try.prog.info? 102).bind (·.zero) = some (.nilFunc) := by kernel_rfl
theorem one103 : one Try.prog 103 = true := by kernel_rfl
theorem sz103 : (Try.prog.info? 103).map (·.size) = some 1 := by kernel_rfl
theorem zc103 : zeroCells Try.prog 103 = some [.nilFunc] := by kernel_rfl
theorem ze103 : (Try.prog.info? 103).bind (·.zero) = some (.nilFunc) := by kernel_rfl
theorem one104 : one Try.prog 104 = true := by kernel_rfl
theorem sz104 : (Try.prog.info? 104).map (·.size) = some 1 := by kernel_rfl
theorem zc104 : zeroCells Try.prog 104 = some [.nilFunc] := by kernel_rfl
theorem ze104 : (Try.prog.info? 104).bind (·.zero) = some (.nilFunc) := by kernel_rfl
theorem sz105 : (Try.prog.info? 105).map (·.size) = some 3 := by kernel_rfl
theorem zc105 : zeroCells Try.prog 105 = some [.int .i64 0, .int .i64 0, .int .i64 0] := by kernel_rfl
theorem fo105_0 : fieldOff Try.prog 105 0 = some 0 := by kernel_rfl
theorem fo105_1 : fieldOff Try.prog 105 1 = some 1 := by kernel_rfl
theorem fo105_2 : fieldOff Try.prog 105 2 = some 2 := by kernel_rfl
theorem sz106 : (Try.prog.info? 106).map (·.size) = some 3 := by kernel_rfl
theorem zc106 : zeroCells Try.prog 106 = some [.int .i64 0, .int .i64 0, .int .i64 0] := by kernel_rfl
theorem fo106_0 : fieldOff Try.prog 106 0 = some 0 := by kernel_rfl
theorem fo106_1 : fieldOff Try.prog 106 1 = some 1 := by kernel_rfl
theorem fo106_2 : fieldOff Try.prog 106 2 = some 2 := by kernel_rfl
theorem one107 : one Try.prog 107 = true := by kernel_rfl
theorem sz107 : (Try.prog.info? 107).map (·.size) = some 1 := by kernel_rfl
theorem zc107 : zeroCells Try.prog 107 = some [.map none] := by kernel_rfl
theorem ze107 : (Try.prog.info? 107).bind (·.zero) = some (.map none) := by kernel_rfl
theorem one108 : one Try.prog 108 = true := by kernel_rfl
theorem sz108 : (Try.prog.info? 108).map (·.size) = some 1 := by kernel_rfl
theorem zc108 : zeroCells Try.prog 108 = some [.slice none 0 0] := by kernel_rfl
theorem eo108 : elemOK Try.prog 108 73 2 = true := by kernel_rfl
theorem go108 : growOK Try.prog 108 73 2 16 = true := by kernel_rfl
theorem ze108 : (Try.prog.info? 108).bind (·.zero) = some (.slice none 0 0) := by kernel_rfl
theorem one110 : one Try.prog 110 = true := by kernel_rfl
theorem sz110 : (Try.prog.info? 110).map (·.size) = some 1 := by kernel_rfl
theorem zc110 : zeroCells Try.prog 110 = some [.nilFunc] := by kernel_rfl
theorem ze110 : (Try.prog.info? 110).bind (·.zero) = some (.nilFunc) := by kernel_rfl
theorem one111 : one Try.prog 111 = true := by kernel_rfl
theorem sz111 : (Try.prog.info? 111).map (·.size) = some 1 := by kernel_rfl
theorem zc111 : zeroCells Try.prog 111 = some [.nilFunc] := by kernel_rfl
theorem ze111 : (Try.prog.info? 111).bind (·.zero) = some (.nilFunc) := by kernel_rfl
theorem one112 : one Try.prog 112 = true := by kernel_rfl
theorem sz112 : (Try.prog.info? 112).map (·.size) = some 1 := by kernel_rfl
theorem zc112 : zeroCells Try.prog 112 = some [.slice none 0 0] := by kernel_rfl
theorem eo112 : elemOK Try.prog 112 117 7 = true := by kernel_rfl
theorem go112 : growOK Try.prog 112 117 7 56 = true := by kernel_rfl
theorem ze112 : (Try.prog.info? 112).bind (·.zero) = some (.slice none 0 0) := by kernel_rfl
theorem one114 : one Try.prog 114 = true := by kernel_rfl
theorem sz114 : (Try.prog.info? 114).map (·.size) = some 1 := by kernel_rfl
theorem zc114 : zeroCells Try.prog 114 = some [.nilFunc] := by kernel_rfl
theorem ze114 : (Try.prog.info? 114).bind (·.zero) = some (.nilFunc) := by kernel_rfl
theorem one115 : one Try.prog 115 = true := by kernel_rfl
theorem sz115 : (Try.prog.info? 115).map (·.size) = some 1 := by kernel_rfl
theorem zc115 : zeroCells Try.prog 115 = some [.slice none 0 0] := by kernel_rfl
theorem eo115 : elemOK Try.prog 115 120 4 = true := by kernel_rfl
theorem go115 : growOK Try.prog 115 120 4 32 = true := by kernel_rfl
theorem ze115 : (Try.prog.info? 115).bind (·.zero) = some (.slice none 0 0) := by kernel_rfl
theorem sz116 : (Try.prog.info? 116).map (·.size) = some 7 := by kernel_rfl
theorem zc116 : zeroCells Try.prog 116 = some [.int .i64 0, .int .i64 0, .int .i64 0, .int .i64 0, .int .i64 0, .int .i64 0, .int .i64 0] := by kernel_rfl
theorem fo116_0 : fieldOff Try.prog 116 0 = some 0 := by kernel_rfl
theorem fo116_1 : fieldOff Try.prog 116 1 = some 1 := by kernel_rfl
theorem fo116_2 : fieldOff Try.prog 116 2 = some 2 := by kernel_rfl
theorem fo116_3 : fieldOff Try.prog 116 3 = some 3 := by kernel_rfl
theorem fo116_4 : fieldOff Try.prog 116 4 = some 4 := by kernel_rfl
theorem fo116_5 : fieldOff Try.prog 116 5 = some 5 := by kernel_rfl
theorem fo116_6 : fieldOff Try.prog 116 6 = some 6 := by kernel_rfl
theorem sz117 : (Try.prog.info? 117).map (·.size) = some 7 := by kernel_rfl
theorem zc117 : zeroCells Try.prog 117 = some [.int .i64 0, .int .i64 0, .int .i64 0, .int .i64 0, .int .i64 0, .int .i64 0, .int .i64 0] := by kernel_rfl
theorem fo117_0 : fieldOff Try.prog 117 0 = some 0 := by kernel_rfl
theorem fo117_1 : fieldOff Try.prog 117 1 = some 1 := by kernel_rfl
theorem fo117_2 : fieldOff Try.prog 117 2 = some 2 := by kernel_rfl
theorem fo117_3 : fieldOff Try.prog 117 3 = some 3 := by kernel_rfl
theorem fo117_4 : fieldOff Try.prog 117 4 = some 4 := by kernel_rfl
theorem fo117_5 : fieldOff Try.prog 117 5 = some 5 := by kernel_rfl
theorem fo117_6 : fieldOff Try.prog 117 6 = some 6 := by kernel_rfl
theorem one118 : one Try.prog 118 = true := by kernel_rfl
theorem sz118 : (Try.prog.info? 118).map (·.size) = some 1 := by kernel_rfl
theorem zc118 : zeroCells Try.prog 118 = some [.nilFunc] := by kernel_rfl
theorem ze118 : (Try.prog.info? 118).bind (·.zero) = some (.nilFunc) := by kernel_rfl
theorem sz119 : (Try.prog.info? 119).map (·.size) = some 4 := by kernel_rfl
theorem zc119 : zeroCells Try.prog 119 = some [.int .i64 0, .int .i64 0, .int .i64 0, .int .i64 0] := by kernel_rfl
theorem fo119_0 : fieldOff Try.prog 119 0 = some 0 := by kernel_rfl
theorem fo119_1 : fieldOff Try.prog 119 1 = some 1 := by kernel_rfl
theorem fo119_2 : fieldOff Try.prog 119 2 = some 2 := by kernel_rfl
theorem fo119_3 : fieldOff Try.prog 119 3 = some 3 := by kernel_rfl
theorem sz120 : (Try.prog.info? 120).map (·.size) = some 4 := by kernel_rfl
theorem zc120 : zeroCells Try.prog 120 = some [.int .i64 0, .int .i64 0, .int .i64 0, .int .i64 0] := by kernel_rfl
theorem fo120_0 : fieldOff Try.prog 120 0 = some 0 := by kernel_rfl
theorem fo120_1 : fieldOff Try.prog 120 1 = some 1 := by kernel_rfl
theorem fo120_2 : fieldOff Try.prog 120 2 = some 2 := by kernel_rfl
theorem fo120_3 : fieldOff Try.prog 120 3 = some 3 := by kernel_rfl
theorem one121 : one Try.prog 121 = true := by kernel_rfl
theorem sz121 : (Try.prog.info? 121).map (·.size) = some 1 := by kernel_rfl
theorem zc121 : zeroCells Try.prog 121 = some [.nilFunc] := by kernel_rfl
theorem ze121 : (Try.prog.info? 121).bind (·.zero) = some (.nilFunc) := by kernel_rfl
theorem one122 : one Try.prog 122 = true := by kernel_rfl
theorem sz122 : (Try.prog.info? 122).map (·.size) = some 1 := by kernel_rfl
theorem zc122 : zeroCells Try.prog 122 = some [.nilFunc] := by kernel_rfl
theorem ze122 : (Try.prog.info? 122).bind (·.zero) = some (.nilFunc) := by kernel_rfl
theorem one123 : one Try.prog 123 = true := by kernel_rfl
theorem sz123 : (Try.prog.info? 123).map (·.size) = some 1 := by kernel_rfl
theorem zc123 : zeroCells Try.prog 123 = some [.nilFunc] := by kernel_rfl
theorem ze123 : (Try.prog.info? 123).bind (·.zero) = some (.nilFunc) := by kernel_rfl
theorem one124 : one Try.prog 124 = true := by kernel_rfl
theorem sz124 : (Try.prog.info? 124).map (·.size) = some 1 := by kernel_rfl
theorem zc124 : zeroCells Try.prog 124 = some [.nilFunc] := by kernel_rfl
theorem ze124 : (Try.prog.info? 124).bind (·.zero) = some (.nilFunc) := by kernel_rfl
theorem one125 : one Try.prog 125 = true := by kernel_rfl
theorem sz125 : (Try.prog.info? 125).map (·.size) = some 1 := by kernel_rfl
theorem zc125 : zeroCells Try.prog 125 = some [.nilFunc] := by kernel_rfl
theorem ze125 : (Try.prog.info? 125).bind (·.zero) = some (.nilFunc) := by kernel_rfl
theorem one126 : one Try.prog 126 = true := by kernel_rfl
theorem sz126 : (Try.prog.info? 126).map (·.size) = some 1 := by kernel_rfl
theorem zc126 : zeroCells Try.prog 126 = some [.nilFunc] := by kernel_rfl
theorem ze126 : (Try.prog.info? 126).bind (·.zero) = some (.nilFunc) := by kernel_rfl
theorem one127 : one Try.prog 127 = true := by kernel_rfl
theorem sz127 : (Try.prog.info? 127).map (·.size) = some 1 := by kernel_rfl
theorem zc127 : zeroCells Try.prog 127 = some [.nilFunc] := by kernel_rfl
theorem ze127 : (Try.prog.info? 127).bind (·.zero) = some (.nilFunc) := by kernel_rfl
theorem one128 : one Try.prog 128 = true := by kernel_rfl
theorem sz128 : (Try.prog.info? 128).map (·.size) = some 1 := by kernel_rfl
theorem zc128 : zeroCells Try.prog 128 = some [.int .u64 0] := by kernel_rfl
theorem ze128 : (Try.prog.info? 128).bind (·.zero) = some (.int .u64 0) := by kernel_rfl
theorem one129 : one Try.prog 129 = true := by kernel_rfl
theorem sz129 : (Try.prog.info? 129).map (·.size) = some 1 := by kernel_rfl
theorem zc129 : zeroCells Try.prog 129 = some [.nilFunc] := by kernel_rfl
theorem ze129 : (Try.prog.info? 129).bind (·.zero) = some (.nilFunc) := by kernel_rfl
theorem one130 : one Try.prog 130 = true := by kernel_rfl
theorem sz130 : (Try.prog.info? 130).map (·.size) = some 1 := by kernel_rfl
theorem zc130 : zeroCells Try.prog 130 = some [.nilFunc] := by kernel_rfl
theorem ze130 : (Try.prog.info? 130).bind (·.zero) = some (.nilFunc) := by kernel_rfl
theorem one131 : one Try.prog 131 = true := by kernel_rfl
theorem sz131 : (Try.prog.info? 131).map (·.size) = some 1 := by kernel_rfl
theorem zc131 : zeroCells Try.prog 131 = some [.nilFunc] := by kernel_rfl
theorem ze131 : (Try.prog.info? 131).bind (·.zero) = some (.nilFunc) := by kernel_rfl
theorem one132 : one Try.prog 132 = true := by kernel_rfl
theorem sz132 : (Try.prog.info? 132).map (·.size) = some 1 := by kernel_rfl
theorem zc132 : zeroCells Try.prog 132 = some [.nilFunc] := by kernel_rfl
theorem ze132 : (Try.prog.info? 132).bind (·.zero) = some (.nilFunc) := by kernel_rfl
theorem one133 : one Try.prog 133 = true := by kernel_rfl
theorem sz133 : (Try.prog.info? 133).map (·.size) = some 1 := by kernel_rfl
theorem zc133 : zeroCells Try.prog 133 = some [.nilFunc] := by kernel_rfl
theorem ze133 : (Try.prog.info? 133).bind (·.zero) = some (.nilFunc) := by kernel_rfl
theorem one134 : one Try.prog 134 = true := by kernel_rfl
theorem sz134 : (Try.prog.info? 134).map (·.size) = some 1 := by kernel_rfl
theorem zc134 : zeroCells Try.prog 134 = some [.int .i64 0] := by kernel_rfl
theorem ze134 : (Try.prog.info? 134).bind (·.zero) = some (.int .i64 0) := by kernel_rfl
theorem one136 : one Try.prog 136 = true := by kernel_rfl
theorem sz136 : (Try.prog.info? 136).map (·.size) = some 1 := by kernel_rfl
theorem zc136 : zeroCells Try.prog 136 = some [.nilFunc] := by kernel_rfl
theorem ze136 : (Try.prog.info? 136).bind (·.zero) = some (.nilFunc) := by kernel_rfl
theorem one137 : one Try.prog 137 = true := by kernel_rfl
theorem sz137 : (Try.prog.info? 137).map (·.size) = some 1 := by kernel_rfl
theorem zc137 : zeroCells Try.prog 137 = some [.nilFunc] := by kernel_rfl
theorem ze137 : (Try.prog.info? 137).bind (·.zero) = some (.nilFunc) := by kernel_rfl
theorem one138 : one Try.prog 138 = true := by kernel_rfl
theorem sz138 : (Try.prog.info? 138).map (·.size) = some 1 := by kernel_rfl
theorem zc138 : zeroCells Try.prog 138 = some [.nilFunc] := by kernel_rfl
theorem ze138 : (Try.prog.info? 138).bind (·.zero) = some (.nilFunc) := by kernel_rfl
theorem one140 : one Try.prog 140 = true := by kernel_rfl
theorem sz140 : (Try.prog.info? 140).map (·.size) = some 1 := by kernel_rfl
theorem zc140 : zeroCells Try.prog 140 = some [.nilFunc] := by kernel_rfl
theorem ze140 : (Try.prog.info? 140).bind (·.zero) = some (.nilFunc) := by kernel_rfl
theorem one141 : one Try.prog 141 = true := by kernel_rfl
theorem sz141 : (Try.prog.info? 141).map (·.size) = some 1 := by kernel_rfl
theorem zc141 : zeroCells Try.prog 141 = some [.nilFunc] := by kernel_rfl
theorem ze141 : (Try.prog.info? 141).bind (·.zero) = some (.nilFunc) := by kernel_rfl
theorem one142 : one Try.prog 142 = true := by kernel_rfl
theorem sz142 : (Try.prog.info? 142).map (·.size) = some 1 := by kernel_rfl
theorem zc142 : zeroCells Try.prog 142 = some [.nilFunc] := by kernel_rfl
theorem ze142 : (Try.prog.info? 142).bind (·.zero) = some (.nilFunc) := by kernel_rfl
theorem one143 : one Try.prog 143 = true := by kernel_rfl
theorem sz143 : (Try.prog.info? 143).map (·.size) = some 1 := by kernel_rfl
theorem zc143 : zeroCells Try.prog 143 = some [.int .u64 0] := by kernel_rfl
theorem ze143 : (Try.prog.info? 143).bind (·.zero) = some (.int .u64 0) := by kernel_rfl
theorem one144 : one Try.prog 144 = true := by kernel_rfl
theorem sz144 : (Try.prog.info? 144).map (·.size) = some 1 := by kernel_rfl
theorem zc144 : zeroCells Try.prog 144 = some [.int .u64 0] := by kernel_rfl
theorem ze144 : (Try.prog.info? 144).bind (·.zero) = some (.int .u64 0) := by kernel_rfl
theorem one145 : one Try.prog 145 = true := by kernel_rfl
theorem sz145 : (Try.prog.info? 145).map (·.size) = some 1 := by kernel_rfl
theorem zc145 : zeroCells Try.prog 145 = some [.nilFunc] := by kernel_rfl
theorem ze145 : (Try.prog.info? 145).bind (·.zero) = some (.nilFunc) := by kernel_rfl
theorem one146 : one Try.prog 146 = true := by kernel_rfl
theorem sz146 : (Try.prog.info? 146).map (·.size) = some 1 := by kernel_rfl
theorem zc146 : zeroCells Try.prog 146 = some [.nilFunc] := by kernel_rfl
theorem ze146 : (Try.prog.info? 146).bind (·.zero) = some (.nilFunc) := by kernel_rfl
theorem one147 : one Try.prog 147 = true := by kernel_rfl
theorem sz147 : (Try.prog.info? 147).map (·.size) = some 1 := by kernel_rfl
theorem zc147 : zeroCells Try.prog 147 = some [.nilFunc] := by kernel_rfl
theorem ze147 : (Try.prog.info? 147).bind (·.zero) = some (.nilFunc) := by kernel_rfl
theorem one148 : one Try.prog 148 = true := by kernel_rfl
theorem sz148 : (Try.prog.info? 148).map (·.size) = some 1 := by kernel_rfl
theorem zc148 : zeroCells Try.prog 148 = some [.pointer none] := by kernel_rfl
theorem ze148 : (Try.prog.info? 148).bind (·.zero) = some (.pointer none) := by kernel_rfl
theorem one149 : one Try.prog 149 = true := by kernel_rfl
theorem sz149 : (Try.prog.info? 149).map (·.size) = some 1 := by kernel_rfl
theorem zc149 : zeroCells Try.prog 149 = some [.nilFunc] := by kernel_rfl
theorem ze149 : (Try.prog.info? 149).bind (·.zero) = some (.nilFunc) := by kernel_rfl
theorem one150 : one Try.prog 150 = true := by kernel_rfl
theorem sz150 : (Try.prog.info? 150).map (·.size) = some 1 := by kernel_rfl
theorem zc150 : zeroCells Try.prog 150 = some [.pointer none] := by kernel_rfl
theorem ze150 : (Try.prog.info? 150).bind (·.zero) = some (.pointer none) := by kernel_rfl
theorem one151 : one Try.prog 151 = true := by kernel_rfl
theorem sz151 : (Try.prog.info? 151).map (·.size) = some 1 := by kernel_rfl
theorem zc151 : zeroCells Try.prog 151 = some [.nilFunc] := by kernel_rfl
theorem ze151 : (Try.prog.info? 151).bind (·.zero) = some (.nilFunc) := by kernel_rfl
theorem one152 : one Try.prog 152 = true := by kernel_rfl
theorem sz152 : (Try.prog.info? 152).map (·.size) = some 1 := by kernel_rfl
theorem zc152 : zeroCells Try.prog 152 = some [.nilFunc] := by kernel_rfl
theorem ze152 : (Try.prog.info? 152).bind (·.zero) = some (.nilFunc) := by kernel_rfl
theorem sz153 : (Try.prog.info? 153).map (·.size) = some 4 := by kernel_rfl
theorem zc153 : zeroCells Try.prog 153 = some [.pointer none, .pointer none, .pointer none, .string ByteArray.empty] := by kernel_rfl
theorem fo153_0 : fieldOff Try.prog 153 0 = some 0 := by kernel_rfl
theorem fo153_1 : fieldOff Try.prog 153 1 = some 1 := by kernel_rfl
theorem fo153_2 : fieldOff Try.prog 153 2 = some 2 := by kernel_rfl
theorem fo153_3 : fieldOff Try.prog 153 3 = some 3 := by kernel_rfl
theorem sz154 : (Try.prog.info? 154).map (·.size) = some 4 := by kernel_rfl
theorem zc154 : zeroCells Try.prog 154 = some [.pointer none, .pointer none, .pointer none, .string ByteArray.empty] := by kernel_rfl
theorem fo154_0 : fieldOff Try.prog 154 0 = some 0 := by kernel_rfl
theorem fo154_1 : fieldOff Try.prog 154 1 = some 1 := by kernel_rfl
theorem fo154_2 : fieldOff Try.prog 154 2 = some 2 := by kernel_rfl
theorem fo154_3 : fieldOff Try.prog 154 3 = some 3 := by kernel_rfl
theorem sz155 : (Try.prog.info? 155).map (·.size) = some 0 := by kernel_rfl
theorem zc155 : zeroCells Try.prog 155 = some [] := by kernel_rfl
theorem sz156 : (Try.prog.info? 156).map (·.size) = some 0 := by kernel_rfl
theorem zc156 : zeroCells Try.prog 156 = some [] := by kernel_rfl
theorem sz157 : (Try.prog.info? 157).map (·.size) = some 0 := by kernel_rfl
theorem zc157 : zeroCells Try.prog 157 = some [] := by kernel_rfl
theorem one158 : one Try.prog 158 = true := by kernel_rfl
theorem sz158 : (Try.prog.info? 158).map (·.size) = some 1 := by kernel_rfl
theorem zc158 : zeroCells Try.prog 158 = some [.int .u8 0] := by kernel_rfl
theorem ze158 : (Try.prog.info? 158).bind (·.zero) = some (.int .u8 0) := by kernel_rfl
theorem one159 : one Try.prog 159 = true := by kernel_rfl
theorem sz159 : (Try.prog.info? 159).map (·.size) = some 1 := by kernel_rfl
theorem zc159 : zeroCells Try.prog 159 = some [.int .u8 0] := by kernel_rfl
theorem ze159 : (Try.prog.info? 159).bind (·.zero) = some (.int .u8 0) := by kernel_rfl
theorem one160 : one Try.prog 160 = true := by kernel_rfl
theorem sz160 : (Try.prog.info? 160).map (·.size) = some 1 := by kernel_rfl
theorem zc160 : zeroCells Try.prog 160 = some [.nilFunc] := by kernel_rfl
theorem ze160 : (Try.prog.info? 160).bind (·.zero) = some (.nilFunc) := by kernel_rfl
theorem one161 : one Try.prog 161 = true := by kernel_rfl
theorem sz161 : (Try.prog.info? 161).map (·.size) = some 1 := by kernel_rfl
theorem zc161 : zeroCells Try.prog 161 = some [.pointer none] := by kernel_rfl
theorem ze161 : (Try.prog.info? 161).bind (·.zero) = some (.pointer none) := by kernel_rfl
theorem one162 : one Try.prog 162 = true := by kernel_rfl
theorem sz162 : (Try.prog.info? 162).map (·.size) = some 1 := by kernel_rfl
theorem zc162 : zeroCells Try.prog 162 = some [.int .i32 0] := by kernel_rfl
theorem ze162 : (Try.prog.info? 162).bind (·.zero) = some (.int .i32 0) := by kernel_rfl
theorem one163 : one Try.prog 163 = true := by kernel_rfl
theorem sz163 : (Try.prog.info? 163).map (·.size) = some 1 := by kernel_rfl
theorem zc163 : zeroCells Try.prog 163 = some [.int .i32 0] := by kernel_rfl
theorem ze163 : (Try.prog.info? 163).bind (·.zero) = some (.int .i32 0) := by kernel_rfl
theorem sz164 : (Try.prog.info? 164).map (·.size) = some 11 := by kernel_rfl
theorem zc164 : zeroCells Try.prog 164 = some [.int .u64 0, .int .u64 0, .int .u32 0, .int .u8 0, .int .u8 0, .int .u8 0, .int .u8 0, .nilFunc, .pointer none, .int .i32 0, .int .i32 0] := by kernel_rfl
theorem fo164_0 : fieldOff Try.prog 164 0 = some 0 := by kernel_rfl
theorem fo164_1 : fieldOff Try.prog 164 1 = some 1 := by kernel_rfl
theorem fo164_2 : fieldOff Try.prog 164 2 = some 2 := by kernel_rfl
theorem fo164_3 : fieldOff Try.prog 164 3 = some 3 := by kernel_rfl
theorem fo164_4 : fieldOff Try.prog 164 4 = some 4 := by kernel_rfl
theorem fo164_5 : fieldOff Try.prog 164 5 = some 5 := by kernel_rfl
theorem fo164_6 : fieldOff Try.prog 164 6 = some 6 := by kernel_rfl
theorem fo164_7 : fieldOff Try.prog 164 7 = some 7 := by kernel_rfl
theorem fo164_8 : fieldOff Try.prog 164 8 = some 8 := by kernel_rfl
theorem fo164_9 : fieldOff Try.prog 164 9 = some 9 := by kernel_rfl
theorem fo164_10 : fieldOff Try.prog 164 10 = some 10 := by kernel_rfl
theorem sz165 : (Try.prog.info? 165).map (·.size) = some 11 := by kernel_rfl
theorem zc165 : zeroCells Try.prog 165 = some [.int .u64 0, .int .u64 0, .int .u32 0, .int .u8 0, .int .u8 0, .int .u8 0, .int .u8 0, .nilFunc, .pointer none, .int .i32 0, .int .i32 0] := by kernel_rfl
theorem fo165_0 : fieldOff Try.prog 165 0 = some 0 := by kernel_rfl
theorem fo165_1 : fieldOff Try.prog 165 1 = some 1 := by kernel_rfl
theorem fo165_2 : fieldOff Try.prog 165 2 = some 2 := by kernel_rfl
theorem fo165_3 : fieldOff Try.prog 165 3 = some 3 := by kernel_rfl
theorem fo165_4 : fieldOff Try.prog 165 4 = some 4 := by kernel_rfl
theorem fo165_5 : fieldOff Try.prog 165 5 = some 5 := by kernel_rfl
theorem fo165_6 : fieldOff Try.prog 165 6 = some 6 := by kernel_rfl
theorem fo165_7 : fieldOff Try.prog 165 7 = some 7 := by kernel_rfl
theorem fo165_8 : fieldOff Try.prog 165 8 = some 8 := by kernel_rfl
theorem fo165_9 : fieldOff Try.prog 165 9 = some 9 := by kernel_rfl
theorem fo165_10 : fieldOff Try.prog 165 10 = some 10 := by kernel_rfl
theorem one166 : one Try.prog 166 = true := by kernel_rfl
theorem sz166 : (Try.prog.info? 166).map (·.size) = some 1 := by kernel_rfl
theorem zc166 : zeroCells Try.prog 166 = some [.nilFunc] := by kernel_rfl
theorem ze166 : (Try.prog.info? 166).bind (·.zero) = some (.nilFunc) := by kernel_rfl
theorem one167 : one Try.prog 167 = true := by kernel_rfl
theorem sz167 : (Try.prog.info? 167).map (·.size) = some 1 := by kernel_rfl
theorem en2 : enters Try.prog 2 = true := by kernel_rfl
theorem en3 : enters Try.prog 3 = true := by kernel_rfl
theorem en4 : enters Try.prog 4 = true := by kernel_rfl
theorem en5 : enters Try.prog 5 = true := by kernel_rfl
theorem en6 : enters Try.prog 6 = true := by kernel_rfl
theorem en7 : enters Try.prog 7 = true := by kernel_rfl
theorem en8 : enters Try.prog 8 = true := by kernel_rfl
theorem en9 : enters Try.prog 9 = true := by kernel_rfl
theorem en10 : enters Try.prog 10 = true := by kernel_rfl
theorem en11 : enters Try.prog 11 = true := by kernel_rfl
theorem en12 : enters Try.prog 12 = true := by kernel_rfl
theorem en13 : enters Try.prog 13 = true := by kernel_rfl
theorem en14 : enters Try.prog 14 = true := by kernel_rfl
theorem en15 : enters Try.prog 15 = true := by kernel_rfl
theorem en16 : enters Try.prog 16 = true := by kernel_rfl
theorem en17 : enters Try.prog 17 = true := by kernel_rfl
theorem en18 : enters Try.prog 18 = true := by kernel_rfl
theorem en19 : enters Try.prog 19 = true := by kernel_rfl
theorem en20 : enters Try.prog 20 = true := by kernel_rfl
theorem en21 : enters Try.prog 21 = true := by kernel_rfl
theorem en22 : enters Try.prog 22 = true := by kernel_rfl
theorem en23 : enters Try.prog 23 = true := by kernel_rfl
theorem en24 : enters Try.prog 24 = true := by kernel_rfl
theorem en25 : enters Try.prog 25 = true := by kernel_rfl
theorem en26 : enters Try.prog 26 = true := by kernel_rfl
theorem en27 : enters Try.prog 27 = true := by kernel_rfl
theorem en28 : enters Try.prog 28 = true := by kernel_rfl
theorem en29 : enters Try.prog 29 = true := by kernel_rfl
theorem en30 : enters Try.prog 30 = true := by kernel_rfl
theorem en31 : enters Try.prog 31 = true := by kernel_rfl
theorem en32 : enters Try.prog 32 = true := by kernel_rfl
theorem en33 : enters Try.prog 33 = true := by kernel_rfl
theorem en34 : enters Try.prog 34 = true := by kernel_rfl
theorem en35 : enters Try.prog 35 = true := by kernel_rfl
theorem en36 : enters Try.prog 36 = true := by kernel_rfl
theorem en37 : enters Try.prog 37 = true := by kernel_rfl
theorem en38 : enters Try.prog 38 = true := by kernel_rfl
theorem en39 : enters Try.prog 39 = true := by kernel_rfl
theorem en40 : enters Try.prog 40 = true := by kernel_rfl
theorem en41 : enters Try.prog 41 = true := by kernel_rfl
theorem en42 : enters Try.prog 42 = true := by kernel_rfl
theorem en43 : enters Try.prog 43 = true := by kernel_rfl
theorem en44 : enters Try.prog 44 = true := by kernel_rfl
theorem en45 : enters Try.prog 45 = true := by kernel_rfl
theorem en46 : enters Try.prog 46 = true := by kernel_rfl
theorem en47 : enters Try.prog 47 = true := by kernel_rfl
theorem en48 : enters Try.prog 48 = true := by kernel_rfl
theorem en49 : enters Try.prog 49 = true := by kernel_rfl
theorem en50 : enters Try.prog 50 = true := by kernel_rfl
theorem en51 : enters Try.prog 51 = true := by kernel_rfl
theorem en52 : enters Try.prog 52 = true := by kernel_rfl
theorem en53 : enters Try.prog 53 = true := by kernel_rfl
theorem en54 : enters Try.prog 54 = true := by kernel_rfl
theorem en55 : enters Try.prog 55 = true := by kernel_rfl
theorem en56 : enters Try.prog 56 = true := by kernel_rfl
theorem en57 : enters Try.prog 57 = true := by kernel_rfl
theorem en58 : enters Try.prog 58 = true := by kernel_rfl
theorem en59 : enters Try.prog 59 = true := by kernel_rfl
theorem en60 : enters Try.prog 60 = true := by kernel_rfl
theorem en61 : enters Try.prog 61 = true := by kernel_rfl
theorem en62 : enters Try.prog 62 = true := by kernel_rfl
theorem en63 : enters Try.prog 63 = true := by kernel_rfl
theorem en64 : enters Try.prog 64 = true := by kernel_rfl
theorem en65 : enters Try.prog 65 = true := by kernel_rfl
theorem en66 : enters Try.prog 66 = true := by kernel_rfl
theorem en67 : enters Try.prog 67 = true := by kernel_rfl
theorem en68 : enters Try.prog 68 = true := by kernel_rfl
theorem en69 : enters Try.prog 69 = true := by kernel_rfl
theorem en70 : enters Try.prog 70 = true := by kernel_rfl
theorem en71 : enters Try.prog 71 = true := by kernel_rfl
theorem en72 : enters Try.prog 72 = true := by kernel_rfl
theorem en73 : enters Try.prog 73 = true := by kernel_rfl
theorem en74 : enters Try.prog 74 = true := by kernel_rfl
theorem en75 : enters Try.prog 75 = true := by kernel_rfl
theorem en76 : enters Try.prog 76 = true := by kernel_rfl
theorem en77 : enters Try.prog 77 = true := by kernel_rfl
theorem en78 : enters Try.prog 78 = true := by kernel_rfl
theorem en79 : enters Try.prog 79 = true := by kernel_rfl
theorem en80 : enters Try.prog 80 = true := by kernel_rfl
theorem en81 : enters Try.prog 81 = true := by kernel_rfl
theorem en82 : enters Try.prog 82 = true := by kernel_rfl
theorem en83 : enters Try.prog 83 = true := by kernel_rfl
theorem en84 : enters Try.prog 84 = true := by kernel_rfl
theorem en85 : enters Try.prog 85 = true := by kernel_rfl
theorem en86 : enters Try.prog 86 = true := by kernel_rfl
theorem en87 : enters Try.prog 87 = true := by kernel_rfl
theorem en88 : enters Try.prog 88 = true := by kernel_rfl
theorem en89 : enters Try.prog 89 = true := by kernel_rfl
theorem en90 : enters Try.prog 90 = true := by kernel_rfl
theorem en91 : enters Try.prog 91 = true := by kernel_rfl
theorem en92 : enters Try.prog 92 = true := by kernel_rfl
theorem en93 : enters Try.prog 93 = true := by kernel_rfl
theorem en94 : enters Try.prog 94 = true := by kernel_rfl
theorem en95 : enters Try.prog 95 = true := by kernel_rfl
theorem en96 : enters Try.prog 96 = true := by kernel_rfl
theorem en97 : enters Try.prog 97 = true := by kernel_rfl
theorem en98 : enters Try.prog 98 = true := by kernel_rfl
theorem en99 : enters Try.prog 99 = true := by kernel_rfl
theorem en100 : enters Try.prog 100 = true := by kernel_rfl
theorem en101 : enters Try.prog 101 = true := by kernel_rfl
theorem en102 : enters Try.prog 102 = true := by kernel_rfl
theorem en103 : enters Try.prog 103 = true := by kernel_rfl
theorem en104 : enters Try.prog 104 = true := by kernel_rfl
theorem en105 : enters Try.prog 105 = true := by kernel_rfl
theorem en106 : enters Try.prog 106 = true := by kernel_rfl
theorem en123 : enters Try.prog 123 = true := by kernel_rfl
theorem en124 : enters Try.prog 124 = true := by kernel_rfl
theorem en125 : enters Try.prog 125 = true := by kernel_rfl
theorem en126 : enters Try.prog 126 = true := by kernel_rfl
theorem en127 : enters Try.prog 127 = true := by kernel_rfl
theorem en128 : enters Try.prog 128 = true := by kernel_rfl
theorem en129 : enters Try.prog 129 = true := by kernel_rfl
theorem en130 : enters Try.prog 130 = true := by kernel_rfl
theorem en131 : enters Try.prog 131 = true := by kernel_rfl
end Go.Proofs.Ytmdjkgkgpkaliaa

/- Orders of units: plain. -/
namespace Go.Ord

abbrev Dist := List (List Int)
def at2 (d : Dist) (i j : Nat) : Int := (d.getD i []).getD j (-1)

structure WfD (d : Dist) : Prop where
  few : d.length ≤ 12
  row : ∀ (i : Nat) (r : List Int), d[i]? = some r → r.length = d.length
  diag : ∀ i, i < d.length → at2 d i i = 0
  rng : ∀ i j, i < d.length → j < d.length → -1 ≤ at2 d i j ∧ at2 d i j ≤ 1000000
  tri : ∀ i k j, i < d.length → k < d.length → j < d.length → at2 d i k ≠ -1 → at2 d k j ≠ -1 → at2 d i j ≠ -1 ∧ at2 d i j ≤ at2 d i k + at2 d k j

/-- What happens without anything between. -/
structure U where
  low : Int
  high : Int
  span : Int
  entry : Nat
  exit : Nat
structure UOK (d : Dist) (u : U) : Prop where
  e1 : u.entry < d.length
  e2 : u.exit < d.length
  way : at2 d u.entry u.exit ≠ -1
  long : at2 d u.entry u.exit ≤ u.span

abbrev St := Option Nat × Int
def far (d : Dist) : Option Nat → U → Int
  | none, _ => 0
  | some x, u => at2 d x u.entry
def CanB (d : Dist) (s : St) (u : U) : Prop := far d s.1 u ≠ -1 ∧ s.2 + far d s.1 u ≤ u.high
def beg (d : Dist) (s : St) (u : U) : Int := max u.low (s.2 + far d s.1 u)
def nxt (d : Dist) (s : St) (u : U) : St := (some u.exit, beg d s u + u.span)
def Run (d : Dist) : St → List U → Prop
  | _, [] => True
  | s, u :: us => CanB d s u ∧ Run d (nxt d s u) us
def fin (d : Dist) : St → List U → St
  | s, [] => s
  | s, u :: us => fin d (nxt d s u) us
def SOK (d : Dist) (s : St) : Prop := ∀ x, s.1 = some x → x < d.length

variable {d : Dist}

theorem Run.append {s : St} {a b : List U} : Run d s (a ++ b) ↔ Run d s a ∧ Run d (fin d s a) b := by
  induction a generalizing s with
  | nil => simp [Run, fin]
  | cons u a ih => simp only [List.cons_append, Run, fin, ih, and_assoc]
theorem fin_append {s : St} {a b : List U} : fin d s (a ++ b) = fin d (fin d s a) b := by
  induction a generalizing s with
  | nil => rfl
  | cons u a ih => simp only [List.cons_append, fin, ih]

/-- s is no worse than s'. -/
def Better (d : Dist) (s s' : St) : Prop := ∀ u, UOK d u → far d s'.1 u ≠ -1 → far d s.1 u ≠ -1 ∧ s.2 + far d s.1 u ≤ s'.2 + far d s'.1 u

theorem Better.can {s s' : St} (h : Better d s s') {u : U} (hu : UOK d u) (hc : CanB d s' u) : CanB d s u := by
  obtain ⟨h1, h2⟩ := h u hu hc.1
  exact ⟨h1, Int.le_trans h2 hc.2⟩
theorem better_time {o : Option Nat} {t t' : Int} (h : t ≤ t') : Better d (o, t) (o, t') := fun u _ hf => ⟨hf, by show t + far d o u ≤ t' + far d o u; omega⟩
theorem Better.nxt {s s' : St} (h : Better d s s') {u : U} (hu : UOK d u) (hc : CanB d s' u) : Better d (Ord.nxt d s u) (Ord.nxt d s' u) := by
  refine better_time ?_
  obtain ⟨_, h2⟩ := h u hu hc.1
  unfold beg
  omega
theorem Better.run {s s' : St} (h : Better d s s') : ∀ {us : List U}, (∀ u ∈ us, UOK d u) → Run d s' us → Run d s us
  | [], _, _ => trivial
  | u :: us, hu, hr => ⟨h.can (hu u (by simp)) hr.1, (h.nxt (hu u (by simp)) hr.1).run (fun x hx => hu x (by simp [hx])) hr.2⟩

theorem at2_nonneg (hd : WfD d) {i j : Nat} (hi : i < d.length) (hj : j < d.length) (h : at2 d i j ≠ -1) : 0 ≤ at2 d i j := by
  have := (hd.rng i j hi hj).1
  omega
theorem span_nonneg (hd : WfD d) {u : U} (hu : UOK d u) : 0 ≤ u.span := by
  have := at2_nonneg hd hu.e1 hu.e2 hu.way
  have := hu.long
  omega
/-- Going over a is no better. -/
theorem better_via (hd : WfD d) {s : St} (hs : SOK d s) {a : U} (ha : UOK d a) (hc : CanB d s a) : Better d s (nxt d s a) := by
  intro u hu hf
  have hf' : at2 d a.exit u.entry ≠ -1 := hf
  have hsp := span_nonneg hd ha
  have h0 := at2_nonneg hd ha.e2 hu.e1 hf'
  have hlow : s.2 + far d s.1 a ≤ beg d s a := by unfold beg; omega
  show far d s.1 u ≠ -1 ∧ s.2 + far d s.1 u ≤ (beg d s a + a.span) + at2 d a.exit u.entry
  obtain ⟨o, t⟩ := s
  cases o with
  | none =>
    simp only [far] at *
    exact ⟨by decide, by omega⟩
  | some x =>
    have hx : x < d.length := hs x rfl
    have h1 : at2 d x a.entry ≠ -1 := hc.1
    obtain ⟨q1, q2⟩ := hd.tri x a.entry a.exit hx ha.e1 ha.e2 h1 ha.way
    obtain ⟨r1, r2⟩ := hd.tri x a.exit u.entry hx ha.e2 hu.e1 q1 hf'
    have := ha.long
    simp only [far] at *
    exact ⟨r1, by omega⟩
theorem sok_nxt {s : St} {a : U} (ha : UOK d a) : SOK d (nxt d s a) := fun x hx => by
  simp only [nxt, Option.some.injEq] at hx
  rw [← hx]; exact ha.e2
theorem sok_fin {s : St} (hs : SOK d s) : ∀ {us : List U}, (∀ u ∈ us, UOK d u) → SOK d (fin d s us)
  | [], _ => hs
  | u :: us, hu => sok_fin (sok_nxt (hu u (by simp))) (fun x hx => hu x (by simp [hx]))
/-- Whatever comes later could come now. -/
theorem run_can (hd : WfD d) : ∀ {pre : List U} {s : St} {u : U} {post : List U}, SOK d s → (∀ x ∈ pre ++ u :: post, UOK d x) → Run d s (pre ++ u :: post) → CanB d s u
  | [], s, u, post, _, _, hr => hr.1
  | a :: pre, s, u, post, hs, hu, hr => by
    have ha := hu a (by simp)
    have h1 := run_can hd (pre := pre) (sok_nxt ha) (fun x hx => hu x (by simp at hx ⊢; exact .inr hx)) hr.2
    exact (better_via hd hs ha hr.1).can (hu u (by simp)) h1
/-- .. and can be left out. -/
theorem run_drop (hd : WfD d) : ∀ {pre : List U} {s : St} {u : U} {post : List U}, SOK d s → (∀ x ∈ pre ++ u :: post, UOK d x) → Run d s (pre ++ u :: post) → Run d s (pre ++ post)
  | [], s, u, post, hs, hu, hr => (better_via hd hs (hu u (by simp)) hr.1).run (fun x hx => hu x (by simp at hx ⊢; exact .inr hx)) hr.2
  | a :: pre, s, u, post, hs, hu, hr => ⟨hr.1, run_drop hd (sok_nxt (hu a (by simp))) (fun x hx => hu x (by simp at hx ⊢; exact .inr hx)) hr.2⟩
/-- u can be before v, at the earliest. -/
def Fits (d : Dist) (u v : U) : Prop := CanB d (some u.exit, u.low + u.span) v
theorem run_fits (hd : WfD d) {s : St} {pre mid post : List U} {u v : U} (hs : SOK d s) (hu : ∀ x ∈ pre ++ u :: (mid ++ v :: post), UOK d x) (hr : Run d s (pre ++ u :: (mid ++ v :: post))) : Fits d u v := by
  rw [Run.append] at hr
  have hs' := sok_fin hs (us := pre) (fun x hx => hu x (by simp [hx]))
  have h1 := run_can hd (pre := mid) (sok_nxt (s := fin d s pre) (hu u (by simp))) (fun x hx => hu x (by simp at hx ⊢; exact .inr (.inr hx))) hr.2.2
  refine (better_time (o := some u.exit) (t := u.low + u.span) (t' := beg d (fin d s pre) u + u.span) ?_).can (hu v (by simp)) h1
  unfold beg
  omega
/-- A unit that happens at once where one is, and takes no time. -/
def Free (d : Dist) (s : St) (u : U) : Prop := s.1 = some u.entry ∧ u.exit = u.entry ∧ u.span = 0 ∧ CanB d s u ∧ beg d s u = s.2
theorem free_nxt {s : St} {u : U} (h : Free d s u) : nxt d s u = s := by
  obtain ⟨h1, h2, h3, _, h5⟩ := h
  unfold nxt
  rw [h2, h3, h5, ← h1]
  obtain ⟨o, t⟩ := s
  simp
theorem free_first (hd : WfD d) {pre post : List U} {s : St} {u : U} (hs : SOK d s) (hu : ∀ x ∈ pre ++ u :: post, UOK d x) (hf : Free d s u) (hr : Run d s (pre ++ u :: post)) : Run d s (u :: (pre ++ post)) :=
  ⟨hf.2.2.2.1, by rw [free_nxt hf]; exact run_drop hd hs hu hr⟩

/-- The units can happen in some order. -/
def Feas (d : Dist) (s : St) (us : List U) : Prop := ∃ l, l.Perm us ∧ Run d s l
theorem Feas.can (hd : WfD d) {s : St} {us : List U} (hs : SOK d s) (hu : ∀ x ∈ us, UOK d x) (h : Feas d s us) {u : U} (hm : u ∈ us) : CanB d s u := by
  obtain ⟨l, hp, hr⟩ := h
  obtain ⟨pre, post, rfl⟩ := List.append_of_mem (hp.mem_iff.2 hm)
  exact run_can hd hs (fun x hx => hu x (hp.mem_iff.1 hx)) hr
theorem Feas.better {s s' : St} {us : List U} (hb : Better d s s') (hu : ∀ x ∈ us, UOK d x) (h : Feas d s' us) : Feas d s us := by
  obtain ⟨l, hp, hr⟩ := h
  exact ⟨l, hp, hb.run (fun x hx => hu x (hp.mem_iff.1 hx)) hr⟩

/-! ### Sets of units as masks -/

/-- The units that are not in a set. -/
def left (us : List U) (m : Nat) : List U := (List.range us.length).filterMap fun i => if m.testBit i then none else us[i]?
theorem left_zero (us : List U) : left us 0 = us := by
  unfold left
  have : ∀ k, k ≤ us.length → (List.range k).filterMap (fun i => if (0 : Nat).testBit i then none else us[i]?) = us.take k := by
    intro k
    induction k with
    | zero => intro _; rfl
    | succ k ih =>
      intro hk
      rw [List.range_succ, List.filterMap_append, ih (by omega), List.take_add_one]
      simp [List.getElem?_eq_getElem (show k < us.length by omega)]
  rw [this us.length (Nat.le_refl _), List.take_length]
theorem mem_left {us : List U} {m : Nat} {u : U} : u ∈ left us m ↔ ∃ i, m.testBit i = false ∧ us[i]? = some u := by
  unfold left
  rw [List.mem_filterMap]
  constructor
  · rintro ⟨i, _, h⟩
    split at h
    · cases h
    · rename_i hm; exact ⟨i, by simpa using hm, h⟩
  · rintro ⟨i, hm, h⟩
    exact ⟨i, by simpa using (List.getElem?_eq_some_iff.1 h).1, by simp [hm, h]⟩
theorem left_cons {us : List U} {m i : Nat} {u : U} (hm : m.testBit i = false) (hu : us[i]? = some u) : (left us m).Perm (u :: left us (m ||| 1 <<< i)) := by
  have hi := (List.getElem?_eq_some_iff.1 hu).1
  have key : ∀ k, k ≤ us.length → ((List.range k).filterMap fun j => if m.testBit j then none else us[j]?).Perm ((if i < k then [u] else []) ++ (List.range k).filterMap fun j => if (m ||| 1 <<< i).testBit j then none else us[j]?) := by
    intro k
    induction k with
    | zero => intro _; simp
    | succ k ih =>
      intro hk
      rw [List.range_succ, List.filterMap_append, List.filterMap_append]
      have ih := ih (by omega)
      have hbit : (m ||| 1 <<< i).testBit k = (m.testBit k || decide (i = k)) := by
        rw [Nat.testBit_or, Nat.one_shiftLeft, Nat.testBit_two_pow]
      by_cases hik : i = k
      · subst hik
        rw [if_neg (by omega)] at ih
        rw [if_pos (by omega)]
        simp only [List.filterMap_cons, List.filterMap_nil, hbit, hm, hu]
        simp
        refine (ih.append_right [u]).trans ?_
        simp
      · have e1 : (if i < k + 1 then [u] else []) = (if i < k then [u] else [] : List U) := by
          by_cases h : i < k
          · rw [if_pos h, if_pos (by omega)]
          · rw [if_neg h, if_neg (by omega)]
        have e2 : (m ||| 1 <<< i).testBit k = m.testBit k := by rw [hbit]; simp [hik]
        rw [e1, ← List.append_assoc]
        refine (ih.append_right _).trans ?_
        simp only [List.filterMap_cons, List.filterMap_nil, e2]
        exact List.Perm.refl _
  have := key us.length (Nat.le_refl _)
  rw [if_pos hi] at this
  exact this

/-- Which have to be before which. -/
def FirstOK (d : Dist) (us : List U) (F : Nat → Nat) : Prop := ∀ (i j : Nat) (u v : U), us[i]? = some u → us[j]? = some v → ((F i).testBit j = true ↔ i ≠ j ∧ ¬ Fits d u v)

theorem feas_all (hd : WfD d) {us : List U} (hu : ∀ u ∈ us, UOK d u) {s : St} (hs : SOK d s) {m : Nat} (h : Feas d s (left us m)) {i : Nat} {u : U} (hm : m.testBit i = false) (hi : us[i]? = some u) : CanB d s u :=
  h.can hd hs (fun x hx => by obtain ⟨j, _, hj⟩ := mem_left.1 hx; exact hu x (List.mem_of_getElem? hj)) (mem_left.2 ⟨i, hm, hi⟩)
/-- A free unit may come first. -/
theorem feas_free (hd : WfD d) {us : List U} (hu : ∀ u ∈ us, UOK d u) {s : St} (hs : SOK d s) {m : Nat} (h : Feas d s (left us m)) {i : Nat} {u : U} (hm : m.testBit i = false) (hi : us[i]? = some u) (hf : Free d s u) : Feas d (nxt d s u) (left us (m ||| 1 <<< i)) := by
  obtain ⟨l, hp, hr⟩ := h
  have hul : u ∈ l := hp.mem_iff.2 (mem_left.2 ⟨i, hm, hi⟩)
  obtain ⟨pre, post, rfl⟩ := List.append_of_mem hul
  have h1 := free_first hd hs (fun x hx => by obtain ⟨j, _, hj⟩ := mem_left.1 (hp.mem_iff.1 hx); exact hu x (List.mem_of_getElem? hj)) hf hr
  refine ⟨pre ++ post, ?_, h1.2⟩
  have := (List.perm_middle.symm.trans hp).trans (left_cons hm hi)
  exact List.Perm.cons_inv this
/-- One of those before which nothing has to be comes first. -/
theorem feas_head (hd : WfD d) {us : List U} (hu : ∀ u ∈ us, UOK d u) {F : Nat → Nat} (hF : FirstOK d us F) {s : St} (hs : SOK d s) {m : Nat} (h : Feas d s (left us m)) (hne : ∃ i, i < us.length ∧ m.testBit i = false) :
    ∃ i u, us[i]? = some u ∧ m.testBit i = false ∧ (∀ j, j < us.length → (F i).testBit j = true → m.testBit j = true) ∧ Feas d (nxt d s u) (left us (m ||| 1 <<< i)) := by
  obtain ⟨l, hp, hr⟩ := h
  have hall : ∀ x ∈ l, UOK d x := fun x hx => by obtain ⟨j, _, hj⟩ := mem_left.1 (hp.mem_iff.1 hx); exact hu x (List.mem_of_getElem? hj)
  cases l with
  | nil =>
    obtain ⟨i, hi, hm⟩ := hne
    have : us[i] ∈ left us m := mem_left.2 ⟨i, hm, List.getElem?_eq_getElem hi⟩
    have := hp.mem_iff.2 this
    cases this
  | cons u l =>
    obtain ⟨i, hm, hi⟩ := mem_left.1 (hp.mem_iff.1 (List.mem_cons_self ..))
    have hpl : l.Perm (left us (m ||| 1 <<< i)) := List.Perm.cons_inv (hp.trans (left_cons hm hi))
    refine ⟨i, u, hi, hm, fun j hj hb => ?_, l, hpl, hr.2⟩
    cases hmj : m.testBit j with
    | true => rfl
    | false =>
      exfalso
      have hv : us[j]? = some us[j] := List.getElem?_eq_getElem hj
      obtain ⟨hij, hnf⟩ := (hF i j u us[j] hi hv).1 hb
      have hvl : us[j] ∈ l := hpl.mem_iff.2 (mem_left.2 ⟨j, by rw [Nat.testBit_or, Nat.one_shiftLeft, Nat.testBit_two_pow, hmj]; simp [hij], hv⟩)
      obtain ⟨pre, post, rfl⟩ := List.append_of_mem hvl
      exact hnf (run_fits hd (pre := []) (mid := pre) (post := post) hs (by simpa using hall) (by simpa using hr))
/-- Two units that fit in neither order. -/
theorem feas_pair (hd : WfD d) {us : List U} (hu : ∀ u ∈ us, UOK d u) {s : St} (hs : SOK d s) (h : Feas d s us) {i j : Nat} {u v : U} (hi : us[i]? = some u) (hj : us[j]? = some v) (hij : i ≠ j) : Fits d u v ∨ Fits d v u := by
  obtain ⟨l, hp, hr⟩ := h
  have hall : ∀ x ∈ l, UOK d x := fun x hx => hu x (hp.mem_iff.1 hx)
  have h2 : ∃ pre mid post, l = pre ++ u :: (mid ++ v :: post) ∨ l = pre ++ v :: (mid ++ u :: post) := by
    have e1 := left_cons (us := us) (m := 0) (i := i) (by simp) hi
    rw [left_zero] at e1
    have e2 := left_cons (us := us) (m := 0 ||| 1 <<< i) (i := j) (by rw [Nat.testBit_or, Nat.one_shiftLeft, Nat.testBit_two_pow]; simp [hij]) hj
    have hl := hp.trans (e1.trans (e2.cons u))
    have hul : u ∈ l := hl.mem_iff.2 (by simp)
    obtain ⟨pre, post, rfl⟩ := List.append_of_mem hul
    have h3 : (pre ++ post).Perm (v :: left us (0 ||| 1 <<< i ||| 1 <<< j)) := List.Perm.cons_inv (List.perm_middle.symm.trans hl)
    have hv : v ∈ pre ++ post := h3.mem_iff.2 (by simp)
    rcases List.mem_append.1 hv with h | h
    · obtain ⟨a, b, rfl⟩ := List.append_of_mem h
      exact ⟨a, b, post, .inr (by simp)⟩
    · obtain ⟨a, b, rfl⟩ := List.append_of_mem h
      exact ⟨pre, a, b, .inl (by simp)⟩
  obtain ⟨pre, mid, post, h | h⟩ := h2
  · subst h; exact .inl (run_fits hd hs hall hr)
  · subst h; exact .inr (run_fits hd hs hall hr)
end Go.Ord

/- Times of events and orders of units: plain. -/
namespace Go.Ord

variable {d : Dist}

/-- A unit that begins at b. -/
abbrev UB := U × Int
/-- a is over before c begins -/
def Bef (d : Dist) (a c : UB) : Prop := at2 d a.1.exit c.1.entry ≠ -1 ∧ a.2 + a.1.span + at2 d a.1.exit c.1.entry ≤ c.2
theorem Bef.trans (hd : WfD d) {a b c : UB} (ha : UOK d a.1) (hb : UOK d b.1) (hc : UOK d c.1) (h1 : Bef d a b) (h2 : Bef d b c) : Bef d a c := by
  obtain ⟨p1, p2⟩ := hd.tri _ _ _ ha.e2 hb.e1 hb.e2 h1.1 hb.way
  obtain ⟨q1, q2⟩ := hd.tri _ _ _ ha.e2 hb.e2 hc.e1 p1 h2.1
  refine ⟨q1, ?_⟩
  have := h1.2
  have := h2.2
  have := hb.long
  omega

/-- From times to an order. -/
theorem run_of_times : ∀ {l : List UB} {s : St}, (∀ x ∈ l, x.1.low ≤ x.2 ∧ x.2 ≤ x.1.high) → l.Pairwise (Bef d) → (∀ x, l.head? = some x → far d s.1 x.1 ≠ -1 ∧ s.2 + far d s.1 x.1 ≤ x.2) → Run d s (l.map (·.1))
  | [], _, _, _, _ => trivial
  | a :: l, s, hw, hp, hh => by
    obtain ⟨h1, h2⟩ := hh a rfl
    obtain ⟨w1, w2⟩ := hw a (by simp)
    rw [List.pairwise_cons] at hp
    refine ⟨⟨h1, by show s.2 + far d s.1 a.1 ≤ a.1.high; omega⟩, run_of_times (fun x hx => hw x (by simp [hx])) hp.2 fun x hx => ?_⟩
    have hb := hp.1 x (by cases l with | nil => cases hx | cons y l => simp at hx; subst hx; simp)
    refine ⟨hb.1, ?_⟩
    show beg d s a.1 + a.1.span + at2 d a.1.exit x.1.entry ≤ x.2
    have := hb.2
    have : beg d s a.1 ≤ a.2 := by unfold beg; omega
    omega

open Classical in
/-- Units with begins, each two of them one after the other: they can be put in order. -/
theorem feas_of_times (hd : WfD d) {l : List UB} (hu : ∀ x ∈ l, UOK d x.1) (hw : ∀ x ∈ l, 0 ≤ x.2 ∧ x.1.low ≤ x.2 ∧ x.2 ≤ x.1.high) (hp : l.Pairwise fun a b => Bef d a b ∨ Bef d b a) : Feas d (none, 0) (l.map (·.1)) := by
  have key : ∀ l : List UB, (∀ x ∈ l, UOK d x.1) → l.Pairwise (fun a b => Bef d a b ∨ Bef d b a) → ∃ l' : List UB, l'.Perm l ∧ l'.Pairwise (Bef d) := by
    intro l
    induction l with
    | nil => intro _ _; exact ⟨[], List.Perm.refl _, List.Pairwise.nil⟩
    | cons a l ih =>
      intro hu hp
      rw [List.pairwise_cons] at hp
      obtain ⟨l', hp', hs'⟩ := ih (fun x hx => hu x (by simp [hx])) hp.2
      -- a goes in behind all that are before it
      refine ⟨l'.takeWhile (fun x => decide (Bef d x a)) ++ a :: l'.dropWhile (fun x => decide (Bef d x a)), ?_, ?_⟩
      · refine List.perm_middle.trans ?_
        rw [List.takeWhile_append_dropWhile]
        exact hp'.cons a
      · have hsplit : l'.takeWhile (fun x => decide (Bef d x a)) ++ l'.dropWhile (fun x => decide (Bef d x a)) = l' := List.takeWhile_append_dropWhile
        have hall : ∀ x ∈ l', UOK d x.1 := fun x hx => hu x (by simp [hp'.mem_iff.1 hx])
        have hor : ∀ x ∈ l', Bef d x a ∨ Bef d a x := fun x hx => (hp.1 x (hp'.mem_iff.1 hx)).symm
        rw [← hsplit, List.pairwise_append] at hs'
        obtain ⟨q1, q2, q3⟩ := hs'
        have hT : ∀ x ∈ l'.takeWhile (fun x => decide (Bef d x a)), Bef d x a := by
          have : ∀ (m : List UB), ∀ x ∈ m.takeWhile (fun x => decide (Bef d x a)), Bef d x a := by
            intro m
            induction m with
            | nil => simp
            | cons y m ihm =>
              intro x hx
              rw [List.takeWhile_cons] at hx
              split at hx
              · rename_i hy
                rcases List.mem_cons.1 hx with rfl | hx
                · exact of_decide_eq_true hy
                · exact ihm x hx
              · cases hx
          exact this l'
        have hD : ∀ x ∈ l'.dropWhile (fun x => decide (Bef d x a)), Bef d a x := by
          cases hDc : l'.dropWhile (fun x => decide (Bef d x a)) with
          | nil => simp
          | cons y m =>
            have hym : ∀ x ∈ y :: m, x ∈ l' := fun x hx => by rw [← hsplit, hDc]; simp at hx ⊢; exact .inr hx
            have hy : ¬ Bef d y a := by
              have := List.head?_dropWhile_not (fun x => decide (Bef d x a)) l'
              rw [hDc] at this
              simpa using this
            have hay : Bef d a y := (hor y (hym y (by simp))).resolve_left hy
            rw [hDc, List.pairwise_cons] at q2
            intro x hx
            rcases List.mem_cons.1 hx with rfl | hx
            · exact hay
            · exact hay.trans hd (hu a (by simp)) (hall y (hym y (by simp))) (hall x (hym x (by simp [hx]))) (q2.1 x hx)
        rw [List.pairwise_append]
        refine ⟨q1, List.pairwise_cons.2 ⟨hD, q2⟩, fun x hx y hy => ?_⟩
        rcases List.mem_cons.1 hy with rfl | hy
        · exact hT x hx
        · exact q3 x hx y hy
  obtain ⟨l', hp', hs'⟩ := key l hu hp
  refine ⟨l'.map (·.1), hp'.map _, run_of_times (fun x hx => (hw x (hp'.mem_iff.1 hx)).2) hs' fun x hx => ?_⟩
  have hm : x ∈ l := hp'.mem_iff.1 (by cases l' with | nil => cases hx | cons y m => simp at hx; subst hx; simp)
  refine ⟨by simp [far], ?_⟩
  have := (hw x hm).1
  simp [far]
  omega

/-- From an order to times. -/
theorem times_of_run (hd : WfD d) : ∀ {us : List U} {s : St}, SOK d s → 0 ≤ s.2 → (∀ u ∈ us, UOK d u) → (∀ u ∈ us, u.low ≤ u.high) → Run d s us →
    ∃ l : List UB, l.map (·.1) = us ∧ (∀ x ∈ l, 0 ≤ x.2 ∧ x.1.low ≤ x.2 ∧ x.2 ≤ x.1.high ∧ far d s.1 x.1 ≠ -1 ∧ s.2 + far d s.1 x.1 ≤ x.2) ∧ l.Pairwise (Bef d)
  | [], s, _, _, _, _, _ => ⟨[], rfl, by simp, List.Pairwise.nil⟩
  | u :: us, s, hs, h0, hu, hw, hr => by
    have hok := hu u (by simp)
    have hsp := span_nonneg hd hok
    have hfar : 0 ≤ far d s.1 u := by
      have h1 := hr.1.1
      obtain ⟨o, t⟩ := s
      cases o with
      | none => simp [far]
      | some x => exact at2_nonneg hd (hs x rfl) hok.e1 h1
    have hbeg : s.2 + far d s.1 u ≤ beg d s u := by unfold beg; omega
    obtain ⟨l, h1, h2, h3⟩ := times_of_run hd (us := us) (s := nxt d s u) (sok_nxt hok) (by show 0 ≤ beg d s u + u.span; omega) (fun x hx => hu x (by simp [hx])) (fun x hx => hw x (by simp [hx])) hr.2
    refine ⟨(u, beg d s u) :: l, by simp [h1], ?_, List.pairwise_cons.2 ⟨fun x hx => ?_, h3⟩⟩
    · intro x hx
      rcases List.mem_cons.1 hx with rfl | hx
      · have h4 := hr.1.2
        have h5 := hw u (by simp)
        refine ⟨by show 0 ≤ beg d s u; omega, by show u.low ≤ beg d s u; unfold beg; omega, by show beg d s u ≤ u.high; unfold beg; omega, hr.1.1, hbeg⟩
      · obtain ⟨a1, a2, a3, a4, a5⟩ := h2 x hx
        have hxu : UOK d x.1 := hu x.1 (by rw [← h1]; simp; exact .inr ⟨x.2, hx⟩)
        obtain ⟨b1, b2⟩ := better_via hd hs hok hr.1 x.1 hxu a4
        exact ⟨a1, a2, a3, b1, by omega⟩
    · obtain ⟨a1, a2, a3, a4, a5⟩ := h2 x hx
      exact ⟨a4, a5⟩
theorem times_of_feas (hd : WfD d) {us : List U} (hu : ∀ u ∈ us, UOK d u) (hw : ∀ u ∈ us, u.low ≤ u.high) (h : Feas d (none, 0) us) :
    ∃ l : List UB, (l.map (·.1)).Perm us ∧ (∀ x ∈ l, 0 ≤ x.2 ∧ x.1.low ≤ x.2 ∧ x.2 ≤ x.1.high) ∧ l.Pairwise (Bef d) := by
  obtain ⟨o, hp, hr⟩ := h
  obtain ⟨l, h1, h2, h3⟩ := times_of_run hd (us := o) (s := (none, 0)) (fun x hx => by cases hx) (Int.le_refl _) (fun u hu' => hu u (hp.mem_iff.1 hu')) (fun u hu' => hw u (hp.mem_iff.1 hu')) hr
  exact ⟨l, by rw [h1]; exact hp, fun x hx => ⟨(h2 x hx).1, (h2 x hx).2.1, (h2 x hx).2.2.1⟩, h3⟩
end Go.Ord

/- Events without legs: possible times; plain. -/
namespace Go.Ord

variable {d : Dist}

structure Ev where
  office : Int
  low : Int
  high : Int
  needs : List Int
def lowC (e : Ev) : Int := min (max e.low 0) 1000001
def highC (e : Ev) : Int := max (min e.high 1000000) (-1)
def uOf (e : Ev) : U := ⟨lowC e, highC e, 0, e.office.toNat, e.office.toNat⟩
structure EOK (d : Dist) (e : Ev) : Prop where
  o1 : 0 ≤ e.office
  o2 : e.office < d.length
theorem uok_of (hd : WfD d) {e : Ev} (h : EOK d e) : UOK d (uOf e) := by
  have : e.office.toNat < d.length := by have := h.o1; have := h.o2; omega
  exact ⟨this, this, by rw [show at2 d (uOf e).entry (uOf e).exit = at2 d e.office.toNat e.office.toNat from rfl, hd.diag _ this]; decide, by rw [show at2 d (uOf e).entry (uOf e).exit = at2 d e.office.toNat e.office.toNat from rfl, hd.diag _ this]; exact Int.le_refl _⟩

/-- an event and its time -/
abbrev ET := Ev × Int
def Aft (d : Dist) (a b : ET) : Prop := at2 d a.1.office.toNat b.1.office.toNat ≠ -1 ∧ at2 d a.1.office.toNat b.1.office.toNat ≤ b.2 - a.2
/-- Possible times, for events without legs. -/
structure HoldsN (d : Dist) (l : List ET) : Prop where
  each : ∀ x ∈ l, 0 ≤ x.2 ∧ x.2 ≤ 1000000 ∧ x.1.low ≤ x.2 ∧ x.2 ≤ x.1.high
  two : l.Pairwise fun a b => Aft d a b ∨ Aft d b a
/-- The events are possible. -/
def Poss (d : Dist) (evs : List Ev) : Prop := ∃ l : List ET, l.map (·.1) = evs ∧ HoldsN d l

theorem pairwise_or {α : Type} {R : α → α → Prop} : ∀ {l l' : List α}, l.Perm l' → l.Pairwise (fun a b => R a b ∨ R b a) → l'.Pairwise (fun a b => R a b ∨ R b a) := fun hp h => hp.pairwise h (fun h => h.symm)

theorem feas_iff (hd : WfD d) {evs : List Ev} (he : ∀ e ∈ evs, EOK d e) {us : List U} (hp : us.Perm (evs.map uOf)) : Poss d evs ↔ (∀ u ∈ us, u.low ≤ u.high) ∧ Feas d (none, 0) us := by
  constructor
  · rintro ⟨l, rfl, h⟩
    have hwin : ∀ x ∈ l, (uOf x.1).low ≤ x.2 ∧ x.2 ≤ (uOf x.1).high := by
      intro x hx
      obtain ⟨h1, h2, h3, h4⟩ := h.each x hx
      show lowC x.1 ≤ x.2 ∧ x.2 ≤ highC x.1
      unfold lowC highC
      omega
    refine ⟨fun u hu => ?_, ?_⟩
    · have := hp.mem_iff.1 hu
      rw [List.map_map, List.mem_map] at this
      obtain ⟨x, hx, rfl⟩ := this
      have := hwin x hx
      show (uOf x.1).low ≤ (uOf x.1).high
      omega
    · have hf := feas_of_times hd (l := l.map fun x => (uOf x.1, x.2)) ?_ ?_ ?_
      · obtain ⟨o, h1, h2⟩ := hf
        refine ⟨o, ?_, h2⟩
        refine h1.trans ?_
        rw [List.map_map]
        refine List.Perm.trans ?_ hp.symm
        rw [List.map_map]
        exact List.Perm.refl _
      · intro x hx
        rw [List.mem_map] at hx
        obtain ⟨y, hy, rfl⟩ := hx
        exact uok_of hd (he _ (List.mem_map.2 ⟨y, hy, rfl⟩))
      · intro x hx
        rw [List.mem_map] at hx
        obtain ⟨y, hy, rfl⟩ := hx
        exact ⟨(h.each y hy).1, hwin y hy⟩
      · rw [List.pairwise_map]
        refine h.two.imp fun {a b} hab => ?_
        rcases hab with q | q
        · exact .inl ⟨q.1, by show a.2 + 0 + at2 d a.1.office.toNat b.1.office.toNat ≤ b.2; have := q.2; omega⟩
        · exact .inr ⟨q.1, by show b.2 + 0 + at2 d b.1.office.toNat a.1.office.toNat ≤ a.2; have := q.2; omega⟩
  · rintro ⟨hw, hf⟩
    have hu : ∀ u ∈ us, UOK d u := fun u hu => by
      have := hp.mem_iff.1 hu
      rw [List.mem_map] at this
      obtain ⟨e, hx, rfl⟩ := this
      exact uok_of hd (he e hx)
    obtain ⟨l, h1, h2, h3⟩ := times_of_feas hd hu hw hf
    -- the events again
    have key : ∀ (evs : List Ev) (l : List UB), (l.map (·.1)).Perm (evs.map uOf) → l.Pairwise (fun a b => Bef d a b ∨ Bef d b a) → ∃ m : List ET, m.map (·.1) = evs ∧ (m.map fun x => (uOf x.1, x.2)).Perm l := by
      intro evs
      induction evs with
      | nil =>
        intro l hl _
        have : l = [] := by
          have := hl.length_eq
          simp at this
          exact this
        subst this
        exact ⟨[], rfl, List.Perm.refl _⟩
      | cons e evs ih =>
        intro l hl hpw
        have hm : uOf e ∈ l.map (·.1) := hl.mem_iff.2 (by simp)
        rw [List.mem_map] at hm
        obtain ⟨x, hx, hxe⟩ := hm
        obtain ⟨pre, post, rfl⟩ := List.append_of_mem hx
        have h4 : ((pre ++ post).map (·.1)).Perm (evs.map uOf) := by
          have q : ((pre ++ x :: post).map (·.1)).Perm (uOf e :: (pre ++ post).map (·.1)) := by
            rw [← hxe]
            exact (List.perm_middle (a := x) (l₁ := pre) (l₂ := post)).map (fun y : UB => y.1)
          have q2 : (uOf e :: (pre ++ post).map (·.1)).Perm (uOf e :: evs.map uOf) := q.symm.trans (by simpa using hl)
          exact List.Perm.cons_inv q2
        have hpw' : (x :: (pre ++ post)).Pairwise (fun a b => Bef d a b ∨ Bef d b a) := pairwise_or List.perm_middle hpw
        obtain ⟨m, hm1, hm2⟩ := ih (pre ++ post) h4 (List.pairwise_cons.1 hpw').2
        refine ⟨(e, x.2) :: m, by simp [hm1], ?_⟩
        refine List.Perm.trans ?_ List.perm_middle.symm
        have : (uOf e, x.2) = x := by rw [← hxe]
        rw [List.map_cons]
        show ((uOf e, x.2) :: _).Perm _
        rw [this]
        exact hm2.cons x
    have hor : l.Pairwise (fun a b => Bef d a b ∨ Bef d b a) := h3.imp fun h => .inl h
    obtain ⟨m, hm1, hm2⟩ := key evs l (h1.trans hp) hor
    refine ⟨m, hm1, fun x hx => ?_, ?_⟩
    · have hxl : (uOf x.1, x.2) ∈ l := hm2.mem_iff.1 (List.mem_map.2 ⟨x, hx, rfl⟩)
      obtain ⟨a1, a2, a3⟩ := h2 _ hxl
      have a2 : lowC x.1 ≤ x.2 := a2
      have a3 : x.2 ≤ highC x.1 := a3
      unfold lowC at a2
      unfold highC at a3
      have a1 : 0 ≤ x.2 := a1
      refine ⟨a1, by omega, by omega, by omega⟩
    · have hpm := pairwise_or hm2.symm hor
      rw [List.pairwise_map] at hpm
      refine hpm.imp fun {a b} hab => ?_
      rcases hab with q | q
      · refine .inl ⟨q.1, ?_⟩
        have : a.2 + 0 + at2 d a.1.office.toNat b.1.office.toNat ≤ b.2 := q.2
        omega
      · refine .inr ⟨q.1, ?_⟩
        have : b.2 + 0 + at2 d b.1.office.toNat a.1.office.toNat ≤ a.2 := q.2
        omega

/-- Fewer events, and in whatever order, stay possible. -/
theorem Poss.perm {evs evs' : List Ev} (h : Poss d evs) (hp : evs.Perm evs') : Poss d evs' := by
  obtain ⟨l, rfl, h1⟩ := h
  have key : ∀ (l : List ET) (evs' : List Ev), (l.map (·.1)).Perm evs' → ∃ l' : List ET, l'.Perm l ∧ l'.map (·.1) = evs' := by
    intro l evs'
    induction evs' generalizing l with
    | nil =>
      intro hl
      have : l = [] := by have := hl.length_eq; simp at this; exact this
      subst this
      exact ⟨[], List.Perm.refl _, rfl⟩
    | cons e evs' ih =>
      intro hl
      have hm : e ∈ l.map (·.1) := hl.mem_iff.2 (by simp)
      rw [List.mem_map] at hm
      obtain ⟨x, hx, rfl⟩ := hm
      obtain ⟨pre, post, rfl⟩ := List.append_of_mem hx
      have h4 : ((pre ++ post).map (·.1)).Perm evs' := by
        have q := (List.perm_middle (a := x) (l₁ := pre) (l₂ := post)).map (fun y : ET => y.1)
        exact List.Perm.cons_inv (a := x.1) (by simpa using q.symm.trans hl)
      obtain ⟨l', h5, h6⟩ := ih (pre ++ post) h4
      exact ⟨x :: l', (h5.cons x).trans List.perm_middle.symm, by simp [h6]⟩
  obtain ⟨l', h2, h3⟩ := key l evs' hp
  exact ⟨l', h3, fun x hx => h1.each x (h2.mem_iff.1 hx), pairwise_or h2.symm h1.two⟩
theorem Poss.sub {evs evs' : List Ev} (h : Poss d evs) (hs : evs'.Sublist evs) : Poss d evs' := by
  obtain ⟨l, rfl, h1⟩ := h
  obtain ⟨l', h2, rfl⟩ := List.sublist_map_iff.1 hs
  exact ⟨l', rfl, fun x hx => h1.each x (h2.subset hx), h1.two.sublist h2⟩
end Go.Ord

/- Data that lies in the world as it is; rows of rows. -/
namespace Go.PF
open Go.RowKit

/-- What is read of memory lies in blocks that are there. -/
structure Ty.Now {α : Type} (T : Ty α) : Prop where
  pos : 0 < T.n
  now : ∀ F w cs x, T.rep F w cs x → T.rep (fun k => k < w.heap.size) w cs x
theorem intT_now : Ty.Now intT := ⟨by decide, fun _ _ _ _ h => h⟩
theorem strT_now : Ty.Now strT := ⟨by decide, fun _ _ _ _ h => h⟩
theorem boolT_now : Ty.Now boolT := ⟨by decide, fun _ _ _ _ h => h⟩
theorem SL.now {α : Type} {T : Ty α} (hT : T.Now) {F : Nat → Prop} {w : World} {v : Value} {l : List α} (h : SL T F w v l) : SL T (fun k => k < w.heap.size) w v l := by
  obtain ⟨A, cap, rfl, h1, h2, h3⟩ := h
  refine ⟨A, cap, rfl, h1, h2, fun i x hx => ?_⟩
  obtain ⟨ad, cs, ha, hF, hc, hr⟩ := h3 i x hx
  refine ⟨ad, cs, ha, ?_, hc, hT.now _ _ _ _ hr⟩
  have hl := T.len _ _ _ _ hr
  have h0 : 0 < cs.length := by rw [hl]; exact hT.pos
  have := block_lt_of_cell (hc 0 cs[0] (List.getElem?_eq_getElem h0))
  rwa [add_block, add_block] at this
theorem sliceT_now {α : Type} {T : Ty α} (hT : T.Now) : Ty.Now (sliceT T) := ⟨by show 0 < 1; decide, fun F w cs x ⟨v, h1, h2⟩ => ⟨v, h1, SL.now hT h2⟩⟩
/-- .. and stays. -/
theorem SL.step {α : Type} {T : Ty α} (hT : T.Now) {F : Nat → Prop} {w w' : World} {v : Value} {l : List α} (h : SL T F w v l) (hb : Below w.heap.size w w') : SL T (fun k => k < w'.heap.size) w' v l := (h.below hb).now hT
theorem SL.form {α : Type} {T : Ty α} {F : Nat → Prop} {w : World} {v : Value} {l : List α} (h : SL T F w v l) : ∃ A cap, v = .slice A l.length cap ∧ l.length ≤ cap := by
  obtain ⟨A, cap, rfl, h1, _⟩ := h
  exact ⟨A, cap, rfl, h1⟩
/-- The cells of an element. -/
theorem SL.at {α : Type} {T : Ty α} {F : Nat → Prop} {w : World} {A : Option Addr} {n cap : Nat} {l : List α} (h : SL T F w (.slice A n cap) l) {i : Nat} {x : α} (hx : l[i]? = some x) :
    ∃ ad cs, A = some ad ∧ F ad.block ∧ T.rep F w cs x ∧ ∀ j u, cs[j]? = some u → w.cell? ((ad.add (i * T.n)).add j) = some u := by
  obtain ⟨A', cap', hv, _, _, h3⟩ := h
  simp only [Value.slice.injEq] at hv
  obtain ⟨rfl, _, rfl⟩ := hv
  obtain ⟨ad, cs, ha, hF, hc, hr⟩ := h3 i x hx
  exact ⟨ad, cs, ha, hF, hr, hc⟩
theorem SL.addr {α : Type} {T : Ty α} {F : Nat → Prop} {w : World} {A : Option Addr} {n cap : Nat} {l : List α} (h : SL T F w (.slice A n cap) l) (hl : 0 < l.length) : ∃ ad, A = some ad := by
  obtain ⟨ad, _, h1, _⟩ := h.at (List.getElem?_eq_getElem hl)
  exact ⟨ad, h1⟩
theorem SL.getI {F : Nat → Prop} {w : World} {ad : Addr} {n cap : Nat} {l : List Int} (h : SL intT F w (.slice (some ad) n cap) l) {i : Nat} {x : Int} (hx : l[i]? = some x) : w.cell? (ad.add ((i : Int).toNat * 1)) = some (.int .i64 x) := by
  obtain ⟨ad', h1, h2, _⟩ := h.int hx
  cases h1
  exact h2
theorem SL.rngI {F : Nat → Prop} {w : World} {v : Value} {l : List Int} (h : SL intT F w v l) {i : Nat} {x : Int} (hx : l[i]? = some x) : I64 x := by
  obtain ⟨A, cap, rfl, _⟩ := h.form
  obtain ⟨_, _, _, h3⟩ := h.int hx
  exact h3
/-- a row of a slice of slices -/
theorem SL.row {α : Type} {T : Ty α} {F : Nat → Prop} {w : World} {ad : Addr} {n cap : Nat} {l : List (List α)} (h : SL (sliceT T) F w (.slice (some ad) n cap) l) {i : Nat} {r : List α} (hr : l[i]? = some r) :
    ∃ v, w.cell? (ad.add ((i : Int).toNat * 1)) = some v ∧ SL T F w v r := by
  obtain ⟨ad', cs, h1, _, ⟨v, rfl, hv⟩, hc⟩ := h.at hr
  cases h1
  refine ⟨v, ?_, hv⟩
  have := hc 0 v rfl
  rw [Addr.add_add, Nat.add_zero] at this
  exact this
end Go.PF

/- Truth values of statements; distances read off rows: plain. -/
namespace Go.PF
noncomputable def dec (p : Prop) : Bool := @decide p (Classical.propDecidable p)
theorem dec_iff {p : Prop} : dec p = true ↔ p := @decide_eq_true_iff p (Classical.propDecidable p)
theorem dec_pos {p : Prop} (h : p) : dec p = true := dec_iff.2 h
theorem dec_neg {p : Prop} (h : ¬ p) : dec p = false := by
  cases hd : dec p with
  | false => rfl
  | true => exact absurd (dec_iff.1 hd) h
theorem dec_congr {p q : Prop} (h : p ↔ q) : dec p = dec q := by rw [show p = q from propext h]
theorem dec_eq_decide {p : Prop} [Decidable p] : dec p = decide p := by
  by_cases h : p
  · rw [dec_pos h]; simp [h]
  · rw [dec_neg h]; simp [h]
theorem nb {p : Prop} [Decidable p] (h : (!decide p) = true) : ¬ p := by simpa using h
theorem nb' {p : Prop} [Decidable p] (h : (!decide p) = false) : p := by simpa using h
theorem ndec {p : Prop} (h : (!dec p) = true) : ¬ p := fun hp => by rw [dec_pos hp] at h; cases h
theorem ndec' {p : Prop} (h : (!dec p) = false) : p := dec_iff.1 (by simpa using h)
end Go.PF
namespace Go.Ord
open Go.PF
structure RowOK (d : Dist) (i : Nat) (r : List Int) : Prop where
  len : r.length = d.length
  diag : r[i]? = some 0
  rng : ∀ (j : Nat) (x : Int), r[j]? = some x → -1 ≤ x ∧ x ≤ 1000000
def Tri (d : Dist) (i k j : Nat) : Prop := at2 d i k ≠ -1 → at2 d k j ≠ -1 → at2 d i j ≠ -1 ∧ at2 d i j ≤ at2 d i k + at2 d k j
theorem at2_eq {d : Dist} {i j : Nat} {r : List Int} {x : Int} (hr : d[i]? = some r) (hx : r[j]? = some x) : at2 d i j = x := by
  unfold at2
  simp [List.getD_eq_getElem?_getD, hr, hx]
theorem wfd_of {d : Dist} (h1 : d.length ≤ 12) (h2 : ∀ (i : Nat) (r : List Int), d[i]? = some r → RowOK d i r) (h3 : ∀ i k j, i < d.length → k < d.length → j < d.length → Tri d i k j) : WfD d := by
  refine ⟨h1, fun i r hr => (h2 i r hr).len, fun i hi => ?_, fun i j hi hj => ?_, h3⟩
  · have hr : d[i]? = some d[i] := List.getElem?_eq_getElem hi
    exact at2_eq hr (h2 i _ hr).diag
  · have hr : d[i]? = some d[i] := List.getElem?_eq_getElem hi
    have hl := (h2 i _ hr).len
    have hx : d[i][j]? = some (d[i][j]'(by omega)) := List.getElem?_eq_getElem (by omega)
    rw [at2_eq hr hx]
    exact (h2 i _ hr).rng j _ hx
theorem WfD.rowOK {d : Dist} (h : WfD d) {i : Nat} {r : List Int} (hr : d[i]? = some r) : RowOK d i r := by
  have hi := (List.getElem?_eq_some_iff.1 hr).1
  have hl := h.row i r hr
  refine ⟨hl, ?_, fun j x hx => ?_⟩
  · have hx : r[i]? = some (r[i]'(by omega)) := List.getElem?_eq_getElem (by omega)
    have := h.diag i hi
    rw [at2_eq hr hx] at this
    rw [hx, this]
  · have hj := (List.getElem?_eq_some_iff.1 hx).1
    have := h.rng i j hi (by omega)
    rw [at2_eq hr hx] at this
    exact this
end Go.Ord

/- max, min; sets of bits; shifts; interface values; slices made. Printed by mkops3.py. -/
namespace Go.PF
open Go.RowKit

/-- m without the bits of n -/
def andN (m n : Nat) : Nat := (BitVec.ofNat 32 m &&& ~~~ (BitVec.ofNat 32 n)).toNat
theorem andN_bit {m n : Nat} (i : Nat) : (andN m n).testBit i = (decide (i < 32) && m.testBit i && !(n.testBit i)) := by
  unfold andN
  rw [← BitVec.getLsbD, BitVec.getLsbD_and, BitVec.getLsbD_not, BitVec.getLsbD_ofNat, BitVec.getLsbD_ofNat]
  by_cases h : i < 32 <;> simp [h]
theorem andN_lt (m n : Nat) : andN m n < 2 ^ 32 := (BitVec.ofNat 32 m &&& ~~~ (BitVec.ofNat 32 n)).isLt
theorem andN_zero {m n : Nat} (hm : m < 2 ^ 32) : andN m n = 0 ↔ ∀ i, m.testBit i = true → n.testBit i = true := by
  constructor
  · intro h i hi
    have h1 := andN_bit (m := m) (n := n) i
    rw [h, Nat.zero_testBit, hi] at h1
    have h2 : i < 32 := by
      rcases Nat.lt_or_ge i 32 with h | h
      · exact h
      · rw [Nat.testBit_lt_two_pow (Nat.lt_of_lt_of_le hm (Nat.pow_le_pow_right (by decide) h))] at hi; cases hi
    simpa [h2] using h1.symm
  · intro h
    apply Nat.eq_of_testBit_eq
    intro i
    rw [andN_bit, Nat.zero_testBit]
    cases hi : m.testBit i with
    | false => simp
    | true => simp [h i hi]
theorem wrap32 {z : Nat} (h : z < 2 ^ 32) : IntKind.u32.wrap (z : Int) = z := by
  rw [IntKind.wrap_u32]; omega
theorem ofInt32 (m : Nat) : BitVec.ofInt IntKind.u32.bits (m : Int) = BitVec.ofNat 32 m := BitVec.ofInt_ofNat ..
theorem run_and32 {m n : Nat} (hm : m < 2 ^ 32) (hn : n < 2 ^ 32) : Op.intBits .and .u32 (m : Int) (n : Int) = pure (.int .u32 ((m &&& n : Nat) : Int)) := by
  have h : (BitVec.ofNat 32 m &&& BitVec.ofNat 32 n).toNat = m &&& n := by
    rw [BitVec.toNat_and, BitVec.toNat_ofNat, BitVec.toNat_ofNat, Nat.mod_eq_of_lt hm, Nat.mod_eq_of_lt hn]
  unfold Op.intBits
  simp only [ofInt32]
  show (pure (Value.int .u32 (IntKind.u32.wrap (((BitVec.ofNat 32 m &&& BitVec.ofNat 32 n).toNat : Nat) : Int))) : Sem Value) = _
  rw [h, wrap32 (Nat.lt_of_le_of_lt Nat.and_le_left hm)]
theorem run_or32 {m n : Nat} (hm : m < 2 ^ 32) (hn : n < 2 ^ 32) : Op.intBits .or .u32 (m : Int) (n : Int) = pure (.int .u32 ((m ||| n : Nat) : Int)) := by
  have h : (BitVec.ofNat 32 m ||| BitVec.ofNat 32 n).toNat = m ||| n := by
    rw [BitVec.toNat_or, BitVec.toNat_ofNat, BitVec.toNat_ofNat, Nat.mod_eq_of_lt hm, Nat.mod_eq_of_lt hn]
  unfold Op.intBits
  simp only [ofInt32]
  show (pure (Value.int .u32 (IntKind.u32.wrap (((BitVec.ofNat 32 m ||| BitVec.ofNat 32 n).toNat : Nat) : Int))) : Sem Value) = _
  rw [h, wrap32 (Nat.or_lt_two_pow hm hn)]
theorem run_andN32 {m n : Nat} : Op.intBits .andNot .u32 (m : Int) (n : Int) = pure (.int .u32 ((andN m n : Nat) : Int)) := by
  unfold Op.intBits
  simp only [ofInt32]
  show (pure (Value.int .u32 (IntKind.u32.wrap (((BitVec.ofNat 32 m &&& ~~~ (BitVec.ofNat 32 n)).toNat : Nat) : Int))) : Sem Value) = _
  have := wrap32 (andN_lt m n)
  unfold andN at this ⊢
  rw [this]

section
variable {P : Program} {r : Option Nat} {Q : Exit → Act → World → Prop} {N : Nat} {ds : List Deferred} {ops rest : List Oper} {E : Env} {D : DE} {w : World} {G : Option Bool} {Fin : DE → Prop} {md : Mode}
variable {d : Option Tmp} {ty : TypeId} {pos : String} {af : Array Edge} {gu : Option (Nat × Bool)}
variable {x y z : Operand} {cx cy cz : Option Bool} {ρ : Operand → Value}

def notIface (P : Program) (t : TypeId) : Bool := match P.underlying t with
  | none | some (.interface _) => false
  | _ => true

theorem X.maxI {k : IntKind} {m n : Int} {ts : Array TypeId}  (hx : ρ x = .int k m) (hy : ρ y = .int k n)  : (execOp ρ ⟨d, .call ⟨.builtin .max, #[x, y], ts⟩, ty, pos, af, gu⟩).run P w = .ok (.value (.int k (max m n))) w := by 
    have e : (if n > m then n else m) = max m n := by omega
    simp [execOp, resolve, invoke, builtin, hx, hy, run_max_int2, e]
theorem TW.maxI {k : IntKind} {m n : Int} {ts : Array TypeId} (hg : gd ops E gu = some G) (hd : okDst N d = true)  (hx : ev E x = some (cx, .int k m)) (ix : Cnd G → Cnd cx) (hy : ev E y = some (cy, .int k n)) (iy : Cnd G → Cnd cy) 
    (next : TW P r Q N ds ops rest (ins E d G (.int k (max m n))) w) : TW P r Q N ds ops (⟨d, .call ⟨.builtin .max, #[x, y], ts⟩, ty, pos, af, gu⟩ :: rest) E w :=
  TW.val hg hd rfl (fun hG _ ha => X.maxI  (ha.eval hx (ix hG)) (ha.eval hy (iy hG)) ) next
theorem DW.maxI {k : IntKind} {m n : Int} {ts : Array TypeId} (hg : dgd ops D gu = some G) (hd : okDst N d = true)  (hx : dev D x = some (cx, .ex (.int k m))) (ix : Cnd G → Cnd cx) (hy : dev D y = some (cy, .ex (.int k n))) (iy : Cnd G → Cnd cy) 
    (next : DW P N ds md ops w Fin rest (dins D d G (.ex (.int k (max m n))))) : DW P N ds md ops w Fin (⟨d, .call ⟨.builtin .max, #[x, y], ts⟩, ty, pos, af, gu⟩ :: rest) D :=
  DW.val hg hd rfl (fun hG _ _ _ ha => X.maxI  (ha.eval (o := ⟨d, .call ⟨.builtin .max, #[x, y], ts⟩, ty, pos, af, gu⟩) hx (by simp [Op.operands, Call.operands]) (ix hG)) (ha.eval (o := ⟨d, .call ⟨.builtin .max, #[x, y], ts⟩, ty, pos, af, gu⟩) hy (by simp [Op.operands, Call.operands]) (iy hG)) ) next
theorem X.minI {k : IntKind} {m n : Int} {ts : Array TypeId}  (hx : ρ x = .int k m) (hy : ρ y = .int k n)  : (execOp ρ ⟨d, .call ⟨.builtin .min, #[x, y], ts⟩, ty, pos, af, gu⟩).run P w = .ok (.value (.int k (min m n))) w := by 
    have e : (if n < m then n else m) = min m n := by omega
    simp [execOp, resolve, invoke, builtin, hx, hy, run_min_int2, e]
theorem TW.minI {k : IntKind} {m n : Int} {ts : Array TypeId} (hg : gd ops E gu = some G) (hd : okDst N d = true)  (hx : ev E x = some (cx, .int k m)) (ix : Cnd G → Cnd cx) (hy : ev E y = some (cy, .int k n)) (iy : Cnd G → Cnd cy) 
    (next : TW P r Q N ds ops rest (ins E d G (.int k (min m n))) w) : TW P r Q N ds ops (⟨d, .call ⟨.builtin .min, #[x, y], ts⟩, ty, pos, af, gu⟩ :: rest) E w :=
  TW.val hg hd rfl (fun hG _ ha => X.minI  (ha.eval hx (ix hG)) (ha.eval hy (iy hG)) ) next
theorem DW.minI {k : IntKind} {m n : Int} {ts : Array TypeId} (hg : dgd ops D gu = some G) (hd : okDst N d = true)  (hx : dev D x = some (cx, .ex (.int k m))) (ix : Cnd G → Cnd cx) (hy : dev D y = some (cy, .ex (.int k n))) (iy : Cnd G → Cnd cy) 
    (next : DW P N ds md ops w Fin rest (dins D d G (.ex (.int k (min m n))))) : DW P N ds md ops w Fin (⟨d, .call ⟨.builtin .min, #[x, y], ts⟩, ty, pos, af, gu⟩ :: rest) D :=
  DW.val hg hd rfl (fun hG _ _ _ ha => X.minI  (ha.eval (o := ⟨d, .call ⟨.builtin .min, #[x, y], ts⟩, ty, pos, af, gu⟩) hx (by simp [Op.operands, Call.operands]) (ix hG)) (ha.eval (o := ⟨d, .call ⟨.builtin .min, #[x, y], ts⟩, ty, pos, af, gu⟩) hy (by simp [Op.operands, Call.operands]) (iy hG)) ) next
theorem X.and32 {m n : Nat} {t t' : TypeId}  (hx : ρ x = .int .u32 (m : Int)) (hy : ρ y = .int .u32 (n : Int)) (hb : m < 2 ^ 32 ∧ n < 2 ^ 32) : (execOp ρ ⟨d, .binOp .and t x y t', ty, pos, af, gu⟩).run P w = .ok (.value (.int .u32 ((m &&& n : Nat) : Int))) w := by simp only [execOp]; rw [hx, hy, eqGuard_and, binOp_and, run_and32 hb.1 hb.2]; rfl
theorem TW.and32 {m n : Nat} {t t' : TypeId} (hg : gd ops E gu = some G) (hd : okDst N d = true)  (hx : ev E x = some (cx, .int .u32 (m : Int))) (ix : Cnd G → Cnd cx) (hy : ev E y = some (cy, .int .u32 (n : Int))) (iy : Cnd G → Cnd cy) (hb : Cnd G → m < 2 ^ 32 ∧ n < 2 ^ 32)
    (next : TW P r Q N ds ops rest (ins E d G (.int .u32 ((m &&& n : Nat) : Int))) w) : TW P r Q N ds ops (⟨d, .binOp .and t x y t', ty, pos, af, gu⟩ :: rest) E w :=
  TW.val hg hd rfl (fun hG _ ha => X.and32  (ha.eval hx (ix hG)) (ha.eval hy (iy hG)) (hb hG)) next
theorem DW.and32 {m n : Nat} {t t' : TypeId} (hg : dgd ops D gu = some G) (hd : okDst N d = true)  (hx : dev D x = some (cx, .ex (.int .u32 (m : Int)))) (ix : Cnd G → Cnd cx) (hy : dev D y = some (cy, .ex (.int .u32 (n : Int)))) (iy : Cnd G → Cnd cy) (hb : Cnd G → m < 2 ^ 32 ∧ n < 2 ^ 32)
    (next : DW P N ds md ops w Fin rest (dins D d G (.ex (.int .u32 ((m &&& n : Nat) : Int))))) : DW P N ds md ops w Fin (⟨d, .binOp .and t x y t', ty, pos, af, gu⟩ :: rest) D :=
  DW.val hg hd rfl (fun hG _ _ _ ha => X.and32  (ha.eval (o := ⟨d, .binOp .and t x y t', ty, pos, af, gu⟩) hx (by simp [Op.operands, Call.operands]) (ix hG)) (ha.eval (o := ⟨d, .binOp .and t x y t', ty, pos, af, gu⟩) hy (by simp [Op.operands, Call.operands]) (iy hG)) (hb hG)) next
theorem X.or32 {m n : Nat} {t t' : TypeId}  (hx : ρ x = .int .u32 (m : Int)) (hy : ρ y = .int .u32 (n : Int)) (hb : m < 2 ^ 32 ∧ n < 2 ^ 32) : (execOp ρ ⟨d, .binOp .or t x y t', ty, pos, af, gu⟩).run P w = .ok (.value (.int .u32 ((m ||| n : Nat) : Int))) w := by simp only [execOp]; rw [hx, hy, eqGuard_or, binOp_or, run_or32 hb.1 hb.2]; rfl
theorem TW.or32 {m n : Nat} {t t' : TypeId} (hg : gd ops E gu = some G) (hd : okDst N d = true)  (hx : ev E x = some (cx, .int .u32 (m : Int))) (ix : Cnd G → Cnd cx) (hy : ev E y = some (cy, .int .u32 (n : Int))) (iy : Cnd G → Cnd cy) (hb : Cnd G → m < 2 ^ 32 ∧ n < 2 ^ 32)
    (next : TW P r Q N ds ops rest (ins E d G (.int .u32 ((m ||| n : Nat) : Int))) w) : TW P r Q N ds ops (⟨d, .binOp .or t x y t', ty, pos, af, gu⟩ :: rest) E w :=
  TW.val hg hd rfl (fun hG _ ha => X.or32  (ha.eval hx (ix hG)) (ha.eval hy (iy hG)) (hb hG)) next
theorem DW.or32 {m n : Nat} {t t' : TypeId} (hg : dgd ops D gu = some G) (hd : okDst N d = true)  (hx : dev D x = some (cx, .ex (.int .u32 (m : Int)))) (ix : Cnd G → Cnd cx) (hy : dev D y = some (cy, .ex (.int .u32 (n : Int)))) (iy : Cnd G → Cnd cy) (hb : Cnd G → m < 2 ^ 32 ∧ n < 2 ^ 32)
    (next : DW P N ds md ops w Fin rest (dins D d G (.ex (.int .u32 ((m ||| n : Nat) : Int))))) : DW P N ds md ops w Fin (⟨d, .binOp .or t x y t', ty, pos, af, gu⟩ :: rest) D :=
  DW.val hg hd rfl (fun hG _ _ _ ha => X.or32  (ha.eval (o := ⟨d, .binOp .or t x y t', ty, pos, af, gu⟩) hx (by simp [Op.operands, Call.operands]) (ix hG)) (ha.eval (o := ⟨d, .binOp .or t x y t', ty, pos, af, gu⟩) hy (by simp [Op.operands, Call.operands]) (iy hG)) (hb hG)) next
theorem X.andNot32 {m n : Nat} {t t' : TypeId}  (hx : ρ x = .int .u32 (m : Int)) (hy : ρ y = .int .u32 (n : Int))  : (execOp ρ ⟨d, .binOp .andNot t x y t', ty, pos, af, gu⟩).run P w = .ok (.value (.int .u32 ((andN m n : Nat) : Int))) w := by simp only [execOp]; rw [hx, hy, eqGuard_andNot, binOp_andNot, run_andN32]; rfl
theorem TW.andNot32 {m n : Nat} {t t' : TypeId} (hg : gd ops E gu = some G) (hd : okDst N d = true)  (hx : ev E x = some (cx, .int .u32 (m : Int))) (ix : Cnd G → Cnd cx) (hy : ev E y = some (cy, .int .u32 (n : Int))) (iy : Cnd G → Cnd cy) 
    (next : TW P r Q N ds ops rest (ins E d G (.int .u32 ((andN m n : Nat) : Int))) w) : TW P r Q N ds ops (⟨d, .binOp .andNot t x y t', ty, pos, af, gu⟩ :: rest) E w :=
  TW.val hg hd rfl (fun hG _ ha => X.andNot32  (ha.eval hx (ix hG)) (ha.eval hy (iy hG)) ) next
theorem DW.andNot32 {m n : Nat} {t t' : TypeId} (hg : dgd ops D gu = some G) (hd : okDst N d = true)  (hx : dev D x = some (cx, .ex (.int .u32 (m : Int)))) (ix : Cnd G → Cnd cx) (hy : dev D y = some (cy, .ex (.int .u32 (n : Int)))) (iy : Cnd G → Cnd cy) 
    (next : DW P N ds md ops w Fin rest (dins D d G (.ex (.int .u32 ((andN m n : Nat) : Int))))) : DW P N ds md ops w Fin (⟨d, .binOp .andNot t x y t', ty, pos, af, gu⟩ :: rest) D :=
  DW.val hg hd rfl (fun hG _ _ _ ha => X.andNot32  (ha.eval (o := ⟨d, .binOp .andNot t x y t', ty, pos, af, gu⟩) hx (by simp [Op.operands, Call.operands]) (ix hG)) (ha.eval (o := ⟨d, .binOp .andNot t x y t', ty, pos, af, gu⟩) hy (by simp [Op.operands, Call.operands]) (iy hG)) ) next
theorem X.shl32 {k : IntKind} {n : Nat} {t t' : TypeId}  (hx : ρ x = .int .u32 1) (hy : ρ y = .int k (n : Int)) (hb : n < 32) : (execOp ρ ⟨d, .binOp .shl t x y t', ty, pos, af, gu⟩).run P w = .ok (.value (.int .u32 ((1 <<< n : Nat) : Int))) w := by 
    have h1 : ¬ ((n : Int) < 0) := by omega
    have h2 : min n IntKind.u32.bits = n := Nat.min_eq_left (by show n ≤ 32; omega)
    have h3 : (1 : Int) * (2 : Int) ^ n = ((1 <<< n : Nat) : Int) := by rw [Nat.one_shiftLeft, Int.one_mul]; push_cast; rfl
    have h4 : (1 <<< n : Nat) < 2 ^ 32 := by rw [Nat.one_shiftLeft]; exact Nat.pow_lt_pow_right (by decide) hb
    simp only [execOp]; rw [hx, hy, eqGuard_shl, binOp_shl]
    simp only [Op.shift, if_neg h1, Int.toNat_natCast, h2, h3, wrap32 h4]; rfl
theorem TW.shl32 {k : IntKind} {n : Nat} {t t' : TypeId} (hg : gd ops E gu = some G) (hd : okDst N d = true)  (hx : ev E x = some (cx, .int .u32 1)) (ix : Cnd G → Cnd cx) (hy : ev E y = some (cy, .int k (n : Int))) (iy : Cnd G → Cnd cy) (hb : Cnd G → n < 32)
    (next : TW P r Q N ds ops rest (ins E d G (.int .u32 ((1 <<< n : Nat) : Int))) w) : TW P r Q N ds ops (⟨d, .binOp .shl t x y t', ty, pos, af, gu⟩ :: rest) E w :=
  TW.val hg hd rfl (fun hG _ ha => X.shl32  (ha.eval hx (ix hG)) (ha.eval hy (iy hG)) (hb hG)) next
theorem DW.shl32 {k : IntKind} {n : Nat} {t t' : TypeId} (hg : dgd ops D gu = some G) (hd : okDst N d = true)  (hx : dev D x = some (cx, .ex (.int .u32 1))) (ix : Cnd G → Cnd cx) (hy : dev D y = some (cy, .ex (.int k (n : Int)))) (iy : Cnd G → Cnd cy) (hb : Cnd G → n < 32)
    (next : DW P N ds md ops w Fin rest (dins D d G (.ex (.int .u32 ((1 <<< n : Nat) : Int))))) : DW P N ds md ops w Fin (⟨d, .binOp .shl t x y t', ty, pos, af, gu⟩ :: rest) D :=
  DW.val hg hd rfl (fun hG _ _ _ ha => X.shl32  (ha.eval (o := ⟨d, .binOp .shl t x y t', ty, pos, af, gu⟩) hx (by simp [Op.operands, Call.operands]) (ix hG)) (ha.eval (o := ⟨d, .binOp .shl t x y t', ty, pos, af, gu⟩) hy (by simp [Op.operands, Call.operands]) (iy hG)) (hb hG)) next
theorem X.shl64 {k : IntKind} {n : Nat} {t t' : TypeId}  (hx : ρ x = .int .i64 1) (hy : ρ y = .int k (n : Int)) (hb : n < 62) : (execOp ρ ⟨d, .binOp .shl t x y t', ty, pos, af, gu⟩).run P w = .ok (.value (.int .i64 ((2 ^ n : Nat) : Int))) w := by 
    have h1 : ¬ ((n : Int) < 0) := by omega
    have h2 : min n IntKind.i64.bits = n := Nat.min_eq_left (by show n ≤ 64; omega)
    have h3 : (1 : Int) * (2 : Int) ^ n = ((2 ^ n : Nat) : Int) := by rw [Int.one_mul]; push_cast; rfl
    have h4 : (2 ^ n : Nat) ≤ 2 ^ 61 := Nat.pow_le_pow_right (by decide) (by omega)
    have h5 : IntKind.i64.wrap ((2 ^ n : Nat) : Int) = ((2 ^ n : Nat) : Int) := wrap_fits (by generalize (2 ^ n : Nat) = q at *; omega)
    simp only [execOp]; rw [hx, hy, eqGuard_shl, binOp_shl]
    simp only [Op.shift, if_neg h1, Int.toNat_natCast, h2, h3, h5]; rfl
theorem TW.shl64 {k : IntKind} {n : Nat} {t t' : TypeId} (hg : gd ops E gu = some G) (hd : okDst N d = true)  (hx : ev E x = some (cx, .int .i64 1)) (ix : Cnd G → Cnd cx) (hy : ev E y = some (cy, .int k (n : Int))) (iy : Cnd G → Cnd cy) (hb : Cnd G → n < 62)
    (next : TW P r Q N ds ops rest (ins E d G (.int .i64 ((2 ^ n : Nat) : Int))) w) : TW P r Q N ds ops (⟨d, .binOp .shl t x y t', ty, pos, af, gu⟩ :: rest) E w :=
  TW.val hg hd rfl (fun hG _ ha => X.shl64  (ha.eval hx (ix hG)) (ha.eval hy (iy hG)) (hb hG)) next
theorem DW.shl64 {k : IntKind} {n : Nat} {t t' : TypeId} (hg : dgd ops D gu = some G) (hd : okDst N d = true)  (hx : dev D x = some (cx, .ex (.int .i64 1))) (ix : Cnd G → Cnd cx) (hy : dev D y = some (cy, .ex (.int k (n : Int)))) (iy : Cnd G → Cnd cy) (hb : Cnd G → n < 62)
    (next : DW P N ds md ops w Fin rest (dins D d G (.ex (.int .i64 ((2 ^ n : Nat) : Int))))) : DW P N ds md ops w Fin (⟨d, .binOp .shl t x y t', ty, pos, af, gu⟩ :: rest) D :=
  DW.val hg hd rfl (fun hG _ _ _ ha => X.shl64  (ha.eval (o := ⟨d, .binOp .shl t x y t', ty, pos, af, gu⟩) hx (by simp [Op.operands, Call.operands]) (ix hG)) (ha.eval (o := ⟨d, .binOp .shl t x y t', ty, pos, af, gu⟩) hy (by simp [Op.operands, Call.operands]) (iy hG)) (hb hG)) next
theorem X.makeIface {vx : Value} {t : TypeId} (ht : notIface P t = true) (hx : ρ x = vx)  : (execOp ρ ⟨d, .makeInterface t x, ty, pos, af, gu⟩).run P w = .ok (.value (.iface t vx)) w := by 
    unfold notIface at ht
    cases hu : P.underlying t with
    | none => simp [hu] at ht
    | some dsc => cases dsc <;> first | (simp [hu] at ht; done) | (simp only [execOp]; rw [hx]; simp [Instr.makeInterface, run_underlying hu])
theorem TW.makeIface {vx : Value} {t : TypeId} (hg : gd ops E gu = some G) (hd : okDst N d = true) (ht : notIface P t = true) (hx : ev E x = some (cx, vx)) (ix : Cnd G → Cnd cx) 
    (next : TW P r Q N ds ops rest (ins E d G (.iface t vx)) w) : TW P r Q N ds ops (⟨d, .makeInterface t x, ty, pos, af, gu⟩ :: rest) E w :=
  TW.val hg hd rfl (fun hG _ ha => X.makeIface ht (ha.eval hx (ix hG)) ) next
theorem DW.makeIface {vx : Value} {t : TypeId} (hg : dgd ops D gu = some G) (hd : okDst N d = true) (ht : notIface P t = true) (hx : dev D x = some (cx, .ex (vx))) (ix : Cnd G → Cnd cx) 
    (next : DW P N ds md ops w Fin rest (dins D d G (.ex (.iface t vx)))) : DW P N ds md ops w Fin (⟨d, .makeInterface t x, ty, pos, af, gu⟩ :: rest) D :=
  DW.val hg hd rfl (fun hG _ _ _ ha => X.makeIface ht (ha.eval (o := ⟨d, .makeInterface t x, ty, pos, af, gu⟩) hx (by simp [Op.operands, Call.operands]) (ix hG)) ) next
theorem X.nilCheck {ad : Addr}  (hx : ρ x = .pointer (some ad))  : (execOp ρ ⟨d, .nilCheck x, ty, pos, af, gu⟩).run P w = .ok (.value (.pointer (some ad))) w := by simp only [execOp]; rw [hx]; rfl
theorem TW.nilCheck {ad : Addr} (hg : gd ops E gu = some G) (hd : okDst N d = true)  (hx : ev E x = some (cx, .pointer (some ad))) (ix : Cnd G → Cnd cx) 
    (next : TW P r Q N ds ops rest (ins E d G (.pointer (some ad))) w) : TW P r Q N ds ops (⟨d, .nilCheck x, ty, pos, af, gu⟩ :: rest) E w :=
  TW.val hg hd rfl (fun hG _ ha => X.nilCheck  (ha.eval hx (ix hG)) ) next
theorem DW.nilCheck {ad : Addr} (hg : dgd ops D gu = some G) (hd : okDst N d = true)  (hx : dev D x = some (cx, .ex (.pointer (some ad)))) (ix : Cnd G → Cnd cx) 
    (next : DW P N ds md ops w Fin rest (dins D d G (.ex (.pointer (some ad))))) : DW P N ds md ops w Fin (⟨d, .nilCheck x, ty, pos, af, gu⟩ :: rest) D :=
  DW.val hg hd rfl (fun hG _ _ _ ha => X.nilCheck  (ha.eval (o := ⟨d, .nilCheck x, ty, pos, af, gu⟩) hx (by simp [Op.operands, Call.operands]) (ix hG)) ) next

/-! ### A method called through an interface value -/
/-- how a method of values of a type is called: the function -/
def Meth (P : Program) (name : String) (t : TypeId) (k : FuncId) : Prop := ∀ (v : Value) (args : Array Value) (w : World), (callMethod (.iface t v) name args).run P w = .ok (.enter k (#[v] ++ args)) w
theorem X.invoke {name : String} {t : TypeId} {k : FuncId} {u : Operand} {v : Value} {xs : List Operand} {vs : List Value} {ts : Array TypeId} (he : Meth P name t k) (hu : ρ u = .iface t v) (hv : xs.map ρ = vs) :
    (execOp ρ ⟨d, .call ⟨.invoke u name, xs.toArray, ts⟩, ty, pos, af, gu⟩).run P w = .ok (.enter k (v :: vs).toArray) w := by
  have h := he v vs.toArray w
  have e : #[v] ++ vs.toArray = (v :: vs).toArray := by simp
  rw [e] at h
  simp [execOp, resolve, hu, hv, Go.invoke, h]
theorem TW.invoke {name : String} {t : TypeId} {k : FuncId} {u : Operand} {v : Value} {cu : Option Bool} {xs : List Operand} {vs : List Value} {ts : Array TypeId} {R : Value → World → Prop} (hg : gd ops E gu = some G) (hd : okDst N d = true) (he : Meth P name t k)
    (hu : ev E u = some (cu, .iface t v)) (ju : Cnd G → Cnd cu) (hv : Args N ds E G xs vs) (hc : Cnd G → Gives P k (v :: vs).toArray w R)
    (next : ∀ v w', (Cnd G → R v w') → (¬ Cnd G → w' = w) → TW P r Q N ds ops rest (ins E d G v) w') : TW P r Q N ds ops (⟨d, .call ⟨.invoke u name, xs.toArray, ts⟩, ty, pos, af, gu⟩ :: rest) E w :=
  TW.enter hg hd rfl (fun hG a ha => X.invoke he (ha.eval hu (ju hG)) (hv a ha hG)) hc next
theorem TW.invoke0 {name : String} {t : TypeId} {k : FuncId} {u : Operand} {v : Value} {xs : List Operand} {vs : List Value} {ts : Array TypeId} {R : Value → World → Prop} (hg : gu = none) (hd : okDst N d = true) (he : Meth P name t k)
    (hu : ev E u = some (none, .iface t v)) (hv : Args N ds E none xs vs) (hc : Gives P k (v :: vs).toArray w R)
    (next : ∀ v w', R v w' → TW P r Q N ds ops rest (ins E d none v) w') : TW P r Q N ds ops (⟨d, .call ⟨.invoke u name, xs.toArray, ts⟩, ty, pos, af, gu⟩ :: rest) E w :=
  TW.invoke (G := none) (by rw [hg]; rfl) hd he hu ct hv (fun _ => hc) (fun v w' h _ => next v w' (h trivial))
/-- the same under a guard, where it leaves what there was -/
theorem TW.invokeF {name : String} {t : TypeId} {k : FuncId} {u : Operand} {v y : Value} {cu : Option Bool} {xs : List Operand} {vs : List Value} {ts : Array TypeId} (hg : gd ops E gu = some G) (hd : okDst N d = true) (he : Meth P name t k)
    (hu : ev E u = some (cu, .iface t v)) (ju : Cnd G → Cnd cu) (hv : Args N ds E G xs vs) (hc : Cnd G → Gives P k (v :: vs).toArray w fun v w' => Below w.heap.size w w' ∧ v = y)
    (next : ∀ w', Below w.heap.size w w' → TW P r Q N ds ops rest (ins E d G y) w') : TW P r Q N ds ops (⟨d, .call ⟨.invoke u name, xs.toArray, ts⟩, ty, pos, af, gu⟩ :: rest) E w := by
  intro a ha
  obtain ⟨h1, h2⟩ := wanted_of (o := ⟨d, .call ⟨.invoke u name, xs.toArray, ts⟩, ty, pos, af, gu⟩) ha hg
  unfold wpListIn
  by_cases hcG : Cnd G
  · rw [if_pos (h1 hcG)]
    refine ⟨fun _ _ => trivial, ?_⟩
    rw [semAt_of rfl, X.invoke he (ha.eval hu (ju hcG)) (hv a ha hcG)]
    refine ⟨fun h => by simp [Fence.wide] at h, ?_⟩
    refine CallsIn.mono (callsIn_of (hc hcG)) ?_
    rintro e w' ⟨v, rfl, hb, rfl⟩
    exact next w' hb _ (ha.put hd (fun _ => rfl) (fun h => absurd hcG h))
  · rw [if_neg (by rw [h2 hcG]; simp)]
    exact ⟨fun _ _ => trivial, next w (Below.refl _ _) _ (ha.put hd (fun h => absurd h hcG) (fun _ => rfl))⟩
theorem DW.invoke {name : String} {t : TypeId} {k : FuncId} {u : Operand} {v : Value} {cu : Option Bool} {xs : List Operand} {vs : List Value} {ts : Array TypeId} (e : Ent) (hm : e.mono) (hg : dgd ops D gu = some G) (hd : okDst N d = true) (he : Meth P name t k)
    (hu : dev D u = some (cu, .ex (.iface t v))) (ju : Cnd G → Cnd cu) (hv : DArgs (Oper.looksAt ops.toArray ⟨d, .call ⟨.invoke u name, xs.toArray, ts⟩, ty, pos, af, gu⟩) N ds D G xs vs)
    (hc : Cnd G → ∀ w', Below w.heap.size w w' → Gives P k (v :: vs).toArray w' fun v w'' => Below w'.heap.size w' w'' ∧ e.sat v w'')
    (next : DW P N ds .weak ops w Fin rest (dins D d G e)) : DW P N ds .weak ops w Fin (⟨d, .call ⟨.invoke u name, xs.toArray, ts⟩, ty, pos, af, gu⟩ :: rest) D :=
  DW.enter (o := ⟨d, .call ⟨.invoke u name, xs.toArray, ts⟩, ty, pos, af, gu⟩) hg hd rfl hm (fun hG a w' hb ha => ⟨_, _, X.invoke he (ha.eval (o := ⟨d, .call ⟨.invoke u name, xs.toArray, ts⟩, ty, pos, af, gu⟩) hu (by simp [Op.operands, Call.operands]) (ju hG))
    (hv (fun t ht => mem_looks (by simp [Op.operands, Call.operands, ht])) a w' ha hG), hc hG w' hb⟩) next

/-! ### make([]T, n) -/
theorem made_cells {z : Value} {u : Value} (hz : z.cells = #[u]) (n : Nat) : (madeCells z.cells (n * 1)).toList = List.replicate n u := by
  unfold madeCells
  rw [hz]
  apply List.ext_getElem?
  intro i
  by_cases h : i < n <;> simp [h, List.getElem?_replicate, Nat.mod_one]
/-- a type of one cell, its zero value and its bytes -/
def zero1 (P : Program) (t e : TypeId) (u : Value) (bytes : Nat) : Prop := ∃ i z, P.underlying t = some (.slice e) ∧ P.info? e = some i ∧ i.zero = some z ∧ z.cells = #[u] ∧ i.size = 1 ∧ i.bytes = bytes
theorem zero1_of {t e : TypeId} {u : Value} {bytes : Nat} (hg : growOK P t e 1 bytes = true) (hz : (P.info? e).bind (·.zero) = some u) (hu : u.cells = #[u]) : zero1 P t e u bytes := by
  obtain ⟨i, zv, h1, h2, h3, h4, h5, h6, h7⟩ := growOK_spec hg
  rw [h2] at hz
  simp only [Option.bind_some, h3, Option.some.injEq] at hz
  subst hz
  exact ⟨i, zv, h1, h2, h3, hu, h4, h5⟩
theorem TW.makeSlice {t e : TypeId} {u : Value} {bytes n : Nat} {k k' : IntKind} (hg : gu = none) (hd : okDst N d = true) (hz : zero1 P t e u bytes) (hx : ev E x = some (none, .int k (n : Int))) (hy : ev E y = some (none, .int k' (n : Int))) (hb : bytes * n ≤ 281474976710656) (hn : n ≤ 9223372036854775807)
    (next : ∀ g w', Fresh w w' g e (List.replicate n u) → TW P r Q N ds ops rest (ins E d none (.slice (some ⟨g, 0, none⟩) n n)) w') : TW P r Q N ds ops (⟨d, .makeSlice t x y, ty, pos, af, gu⟩ :: rest) E w := by
  obtain ⟨i, z, hu, hi, hz0, hz1, hs, hby⟩ := hz
  have hr := run_make (P := P) w t e i z hu hi hz0 k k' (n : Int) (n : Int) (by omega) (Int.le_refl _) (by rw [hby, ← Int.natCast_mul]; omega) (by omega)
  simp only [Int.toNat_natCast, hs] at hr
  have e1 : madeCells z.cells (n * 1) = (List.replicate n u).toArray := by rw [← made_cells hz1 n]
  rw [e1] at hr
  refine TW.eff (w' := w.alloc (.cells (List.replicate n u).toArray e)) hg hd rfl (fun a ha => ?_) (next _ _ (Fresh.mk' w e _))
  simp only [execOp]
  rw [ha.eval hx trivial, ha.eval hy trivial]
  simp [hr]
/-- 'v := x', v of one cell, in memory -/
theorem TW.newVar1 {t : TypeId} {dd : Nat} {z v : Value} {ty' : TypeId} {pos' : String} {af' : Array Edge} (hd : okDst N (some dd) = true) (hz : zeroCells P t = some [z]) (hy : ev ((dd, none, .pointer (some ⟨w.heap.size, 0, none⟩)) :: E) y = some (none, v)) (hs : (P.info? t).map (·.size) = some 1)
    (h1 : v.oneCell' = true) (next : ∀ g w', Fresh w w' g t [v] → TW P r Q N ds ops rest ((dd, none, .pointer (some ⟨g, 0, none⟩)) :: E) w') :
    TW P r Q N ds ops (⟨some dd, .alloc t, ty, pos, af, none⟩ :: ⟨none, .store t (.tmp dd) y, ty', pos', af', none⟩ :: rest) E w := by
  refine TW.eff (v := .pointer (some ⟨w.heap.size, 0, none⟩)) (w' := w.alloc (.cells [z].toArray t)) rfl hd rfl (fun a ha => ?_) ?_
  · unfold zeroCells at hz
    cases hi : P.info? t with
    | none => simp [hi] at hz
    | some i =>
      cases hzz : i.zero with
      | none => simp [hi, hzz] at hz
      | some zv =>
        simp [hi, hzz] at hz
        simp [execOp, Instr.alloc, zeroValue, typeInfo, hi, hzz, Go.newVar, newRow, ← hz]
  · have hB := Blk.new w t [z]
    refine TW.store1 rfl hs (by simp [ev, look, ins]) hy (hB.cell 0) (hB.frozen 0) h1 ?_
    refine next _ _ ⟨rfl, ?_, ?_, hB.set 0 v⟩
    · simp [World.setCell]
    · exact (below_alloc w _).setCell (Nat.le_refl _) _
/-- from w to w' no block of before has turned, but g -/
abbrev But (g : Nat) (w w' : World) : Prop := w.grownBy w' (some g)
theorem But.of_below {g : Nat} {w w' : World} (h : Below w.heap.size w w') : But g w w' := ⟨h.os, h.tape, h.output, h.size, fun k hk _ => h.block k hk⟩
theorem But.trans {g : Nat} {w w' w'' : World} (h : But g w w') (h' : But g w' w'') : But g w w'' :=
  ⟨h'.os.trans h.os, h'.tape.trans h.tape, h'.output.trans h.output, Nat.le_trans h.size h'.size, fun k hk hn => (h'.block k (Nat.lt_of_lt_of_le hk h.size) hn).trans (h.block k hk hn)⟩
theorem But.step {g : Nat} {w w' w'' : World} (h : But g w w') (h' : Below w'.heap.size w' w'') : But g w w'' := h.trans (.of_below h')
/-- g is new -/
theorem But.below {g : Nat} {w w1 w2 : World} (h : Below w.heap.size w w1) (h' : But g w1 w2) (hg : w.heap.size ≤ g) : Below w.heap.size w w2 := h.grown h' h.size (fun k hk => by cases hk; exact hg)
theorem But.blk {g k : Nat} {w w' : World} {t : TypeId} {cs : List Value} (h : But g w w') (hB : Blk w k t cs) (hk : k ≠ g) : Blk w' k t cs := (h.block k hB.lt (fun e => hk (by cases e; rfl))).trans hB
theorem But.setCell {g j : Nat} {w : World} {u : Value} : But g w (w.setCell ⟨g, j, none⟩ u) := ⟨rfl, rfl, rfl, by simp [World.setCell], fun k _ hn => Below.heap_setCell _ _ _ _ (fun e => hn (by rw [e]))⟩
/-- a cell of a known block is written -/
theorem TW.storeFld {t t1 : TypeId} {g j : Nat} {cs : List Value} {u : Value} (hg : gu = none) (hs : (P.info? t).map (·.size) = some 1) (hx : ev E x = some (none, .pointer (some (Addr.add ⟨g, 0, none⟩ j)))) (hy : ev E y = some (none, u)) (hB : Blk w g t1 cs) (hj : j < cs.length) (h1 : u.oneCell' = true)
    (next : ∀ w', Blk w' g t1 (cs.set j u) → But g w w' → w'.heap.size = w.heap.size → TW P r Q N ds ops rest E w') : TW P r Q N ds ops (⟨none, .store t x y, ty, pos, af, gu⟩ :: rest) E w := by
  refine TW.store1 hg hs hx hy (hB.fld (List.getElem?_eq_getElem hj)) (by rw [addr0]; exact hB.frozen _) h1 ?_
  rw [addr0]
  exact next _ (hB.set j u) .setCell (by simp [World.setCell])
end
end Go.PF

/- Events in memory. -/
namespace Go.PF
open Go.RowKit Go.Ord

def evT : Ty Ev where
  n := 4
  rep := fun F w cs e => ∃ v, cs = [.int .i64 e.office, .int .i64 e.low, .int .i64 e.high, v] ∧ I64 e.office ∧ I64 e.low ∧ I64 e.high ∧ SL intT F w v e.needs
  len := fun _ _ _ _ h => by obtain ⟨v, h, _⟩ := h; rw [h]; rfl
  mono := fun _ _ _ _ _ hk h => by obtain ⟨v, h, h1, h2, h3, hs⟩ := h; exact ⟨v, h, h1, h2, h3, hs.mono hk⟩
  wider := fun _ _ _ _ _ hF h => by obtain ⟨v, h, h1, h2, h3, hs⟩ := h; exact ⟨v, h, h1, h2, h3, hs.wider hF⟩
theorem evT_now : Ty.Now evT := ⟨by decide, fun F w cs e ⟨v, h, h1, h2, h3, hs⟩ => ⟨v, h, h1, h2, h3, hs.now intT_now⟩⟩
/-- events that lie in the world -/
abbrev SE (w : World) (v : Value) (l : List Ev) : Prop := SL evT (fun k => k < w.heap.size) w v l
theorem se_step {w w' : World} {v : Value} {l : List Ev} (h : SE w v l) (hb : Below w.heap.size w w') : SE w' v l := h.step evT_now hb
/-- an event of the list: its cells -/
theorem SE.get {F : Nat → Prop} {w : World} {ad : Addr} {n cap : Nat} {l : List Ev} (h : SL evT F w (.slice (some ad) n cap) l) {i : Nat} {e : Ev} (hx : l[i]? = some e) :
    ∃ v, (∀ j u, [Value.int .i64 e.office, .int .i64 e.low, .int .i64 e.high, v][j]? = some u → w.cell? ((ad.add ((i : Int).toNat * 4)).add j) = some u) ∧ I64 e.office ∧ I64 e.low ∧ I64 e.high ∧ SL intT F w v e.needs := by
  obtain ⟨ad', cs, h1, _, ⟨v, rfl, g1, g2, g3, hs⟩, hc⟩ := h.at hx
  cases h1
  exact ⟨v, hc, g1, g2, g3, hs⟩
/-- the cells of a part of a block -/
theorem Blk.sub {w : World} {g : Nat} {t : TypeId} {cs : List Value} (h : Blk w g t cs) (k : Nat) (ds : List Value) (hk : cs.drop k = ds) : ∀ j v, ds[j]? = some v → w.cell? ((Addr.add ⟨g, 0, none⟩ k).add j) = some v := fun j v hj => by
  rw [Addr.add_add]
  refine h.fld ?_
  rw [← hk, List.getElem?_drop] at hj
  exact hj
/-- a value that stands for an event -/
def EvV (F : Nat → Prop) (w : World) (cs : List Value) (e : Ev) : Prop := evT.rep F w cs e
end Go.PF
