/- Texts of this claim, joined. -/
import Derived.Test.YtnjknkgomhmlfaaGreatDoorQA
set_option linter.unusedSimpArgs false
set_option linter.unusedVariables false
set_option maxRecDepth 100000
set_option maxHeartbeats 4000000
namespace Go.PF
open Go.RowKit
theorem wrap_fits {z : Int} (h : -9223372036854775808 ≤ z ∧ z ≤ 9223372036854775807) : IntKind.i64.wrap z = z := by
 rw [IntKind.wrap_i64]; omega
theorem setRow_new (w : World) (zs cs : Array Value) (t : TypeId) : (w.alloc (.cells zs t)).setRow w.heap.size cs = w.alloc (.cells cs t) := by
 have h3 : ((w.alloc (.cells zs t)).setRow w.heap.size cs).heap = w.heap.push (.cells cs t) := by
  unfold World.setRow
  have e : (w.alloc (.cells zs t)).heap = w.heap.push (.cells zs t) := rfl
  simp only [e]
  apply Array.ext
  ·simp
  ·intro i h1 h2
   simp only [Array.getElem_modify]
   by_cases hi : w.heap.size = i
   ·subst hi; simp
   ·have : i < w.heap.size := by simp at h1; omega
    simp [hi, Array.getElem_push_lt this]
 have h4 : (w.alloc (.cells zs t)).setRow w.heap.size cs = { w with heap := ((w.alloc (.cells zs t)).setRow w.heap.size cs).heap } := rfl
 rw [h4, h3]
 rfl
section
variable {P : Program} {r : Option Nat} {Q : Exit → Act → World → Prop} {N : Nat} {ds : List Deferred} {ops rest : List Oper} {E : Env} {D : DE} {w : World} {G : Option Bool} {Fin : DE → Prop} {md : Mode}
variable {d : Option Tmp} {ty : TypeId} {pos : String} {af : Array Edge} {gu : Option (Nat × Bool)}
variable {x y z : Operand} {cx cy cz : Option Bool} {ρ : Operand → Value}
def fieldOff (P : Program) (t : TypeId) (fi : Nat) : Option Nat := match P.underlying t with
 | some (.struct fs) => match fs[fi]? with
  | some f => match (P.info? f.type).map (·.size) with
   | some (_ + 1) => some f.offset
   | _ => none
  | none => none
 | _ => none
theorem run_fieldAt {t : TypeId} {fi off : Nat} {ad : Addr} (hf : fieldOff P t fi = some off) : (do let v ← Instr.fieldAt t (.pointer (some ad)) fi; pure (Next.value v) : Sem Next).run P w = .ok (.value (.pointer (some (ad.add off)))) w := by
 unfold fieldOff at hf
 split at hf
 ·rename_i fs hu
  split at hf
  ·rename_i f hfi
   split at hf
   ·rename_i sz hs
    simp only [Option.some.injEq] at hf
    subst hf
    simp [Instr.fieldAt, run_underlying hu, hfi, Instr.sureAddr, fieldPlace, run_sizeOf hs]
   ·cases hf
  ·cases hf
 ·cases hf
def fieldOf (P : Program) (t : TypeId) (fi : Nat) (cs : Array Value) : Option Value := match P.underlying t with
 | some (.struct fs) => match fs[fi]? with
  | some f => match one P f.type with
   | true => cs[f.offset]?
   | false => none
  | none => none
 | _ => none
theorem run_field {t : TypeId} {fi : Nat} {cs : Array Value} {v : Value} (hf : fieldOf P t fi cs = some v) : (do let v ← Instr.field t (.agg cs) fi; pure (Next.value v) : Sem Next).run P w = .ok (.value v) w := by
 unfold fieldOf at hf
 split at hf
 ·rename_i fs hu
  split at hf
  ·rename_i f hfi
   split at hf
   ·rename_i h1
    have h2 : (isAgg f.type).run P w = .ok false w := by
     unfold one at h1
     cases hu' : P.underlying f.type with
     | none => simp [hu'] at h1
     | some dsc => cases dsc <;> first | (simp [hu'] at h1; done) | simp [isAgg, run_underlying hu']
    simp [Instr.field, run_underlying hu, hfi, asAgg, part, h2, hf]
   ·cases hf
  ·cases hf
 ·cases hf
theorem X.lss {k : IntKind} {m n : Int} {t t' : TypeId}  (hx : ρ x = .int k m) (hy : ρ y = .int k n)  : (execOp ρ ⟨d, .binOp .lss t x y t', ty, pos, af, gu⟩).run P w = .ok (.value (.bool (decide (m < n)))) w := by simp only [execOp]; rw [hx, hy, eqGuard_lss, binOp_lss]; rfl
theorem TW.lss {k : IntKind} {m n : Int} {t t' : TypeId} (hg : gd ops E gu = some G) (hd : okDst N d = true)  (hx : ev E x = some (cx, .int k m)) (ix : Cnd G → Cnd cx) (hy : ev E y = some (cy, .int k n)) (iy : Cnd G → Cnd cy) 
  (next : TW P r Q N ds ops rest (ins E d G (.bool (decide (m < n)))) w) : TW P r Q N ds ops (⟨d, .binOp .lss t x y t', ty, pos, af, gu⟩ :: rest) E w :=
 TW.val hg hd rfl (fun hG _ ha => X.lss  (ha.eval hx (ix hG)) (ha.eval hy (iy hG)) ) next
theorem DW.lss {k : IntKind} {m n : Int} {t t' : TypeId} (hg : dgd ops D gu = some G) (hd : okDst N d = true)  (hx : dev D x = some (cx, .ex (.int k m))) (ix : Cnd G → Cnd cx) (hy : dev D y = some (cy, .ex (.int k n))) (iy : Cnd G → Cnd cy) 
  (next : DW P N ds md ops w Fin rest (dins D d G (.ex (.bool (decide (m < n)))))) : DW P N ds md ops w Fin (⟨d, .binOp .lss t x y t', ty, pos, af, gu⟩ :: rest) D :=
 DW.val hg hd rfl (fun hG _ _ _ ha => X.lss  (ha.eval (o := ⟨d, .binOp .lss t x y t', ty, pos, af, gu⟩) hx (by simp [Op.operands, Call.operands]) (ix hG)) (ha.eval (o := ⟨d, .binOp .lss t x y t', ty, pos, af, gu⟩) hy (by simp [Op.operands, Call.operands]) (iy hG)) ) next
theorem X.leq {k : IntKind} {m n : Int} {t t' : TypeId}  (hx : ρ x = .int k m) (hy : ρ y = .int k n)  : (execOp ρ ⟨d, .binOp .leq t x y t', ty, pos, af, gu⟩).run P w = .ok (.value (.bool (decide (m ≤ n)))) w := by simp only [execOp]; rw [hx, hy, eqGuard_leq, binOp_leq]; rfl
theorem TW.leq {k : IntKind} {m n : Int} {t t' : TypeId} (hg : gd ops E gu = some G) (hd : okDst N d = true)  (hx : ev E x = some (cx, .int k m)) (ix : Cnd G → Cnd cx) (hy : ev E y = some (cy, .int k n)) (iy : Cnd G → Cnd cy) 
  (next : TW P r Q N ds ops rest (ins E d G (.bool (decide (m ≤ n)))) w) : TW P r Q N ds ops (⟨d, .binOp .leq t x y t', ty, pos, af, gu⟩ :: rest) E w :=
 TW.val hg hd rfl (fun hG _ ha => X.leq  (ha.eval hx (ix hG)) (ha.eval hy (iy hG)) ) next
theorem DW.leq {k : IntKind} {m n : Int} {t t' : TypeId} (hg : dgd ops D gu = some G) (hd : okDst N d = true)  (hx : dev D x = some (cx, .ex (.int k m))) (ix : Cnd G → Cnd cx) (hy : dev D y = some (cy, .ex (.int k n))) (iy : Cnd G → Cnd cy) 
  (next : DW P N ds md ops w Fin rest (dins D d G (.ex (.bool (decide (m ≤ n)))))) : DW P N ds md ops w Fin (⟨d, .binOp .leq t x y t', ty, pos, af, gu⟩ :: rest) D :=
 DW.val hg hd rfl (fun hG _ _ _ ha => X.leq  (ha.eval (o := ⟨d, .binOp .leq t x y t', ty, pos, af, gu⟩) hx (by simp [Op.operands, Call.operands]) (ix hG)) (ha.eval (o := ⟨d, .binOp .leq t x y t', ty, pos, af, gu⟩) hy (by simp [Op.operands, Call.operands]) (iy hG)) ) next
theorem X.gtr {k : IntKind} {m n : Int} {t t' : TypeId}  (hx : ρ x = .int k m) (hy : ρ y = .int k n)  : (execOp ρ ⟨d, .binOp .gtr t x y t', ty, pos, af, gu⟩).run P w = .ok (.value (.bool (decide (n < m)))) w := by simp only [execOp]; rw [hx, hy, eqGuard_gtr, binOp_gtr]; rfl
theorem TW.gtr {k : IntKind} {m n : Int} {t t' : TypeId} (hg : gd ops E gu = some G) (hd : okDst N d = true)  (hx : ev E x = some (cx, .int k m)) (ix : Cnd G → Cnd cx) (hy : ev E y = some (cy, .int k n)) (iy : Cnd G → Cnd cy) 
  (next : TW P r Q N ds ops rest (ins E d G (.bool (decide (n < m)))) w) : TW P r Q N ds ops (⟨d, .binOp .gtr t x y t', ty, pos, af, gu⟩ :: rest) E w :=
 TW.val hg hd rfl (fun hG _ ha => X.gtr  (ha.eval hx (ix hG)) (ha.eval hy (iy hG)) ) next
theorem DW.gtr {k : IntKind} {m n : Int} {t t' : TypeId} (hg : dgd ops D gu = some G) (hd : okDst N d = true)  (hx : dev D x = some (cx, .ex (.int k m))) (ix : Cnd G → Cnd cx) (hy : dev D y = some (cy, .ex (.int k n))) (iy : Cnd G → Cnd cy) 
  (next : DW P N ds md ops w Fin rest (dins D d G (.ex (.bool (decide (n < m)))))) : DW P N ds md ops w Fin (⟨d, .binOp .gtr t x y t', ty, pos, af, gu⟩ :: rest) D :=
 DW.val hg hd rfl (fun hG _ _ _ ha => X.gtr  (ha.eval (o := ⟨d, .binOp .gtr t x y t', ty, pos, af, gu⟩) hx (by simp [Op.operands, Call.operands]) (ix hG)) (ha.eval (o := ⟨d, .binOp .gtr t x y t', ty, pos, af, gu⟩) hy (by simp [Op.operands, Call.operands]) (iy hG)) ) next
theorem X.geq {k : IntKind} {m n : Int} {t t' : TypeId}  (hx : ρ x = .int k m) (hy : ρ y = .int k n)  : (execOp ρ ⟨d, .binOp .geq t x y t', ty, pos, af, gu⟩).run P w = .ok (.value (.bool (decide (n ≤ m)))) w := by simp only [execOp]; rw [hx, hy, eqGuard_geq, binOp_geq]; rfl
theorem TW.geq {k : IntKind} {m n : Int} {t t' : TypeId} (hg : gd ops E gu = some G) (hd : okDst N d = true)  (hx : ev E x = some (cx, .int k m)) (ix : Cnd G → Cnd cx) (hy : ev E y = some (cy, .int k n)) (iy : Cnd G → Cnd cy) 
  (next : TW P r Q N ds ops rest (ins E d G (.bool (decide (n ≤ m)))) w) : TW P r Q N ds ops (⟨d, .binOp .geq t x y t', ty, pos, af, gu⟩ :: rest) E w :=
 TW.val hg hd rfl (fun hG _ ha => X.geq  (ha.eval hx (ix hG)) (ha.eval hy (iy hG)) ) next
theorem DW.geq {k : IntKind} {m n : Int} {t t' : TypeId} (hg : dgd ops D gu = some G) (hd : okDst N d = true)  (hx : dev D x = some (cx, .ex (.int k m))) (ix : Cnd G → Cnd cx) (hy : dev D y = some (cy, .ex (.int k n))) (iy : Cnd G → Cnd cy) 
  (next : DW P N ds md ops w Fin rest (dins D d G (.ex (.bool (decide (n ≤ m)))))) : DW P N ds md ops w Fin (⟨d, .binOp .geq t x y t', ty, pos, af, gu⟩ :: rest) D :=
 DW.val hg hd rfl (fun hG _ _ _ ha => X.geq  (ha.eval (o := ⟨d, .binOp .geq t x y t', ty, pos, af, gu⟩) hx (by simp [Op.operands, Call.operands]) (ix hG)) (ha.eval (o := ⟨d, .binOp .geq t x y t', ty, pos, af, gu⟩) hy (by simp [Op.operands, Call.operands]) (iy hG)) ) next
theorem X.eql {k : IntKind} {m n : Int} {t t' : TypeId}  (hx : ρ x = .int k m) (hy : ρ y = .int k n)  : (execOp ρ ⟨d, .binOp .eql t x y t', ty, pos, af, gu⟩).run P w = .ok (.value (.bool (decide (m = n)))) w := by simp only [execOp]; rw [hx, hy, eqGuard_at_int, binOp_eql]; rfl
theorem TW.eql {k : IntKind} {m n : Int} {t t' : TypeId} (hg : gd ops E gu = some G) (hd : okDst N d = true)  (hx : ev E x = some (cx, .int k m)) (ix : Cnd G → Cnd cx) (hy : ev E y = some (cy, .int k n)) (iy : Cnd G → Cnd cy) 
  (next : TW P r Q N ds ops rest (ins E d G (.bool (decide (m = n)))) w) : TW P r Q N ds ops (⟨d, .binOp .eql t x y t', ty, pos, af, gu⟩ :: rest) E w :=
 TW.val hg hd rfl (fun hG _ ha => X.eql  (ha.eval hx (ix hG)) (ha.eval hy (iy hG)) ) next
theorem DW.eql {k : IntKind} {m n : Int} {t t' : TypeId} (hg : dgd ops D gu = some G) (hd : okDst N d = true)  (hx : dev D x = some (cx, .ex (.int k m))) (ix : Cnd G → Cnd cx) (hy : dev D y = some (cy, .ex (.int k n))) (iy : Cnd G → Cnd cy) 
  (next : DW P N ds md ops w Fin rest (dins D d G (.ex (.bool (decide (m = n)))))) : DW P N ds md ops w Fin (⟨d, .binOp .eql t x y t', ty, pos, af, gu⟩ :: rest) D :=
 DW.val hg hd rfl (fun hG _ _ _ ha => X.eql  (ha.eval (o := ⟨d, .binOp .eql t x y t', ty, pos, af, gu⟩) hx (by simp [Op.operands, Call.operands]) (ix hG)) (ha.eval (o := ⟨d, .binOp .eql t x y t', ty, pos, af, gu⟩) hy (by simp [Op.operands, Call.operands]) (iy hG)) ) next
theorem X.neq {k : IntKind} {m n : Int} {t t' : TypeId}  (hx : ρ x = .int k m) (hy : ρ y = .int k n)  : (execOp ρ ⟨d, .binOp .neq t x y t', ty, pos, af, gu⟩).run P w = .ok (.value (.bool (decide (m ≠ n)))) w := by 
  simp only [execOp]; rw [hx, hy, eqGuard_at_int, binOp_neq]
  have e : (m != n) = decide (m ≠ n) := by by_cases h : m = n <;> simp [h]
  rw [e]; rfl
theorem TW.neq {k : IntKind} {m n : Int} {t t' : TypeId} (hg : gd ops E gu = some G) (hd : okDst N d = true)  (hx : ev E x = some (cx, .int k m)) (ix : Cnd G → Cnd cx) (hy : ev E y = some (cy, .int k n)) (iy : Cnd G → Cnd cy) 
  (next : TW P r Q N ds ops rest (ins E d G (.bool (decide (m ≠ n)))) w) : TW P r Q N ds ops (⟨d, .binOp .neq t x y t', ty, pos, af, gu⟩ :: rest) E w :=
 TW.val hg hd rfl (fun hG _ ha => X.neq  (ha.eval hx (ix hG)) (ha.eval hy (iy hG)) ) next
theorem DW.neq {k : IntKind} {m n : Int} {t t' : TypeId} (hg : dgd ops D gu = some G) (hd : okDst N d = true)  (hx : dev D x = some (cx, .ex (.int k m))) (ix : Cnd G → Cnd cx) (hy : dev D y = some (cy, .ex (.int k n))) (iy : Cnd G → Cnd cy) 
  (next : DW P N ds md ops w Fin rest (dins D d G (.ex (.bool (decide (m ≠ n)))))) : DW P N ds md ops w Fin (⟨d, .binOp .neq t x y t', ty, pos, af, gu⟩ :: rest) D :=
 DW.val hg hd rfl (fun hG _ _ _ ha => X.neq  (ha.eval (o := ⟨d, .binOp .neq t x y t', ty, pos, af, gu⟩) hx (by simp [Op.operands, Call.operands]) (ix hG)) (ha.eval (o := ⟨d, .binOp .neq t x y t', ty, pos, af, gu⟩) hy (by simp [Op.operands, Call.operands]) (iy hG)) ) next
theorem X.add {m n : Int} {t t' : TypeId}  (hx : ρ x = .int .i64 m) (hy : ρ y = .int .i64 n) (hb : -9223372036854775808 ≤ m + n ∧ m + n ≤ 9223372036854775807) : (execOp ρ ⟨d, .binOp .add t x y t', ty, pos, af, gu⟩).run P w = .ok (.value (.int .i64 (m + n))) w := by 
  simp only [execOp]; rw [hx, hy, eqGuard_add, binOp_add]
  show Result.ok (Next.value (Value.int .i64 (IntKind.i64.wrap (m + n)))) w = _
  rw [wrap_fits hb]
theorem TW.add {m n : Int} {t t' : TypeId} (hg : gd ops E gu = some G) (hd : okDst N d = true)  (hx : ev E x = some (cx, .int .i64 m)) (ix : Cnd G → Cnd cx) (hy : ev E y = some (cy, .int .i64 n)) (iy : Cnd G → Cnd cy) (hb : Cnd G → -9223372036854775808 ≤ m + n ∧ m + n ≤ 9223372036854775807)
  (next : TW P r Q N ds ops rest (ins E d G (.int .i64 (m + n))) w) : TW P r Q N ds ops (⟨d, .binOp .add t x y t', ty, pos, af, gu⟩ :: rest) E w :=
 TW.val hg hd rfl (fun hG _ ha => X.add  (ha.eval hx (ix hG)) (ha.eval hy (iy hG)) (hb hG)) next
theorem DW.add {m n : Int} {t t' : TypeId} (hg : dgd ops D gu = some G) (hd : okDst N d = true)  (hx : dev D x = some (cx, .ex (.int .i64 m))) (ix : Cnd G → Cnd cx) (hy : dev D y = some (cy, .ex (.int .i64 n))) (iy : Cnd G → Cnd cy) (hb : Cnd G → -9223372036854775808 ≤ m + n ∧ m + n ≤ 9223372036854775807)
  (next : DW P N ds md ops w Fin rest (dins D d G (.ex (.int .i64 (m + n))))) : DW P N ds md ops w Fin (⟨d, .binOp .add t x y t', ty, pos, af, gu⟩ :: rest) D :=
 DW.val hg hd rfl (fun hG _ _ _ ha => X.add  (ha.eval (o := ⟨d, .binOp .add t x y t', ty, pos, af, gu⟩) hx (by simp [Op.operands, Call.operands]) (ix hG)) (ha.eval (o := ⟨d, .binOp .add t x y t', ty, pos, af, gu⟩) hy (by simp [Op.operands, Call.operands]) (iy hG)) (hb hG)) next
theorem X.sub {m n : Int} {t t' : TypeId}  (hx : ρ x = .int .i64 m) (hy : ρ y = .int .i64 n) (hb : -9223372036854775808 ≤ m - n ∧ m - n ≤ 9223372036854775807) : (execOp ρ ⟨d, .binOp .sub t x y t', ty, pos, af, gu⟩).run P w = .ok (.value (.int .i64 (m - n))) w := by 
  simp only [execOp]; rw [hx, hy, eqGuard_sub, binOp_sub]
  show Result.ok (Next.value (Value.int .i64 (IntKind.i64.wrap (m - n)))) w = _
  rw [wrap_fits hb]
theorem TW.sub {m n : Int} {t t' : TypeId} (hg : gd ops E gu = some G) (hd : okDst N d = true)  (hx : ev E x = some (cx, .int .i64 m)) (ix : Cnd G → Cnd cx) (hy : ev E y = some (cy, .int .i64 n)) (iy : Cnd G → Cnd cy) (hb : Cnd G → -9223372036854775808 ≤ m - n ∧ m - n ≤ 9223372036854775807)
  (next : TW P r Q N ds ops rest (ins E d G (.int .i64 (m - n))) w) : TW P r Q N ds ops (⟨d, .binOp .sub t x y t', ty, pos, af, gu⟩ :: rest) E w :=
 TW.val hg hd rfl (fun hG _ ha => X.sub  (ha.eval hx (ix hG)) (ha.eval hy (iy hG)) (hb hG)) next
theorem DW.sub {m n : Int} {t t' : TypeId} (hg : dgd ops D gu = some G) (hd : okDst N d = true)  (hx : dev D x = some (cx, .ex (.int .i64 m))) (ix : Cnd G → Cnd cx) (hy : dev D y = some (cy, .ex (.int .i64 n))) (iy : Cnd G → Cnd cy) (hb : Cnd G → -9223372036854775808 ≤ m - n ∧ m - n ≤ 9223372036854775807)
  (next : DW P N ds md ops w Fin rest (dins D d G (.ex (.int .i64 (m - n))))) : DW P N ds md ops w Fin (⟨d, .binOp .sub t x y t', ty, pos, af, gu⟩ :: rest) D :=
 DW.val hg hd rfl (fun hG _ _ _ ha => X.sub  (ha.eval (o := ⟨d, .binOp .sub t x y t', ty, pos, af, gu⟩) hx (by simp [Op.operands, Call.operands]) (ix hG)) (ha.eval (o := ⟨d, .binOp .sub t x y t', ty, pos, af, gu⟩) hy (by simp [Op.operands, Call.operands]) (iy hG)) (hb hG)) next
theorem X.mul {m n : Int} {t t' : TypeId}  (hx : ρ x = .int .i64 m) (hy : ρ y = .int .i64 n) (hb : -9223372036854775808 ≤ m * n ∧ m * n ≤ 9223372036854775807) : (execOp ρ ⟨d, .binOp .mul t x y t', ty, pos, af, gu⟩).run P w = .ok (.value (.int .i64 (m * n))) w := by 
  simp only [execOp]; rw [hx, hy, eqGuard_mul, binOp_mul]
  show Result.ok (Next.value (Value.int .i64 (IntKind.i64.wrap (m * n)))) w = _
  rw [wrap_fits hb]
theorem TW.mul {m n : Int} {t t' : TypeId} (hg : gd ops E gu = some G) (hd : okDst N d = true)  (hx : ev E x = some (cx, .int .i64 m)) (ix : Cnd G → Cnd cx) (hy : ev E y = some (cy, .int .i64 n)) (iy : Cnd G → Cnd cy) (hb : Cnd G → -9223372036854775808 ≤ m * n ∧ m * n ≤ 9223372036854775807)
  (next : TW P r Q N ds ops rest (ins E d G (.int .i64 (m * n))) w) : TW P r Q N ds ops (⟨d, .binOp .mul t x y t', ty, pos, af, gu⟩ :: rest) E w :=
 TW.val hg hd rfl (fun hG _ ha => X.mul  (ha.eval hx (ix hG)) (ha.eval hy (iy hG)) (hb hG)) next
theorem DW.mul {m n : Int} {t t' : TypeId} (hg : dgd ops D gu = some G) (hd : okDst N d = true)  (hx : dev D x = some (cx, .ex (.int .i64 m))) (ix : Cnd G → Cnd cx) (hy : dev D y = some (cy, .ex (.int .i64 n))) (iy : Cnd G → Cnd cy) (hb : Cnd G → -9223372036854775808 ≤ m * n ∧ m * n ≤ 9223372036854775807)
  (next : DW P N ds md ops w Fin rest (dins D d G (.ex (.int .i64 (m * n))))) : DW P N ds md ops w Fin (⟨d, .binOp .mul t x y t', ty, pos, af, gu⟩ :: rest) D :=
 DW.val hg hd rfl (fun hG _ _ _ ha => X.mul  (ha.eval (o := ⟨d, .binOp .mul t x y t', ty, pos, af, gu⟩) hx (by simp [Op.operands, Call.operands]) (ix hG)) (ha.eval (o := ⟨d, .binOp .mul t x y t', ty, pos, af, gu⟩) hy (by simp [Op.operands, Call.operands]) (iy hG)) (hb hG)) next
theorem X.rem {m n : Int} {t t' : TypeId}  (hx : ρ x = .int .i64 m) (hy : ρ y = .int .i64 n) (hb : 0 ≤ m ∧ 1 ≤ n ∧ n ≤ 9223372036854775807) : (execOp ρ ⟨d, .binOp .rem t x y t', ty, pos, af, gu⟩).run P w = .ok (.value (.int .i64 (m % n))) w := by 
  simp only [execOp]; rw [hx, hy, eqGuard_rem, binOp_rem]
  have e : m.tmod n = m % n := Int.tmod_eq_emod_of_nonneg hb.1
  have h0 : n ≠ 0 := by omega
  have h1 := Int.emod_nonneg m h0
  have h2 := Int.emod_lt_of_pos m (show 0 < n by omega)
  have h3 := hb.2.2
  simp [Op.intDiv, h0, e, wrap_fits (z := m % n) (by omega)]
theorem TW.rem {m n : Int} {t t' : TypeId} (hg : gd ops E gu = some G) (hd : okDst N d = true)  (hx : ev E x = some (cx, .int .i64 m)) (ix : Cnd G → Cnd cx) (hy : ev E y = some (cy, .int .i64 n)) (iy : Cnd G → Cnd cy) (hb : Cnd G → 0 ≤ m ∧ 1 ≤ n ∧ n ≤ 9223372036854775807)
  (next : TW P r Q N ds ops rest (ins E d G (.int .i64 (m % n))) w) : TW P r Q N ds ops (⟨d, .binOp .rem t x y t', ty, pos, af, gu⟩ :: rest) E w :=
 TW.val hg hd rfl (fun hG _ ha => X.rem  (ha.eval hx (ix hG)) (ha.eval hy (iy hG)) (hb hG)) next
theorem DW.rem {m n : Int} {t t' : TypeId} (hg : dgd ops D gu = some G) (hd : okDst N d = true)  (hx : dev D x = some (cx, .ex (.int .i64 m))) (ix : Cnd G → Cnd cx) (hy : dev D y = some (cy, .ex (.int .i64 n))) (iy : Cnd G → Cnd cy) (hb : Cnd G → 0 ≤ m ∧ 1 ≤ n ∧ n ≤ 9223372036854775807)
  (next : DW P N ds md ops w Fin rest (dins D d G (.ex (.int .i64 (m % n))))) : DW P N ds md ops w Fin (⟨d, .binOp .rem t x y t', ty, pos, af, gu⟩ :: rest) D :=
 DW.val hg hd rfl (fun hG _ _ _ ha => X.rem  (ha.eval (o := ⟨d, .binOp .rem t x y t', ty, pos, af, gu⟩) hx (by simp [Op.operands, Call.operands]) (ix hG)) (ha.eval (o := ⟨d, .binOp .rem t x y t', ty, pos, af, gu⟩) hy (by simp [Op.operands, Call.operands]) (iy hG)) (hb hG)) next
theorem X.quo {m n : Int} {t t' : TypeId}  (hx : ρ x = .int .i64 m) (hy : ρ y = .int .i64 n) (hb : 0 ≤ m ∧ 1 ≤ n ∧ m ≤ 9223372036854775807) : (execOp ρ ⟨d, .binOp .quo t x y t', ty, pos, af, gu⟩).run P w = .ok (.value (.int .i64 (m / n))) w := by 
  simp only [execOp]; rw [hx, hy, eqGuard_quo, binOp_quo]
  have e : m.tdiv n = m / n := Int.tdiv_eq_ediv_of_nonneg hb.1
  have h0 : n ≠ 0 := by omega
  have h1 := Int.ediv_nonneg hb.1 (show 0 ≤ n by omega)
  have h2 := Int.ediv_le_self n hb.1
  have h3 := hb.2.2
  simp [Op.intDiv, h0, e, wrap_fits (z := m / n) (by omega)]
theorem TW.quo {m n : Int} {t t' : TypeId} (hg : gd ops E gu = some G) (hd : okDst N d = true)  (hx : ev E x = some (cx, .int .i64 m)) (ix : Cnd G → Cnd cx) (hy : ev E y = some (cy, .int .i64 n)) (iy : Cnd G → Cnd cy) (hb : Cnd G → 0 ≤ m ∧ 1 ≤ n ∧ m ≤ 9223372036854775807)
  (next : TW P r Q N ds ops rest (ins E d G (.int .i64 (m / n))) w) : TW P r Q N ds ops (⟨d, .binOp .quo t x y t', ty, pos, af, gu⟩ :: rest) E w :=
 TW.val hg hd rfl (fun hG _ ha => X.quo  (ha.eval hx (ix hG)) (ha.eval hy (iy hG)) (hb hG)) next
theorem DW.quo {m n : Int} {t t' : TypeId} (hg : dgd ops D gu = some G) (hd : okDst N d = true)  (hx : dev D x = some (cx, .ex (.int .i64 m))) (ix : Cnd G → Cnd cx) (hy : dev D y = some (cy, .ex (.int .i64 n))) (iy : Cnd G → Cnd cy) (hb : Cnd G → 0 ≤ m ∧ 1 ≤ n ∧ m ≤ 9223372036854775807)
  (next : DW P N ds md ops w Fin rest (dins D d G (.ex (.int .i64 (m / n))))) : DW P N ds md ops w Fin (⟨d, .binOp .quo t x y t', ty, pos, af, gu⟩ :: rest) D :=
 DW.val hg hd rfl (fun hG _ _ _ ha => X.quo  (ha.eval (o := ⟨d, .binOp .quo t x y t', ty, pos, af, gu⟩) hx (by simp [Op.operands, Call.operands]) (ix hG)) (ha.eval (o := ⟨d, .binOp .quo t x y t', ty, pos, af, gu⟩) hy (by simp [Op.operands, Call.operands]) (iy hG)) (hb hG)) next
theorem X.not {b : Bool} {t : TypeId}  (hx : ρ x = .bool b)  : (execOp ρ ⟨d, .unOp .not t x, ty, pos, af, gu⟩).run P w = .ok (.value (.bool (!b))) w := by simp only [execOp]; rw [hx]; rfl
theorem TW.not {b : Bool} {t : TypeId} (hg : gd ops E gu = some G) (hd : okDst N d = true)  (hx : ev E x = some (cx, .bool b)) (ix : Cnd G → Cnd cx) 
  (next : TW P r Q N ds ops rest (ins E d G (.bool (!b))) w) : TW P r Q N ds ops (⟨d, .unOp .not t x, ty, pos, af, gu⟩ :: rest) E w :=
 TW.val hg hd rfl (fun hG _ ha => X.not  (ha.eval hx (ix hG)) ) next
theorem DW.not {b : Bool} {t : TypeId} (hg : dgd ops D gu = some G) (hd : okDst N d = true)  (hx : dev D x = some (cx, .ex (.bool b))) (ix : Cnd G → Cnd cx) 
  (next : DW P N ds md ops w Fin rest (dins D d G (.ex (.bool (!b))))) : DW P N ds md ops w Fin (⟨d, .unOp .not t x, ty, pos, af, gu⟩ :: rest) D :=
 DW.val hg hd rfl (fun hG _ _ _ ha => X.not  (ha.eval (o := ⟨d, .unOp .not t x, ty, pos, af, gu⟩) hx (by simp [Op.operands, Call.operands]) (ix hG)) ) next
theorem X.eqlB {b b' : Bool} {t t' : TypeId} (ht : P.underlying t = some .bool) (hx : ρ x = .bool b) (hy : ρ y = .bool b')  : (execOp ρ ⟨d, .binOp .eql t x y t', ty, pos, af, gu⟩).run P w = .ok (.value (.bool (b == b'))) w := by simp only [execOp]; rw [hx, hy, eqGuard_at_bool]; simp [run_eql_bool w t b b' ht]
theorem TW.eqlB {b b' : Bool} {t t' : TypeId} (hg : gd ops E gu = some G) (hd : okDst N d = true) (ht : P.underlying t = some .bool) (hx : ev E x = some (cx, .bool b)) (ix : Cnd G → Cnd cx) (hy : ev E y = some (cy, .bool b')) (iy : Cnd G → Cnd cy) 
  (next : TW P r Q N ds ops rest (ins E d G (.bool (b == b'))) w) : TW P r Q N ds ops (⟨d, .binOp .eql t x y t', ty, pos, af, gu⟩ :: rest) E w :=
 TW.val hg hd rfl (fun hG _ ha => X.eqlB ht (ha.eval hx (ix hG)) (ha.eval hy (iy hG)) ) next
theorem DW.eqlB {b b' : Bool} {t t' : TypeId} (hg : dgd ops D gu = some G) (hd : okDst N d = true) (ht : P.underlying t = some .bool) (hx : dev D x = some (cx, .ex (.bool b))) (ix : Cnd G → Cnd cx) (hy : dev D y = some (cy, .ex (.bool b'))) (iy : Cnd G → Cnd cy) 
  (next : DW P N ds md ops w Fin rest (dins D d G (.ex (.bool (b == b'))))) : DW P N ds md ops w Fin (⟨d, .binOp .eql t x y t', ty, pos, af, gu⟩ :: rest) D :=
 DW.val hg hd rfl (fun hG _ _ _ ha => X.eqlB ht (ha.eval (o := ⟨d, .binOp .eql t x y t', ty, pos, af, gu⟩) hx (by simp [Op.operands, Call.operands]) (ix hG)) (ha.eval (o := ⟨d, .binOp .eql t x y t', ty, pos, af, gu⟩) hy (by simp [Op.operands, Call.operands]) (iy hG)) ) next
theorem X.neqB {b b' : Bool} {t t' : TypeId} (ht : P.underlying t = some .bool) (hx : ρ x = .bool b) (hy : ρ y = .bool b')  : (execOp ρ ⟨d, .binOp .neq t x y t', ty, pos, af, gu⟩).run P w = .ok (.value (.bool (!(b == b')))) w := by simp only [execOp]; rw [hx, hy, eqGuard_at_bool]; simp [run_neq_bool w t b b' ht]
theorem TW.neqB {b b' : Bool} {t t' : TypeId} (hg : gd ops E gu = some G) (hd : okDst N d = true) (ht : P.underlying t = some .bool) (hx : ev E x = some (cx, .bool b)) (ix : Cnd G → Cnd cx) (hy : ev E y = some (cy, .bool b')) (iy : Cnd G → Cnd cy) 
  (next : TW P r Q N ds ops rest (ins E d G (.bool (!(b == b')))) w) : TW P r Q N ds ops (⟨d, .binOp .neq t x y t', ty, pos, af, gu⟩ :: rest) E w :=
 TW.val hg hd rfl (fun hG _ ha => X.neqB ht (ha.eval hx (ix hG)) (ha.eval hy (iy hG)) ) next
theorem DW.neqB {b b' : Bool} {t t' : TypeId} (hg : dgd ops D gu = some G) (hd : okDst N d = true) (ht : P.underlying t = some .bool) (hx : dev D x = some (cx, .ex (.bool b))) (ix : Cnd G → Cnd cx) (hy : dev D y = some (cy, .ex (.bool b'))) (iy : Cnd G → Cnd cy) 
  (next : DW P N ds md ops w Fin rest (dins D d G (.ex (.bool (!(b == b')))))) : DW P N ds md ops w Fin (⟨d, .binOp .neq t x y t', ty, pos, af, gu⟩ :: rest) D :=
 DW.val hg hd rfl (fun hG _ _ _ ha => X.neqB ht (ha.eval (o := ⟨d, .binOp .neq t x y t', ty, pos, af, gu⟩) hx (by simp [Op.operands, Call.operands]) (ix hG)) (ha.eval (o := ⟨d, .binOp .neq t x y t', ty, pos, af, gu⟩) hy (by simp [Op.operands, Call.operands]) (iy hG)) ) next
theorem X.eqlS {s s' : ByteArray} {t t' : TypeId}  (hx : ρ x = .string s) (hy : ρ y = .string s')  : (execOp ρ ⟨d, .binOp .eql t x y t', ty, pos, af, gu⟩).run P w = .ok (.value (.bool (s.toList == s'.toList))) w := by simp only [execOp]; rw [hx, hy, eqGuard_at_string, binOp_string_eql]; rfl
theorem TW.eqlS {s s' : ByteArray} {t t' : TypeId} (hg : gd ops E gu = some G) (hd : okDst N d = true)  (hx : ev E x = some (cx, .string s)) (ix : Cnd G → Cnd cx) (hy : ev E y = some (cy, .string s')) (iy : Cnd G → Cnd cy) 
  (next : TW P r Q N ds ops rest (ins E d G (.bool (s.toList == s'.toList))) w) : TW P r Q N ds ops (⟨d, .binOp .eql t x y t', ty, pos, af, gu⟩ :: rest) E w :=
 TW.val hg hd rfl (fun hG _ ha => X.eqlS  (ha.eval hx (ix hG)) (ha.eval hy (iy hG)) ) next
theorem DW.eqlS {s s' : ByteArray} {t t' : TypeId} (hg : dgd ops D gu = some G) (hd : okDst N d = true)  (hx : dev D x = some (cx, .ex (.string s))) (ix : Cnd G → Cnd cx) (hy : dev D y = some (cy, .ex (.string s'))) (iy : Cnd G → Cnd cy) 
  (next : DW P N ds md ops w Fin rest (dins D d G (.ex (.bool (s.toList == s'.toList))))) : DW P N ds md ops w Fin (⟨d, .binOp .eql t x y t', ty, pos, af, gu⟩ :: rest) D :=
 DW.val hg hd rfl (fun hG _ _ _ ha => X.eqlS  (ha.eval (o := ⟨d, .binOp .eql t x y t', ty, pos, af, gu⟩) hx (by simp [Op.operands, Call.operands]) (ix hG)) (ha.eval (o := ⟨d, .binOp .eql t x y t', ty, pos, af, gu⟩) hy (by simp [Op.operands, Call.operands]) (iy hG)) ) next
theorem X.neqS {s s' : ByteArray} {t t' : TypeId}  (hx : ρ x = .string s) (hy : ρ y = .string s')  : (execOp ρ ⟨d, .binOp .neq t x y t', ty, pos, af, gu⟩).run P w = .ok (.value (.bool (!(s.toList == s'.toList)))) w := by simp only [execOp]; rw [hx, hy, eqGuard_at_string, binOp_string_neq]; rfl
theorem TW.neqS {s s' : ByteArray} {t t' : TypeId} (hg : gd ops E gu = some G) (hd : okDst N d = true)  (hx : ev E x = some (cx, .string s)) (ix : Cnd G → Cnd cx) (hy : ev E y = some (cy, .string s')) (iy : Cnd G → Cnd cy) 
  (next : TW P r Q N ds ops rest (ins E d G (.bool (!(s.toList == s'.toList)))) w) : TW P r Q N ds ops (⟨d, .binOp .neq t x y t', ty, pos, af, gu⟩ :: rest) E w :=
 TW.val hg hd rfl (fun hG _ ha => X.neqS  (ha.eval hx (ix hG)) (ha.eval hy (iy hG)) ) next
theorem DW.neqS {s s' : ByteArray} {t t' : TypeId} (hg : dgd ops D gu = some G) (hd : okDst N d = true)  (hx : dev D x = some (cx, .ex (.string s))) (ix : Cnd G → Cnd cx) (hy : dev D y = some (cy, .ex (.string s'))) (iy : Cnd G → Cnd cy) 
  (next : DW P N ds md ops w Fin rest (dins D d G (.ex (.bool (!(s.toList == s'.toList)))))) : DW P N ds md ops w Fin (⟨d, .binOp .neq t x y t', ty, pos, af, gu⟩ :: rest) D :=
 DW.val hg hd rfl (fun hG _ _ _ ha => X.neqS  (ha.eval (o := ⟨d, .binOp .neq t x y t', ty, pos, af, gu⟩) hx (by simp [Op.operands, Call.operands]) (ix hG)) (ha.eval (o := ⟨d, .binOp .neq t x y t', ty, pos, af, gu⟩) hy (by simp [Op.operands, Call.operands]) (iy hG)) ) next
theorem X.conv {k k' : IntKind} {m : Int} {t t' : TypeId} (hs : (P.underlying t).isSome = true) (hd' : P.underlying t' = some (.int k')) (hx : ρ x = .int k m)  : (execOp ρ ⟨d, .convert t t' x, ty, pos, af, gu⟩).run P w = .ok (.value (.int k' (k'.wrap m))) w := by 
  have hk : P.intKind t' = k' := by simp [Program.intKind, hd']
  have h := run_convert_int (P := P) w t t' k m hs (by rw [hk]; exact hd')
  rw [hk] at h
  simp only [execOp]; rw [hx]; simp [h]
theorem TW.conv {k k' : IntKind} {m : Int} {t t' : TypeId} (hg : gd ops E gu = some G) (hd : okDst N d = true) (hs : (P.underlying t).isSome = true) (hd' : P.underlying t' = some (.int k')) (hx : ev E x = some (cx, .int k m)) (ix : Cnd G → Cnd cx) 
  (next : TW P r Q N ds ops rest (ins E d G (.int k' (k'.wrap m))) w) : TW P r Q N ds ops (⟨d, .convert t t' x, ty, pos, af, gu⟩ :: rest) E w :=
 TW.val hg hd rfl (fun hG _ ha => X.conv hs hd' (ha.eval hx (ix hG)) ) next
theorem DW.conv {k k' : IntKind} {m : Int} {t t' : TypeId} (hg : dgd ops D gu = some G) (hd : okDst N d = true) (hs : (P.underlying t).isSome = true) (hd' : P.underlying t' = some (.int k')) (hx : dev D x = some (cx, .ex (.int k m))) (ix : Cnd G → Cnd cx) 
  (next : DW P N ds md ops w Fin rest (dins D d G (.ex (.int k' (k'.wrap m))))) : DW P N ds md ops w Fin (⟨d, .convert t t' x, ty, pos, af, gu⟩ :: rest) D :=
 DW.val hg hd rfl (fun hG _ _ _ ha => X.conv hs hd' (ha.eval (o := ⟨d, .convert t t' x, ty, pos, af, gu⟩) hx (by simp [Op.operands, Call.operands]) (ix hG)) ) next
theorem X.lenSlice {A : Option Addr} {l c : Nat} {t e : TypeId} (ht : P.underlying t = some (.slice e)) (hx : ρ x = .slice A l c)  : (execOp ρ ⟨d, .call ⟨.builtin .len, #[x], #[t]⟩, ty, pos, af, gu⟩).run P w = .ok (.value (.int .i64 (l : Int))) w := by simp [execOp, resolve, invoke, builtin, hx, Builtin.len_, run_underlying ht, goInt]
theorem TW.lenSlice {A : Option Addr} {l c : Nat} {t e : TypeId} (hg : gd ops E gu = some G) (hd : okDst N d = true) (ht : P.underlying t = some (.slice e)) (hx : ev E x = some (cx, .slice A l c)) (ix : Cnd G → Cnd cx) 
  (next : TW P r Q N ds ops rest (ins E d G (.int .i64 (l : Int))) w) : TW P r Q N ds ops (⟨d, .call ⟨.builtin .len, #[x], #[t]⟩, ty, pos, af, gu⟩ :: rest) E w :=
 TW.val hg hd rfl (fun hG _ ha => X.lenSlice ht (ha.eval hx (ix hG)) ) next
theorem DW.lenSlice {A : Option Addr} {l c : Nat} {t e : TypeId} (hg : dgd ops D gu = some G) (hd : okDst N d = true) (ht : P.underlying t = some (.slice e)) (hx : dev D x = some (cx, .ex (.slice A l c))) (ix : Cnd G → Cnd cx) 
  (next : DW P N ds md ops w Fin rest (dins D d G (.ex (.int .i64 (l : Int))))) : DW P N ds md ops w Fin (⟨d, .call ⟨.builtin .len, #[x], #[t]⟩, ty, pos, af, gu⟩ :: rest) D :=
 DW.val hg hd rfl (fun hG _ _ _ ha => X.lenSlice ht (ha.eval (o := ⟨d, .call ⟨.builtin .len, #[x], #[t]⟩, ty, pos, af, gu⟩) hx (by simp [Op.operands, Call.operands]) (ix hG)) ) next
theorem X.lenString {s : ByteArray} {t : TypeId} (ht : P.underlying t = some .string) (hx : ρ x = .string s)  : (execOp ρ ⟨d, .call ⟨.builtin .len, #[x], #[t]⟩, ty, pos, af, gu⟩).run P w = .ok (.value (.int .i64 (s.size : Int))) w := by simp [execOp, resolve, invoke, builtin, hx, Builtin.len_, run_underlying ht, goInt]
theorem TW.lenString {s : ByteArray} {t : TypeId} (hg : gd ops E gu = some G) (hd : okDst N d = true) (ht : P.underlying t = some .string) (hx : ev E x = some (cx, .string s)) (ix : Cnd G → Cnd cx) 
  (next : TW P r Q N ds ops rest (ins E d G (.int .i64 (s.size : Int))) w) : TW P r Q N ds ops (⟨d, .call ⟨.builtin .len, #[x], #[t]⟩, ty, pos, af, gu⟩ :: rest) E w :=
 TW.val hg hd rfl (fun hG _ ha => X.lenString ht (ha.eval hx (ix hG)) ) next
theorem DW.lenString {s : ByteArray} {t : TypeId} (hg : dgd ops D gu = some G) (hd : okDst N d = true) (ht : P.underlying t = some .string) (hx : dev D x = some (cx, .ex (.string s))) (ix : Cnd G → Cnd cx) 
  (next : DW P N ds md ops w Fin rest (dins D d G (.ex (.int .i64 (s.size : Int))))) : DW P N ds md ops w Fin (⟨d, .call ⟨.builtin .len, #[x], #[t]⟩, ty, pos, af, gu⟩ :: rest) D :=
 DW.val hg hd rfl (fun hG _ _ _ ha => X.lenString ht (ha.eval (o := ⟨d, .call ⟨.builtin .len, #[x], #[t]⟩, ty, pos, af, gu⟩) hx (by simp [Op.operands, Call.operands]) (ix hG)) ) next
theorem X.indexAddr {ad : Addr} {l c sz : Nat} {t e : TypeId} {k : IntKind} {i : Int} (ht : P.underlying t = some (.slice e)) (hs : (P.info? e).map (·.size) = some sz) (hx : ρ x = .slice (some ad) l c) (hy : ρ y = .int k i) (hi : 0 ≤ i ∧ i < (l : Int)) : (execOp ρ ⟨d, .indexAddr t x y, ty, pos, af, gu⟩).run P w = .ok (.value (.pointer (some (ad.add (i.toNat * sz))))) w := by simp only [execOp]; rw [hx, hy]; simp [Instr.indexAt, run_underlying ht, asIntOf, hi, run_sizeOf hs]
theorem TW.indexAddr {ad : Addr} {l c sz : Nat} {t e : TypeId} {k : IntKind} {i : Int} (hg : gd ops E gu = some G) (hd : okDst N d = true) (ht : P.underlying t = some (.slice e)) (hs : (P.info? e).map (·.size) = some sz) (hx : ev E x = some (cx, .slice (some ad) l c)) (ix : Cnd G → Cnd cx) (hy : ev E y = some (cy, .int k i)) (iy : Cnd G → Cnd cy) (hi : Cnd G → 0 ≤ i ∧ i < (l : Int))
  (next : TW P r Q N ds ops rest (ins E d G (.pointer (some (ad.add (i.toNat * sz))))) w) : TW P r Q N ds ops (⟨d, .indexAddr t x y, ty, pos, af, gu⟩ :: rest) E w :=
 TW.val hg hd rfl (fun hG _ ha => X.indexAddr ht hs (ha.eval hx (ix hG)) (ha.eval hy (iy hG)) (hi hG)) next
theorem DW.indexAddr {ad : Addr} {l c sz : Nat} {t e : TypeId} {k : IntKind} {i : Int} (hg : dgd ops D gu = some G) (hd : okDst N d = true) (ht : P.underlying t = some (.slice e)) (hs : (P.info? e).map (·.size) = some sz) (hx : dev D x = some (cx, .ex (.slice (some ad) l c))) (ix : Cnd G → Cnd cx) (hy : dev D y = some (cy, .ex (.int k i))) (iy : Cnd G → Cnd cy) (hi : Cnd G → 0 ≤ i ∧ i < (l : Int))
  (next : DW P N ds md ops w Fin rest (dins D d G (.ex (.pointer (some (ad.add (i.toNat * sz))))))) : DW P N ds md ops w Fin (⟨d, .indexAddr t x y, ty, pos, af, gu⟩ :: rest) D :=
 DW.val hg hd rfl (fun hG _ _ _ ha => X.indexAddr ht hs (ha.eval (o := ⟨d, .indexAddr t x y, ty, pos, af, gu⟩) hx (by simp [Op.operands, Call.operands]) (ix hG)) (ha.eval (o := ⟨d, .indexAddr t x y, ty, pos, af, gu⟩) hy (by simp [Op.operands, Call.operands]) (iy hG)) (hi hG)) next
theorem X.fieldAddr {ad : Addr} {off fi : Nat} {t : TypeId} (hf : fieldOff P t fi = some off) (hx : ρ x = .pointer (some ad))  : (execOp ρ ⟨d, .fieldAddr t x fi, ty, pos, af, gu⟩).run P w = .ok (.value (.pointer (some (ad.add off)))) w := by simp only [execOp]; rw [hx]; exact run_fieldAt hf
theorem TW.fieldAddr {ad : Addr} {off fi : Nat} {t : TypeId} (hg : gd ops E gu = some G) (hd : okDst N d = true) (hf : fieldOff P t fi = some off) (hx : ev E x = some (cx, .pointer (some ad))) (ix : Cnd G → Cnd cx) 
  (next : TW P r Q N ds ops rest (ins E d G (.pointer (some (ad.add off)))) w) : TW P r Q N ds ops (⟨d, .fieldAddr t x fi, ty, pos, af, gu⟩ :: rest) E w :=
 TW.val hg hd rfl (fun hG _ ha => X.fieldAddr hf (ha.eval hx (ix hG)) ) next
theorem DW.fieldAddr {ad : Addr} {off fi : Nat} {t : TypeId} (hg : dgd ops D gu = some G) (hd : okDst N d = true) (hf : fieldOff P t fi = some off) (hx : dev D x = some (cx, .ex (.pointer (some ad)))) (ix : Cnd G → Cnd cx) 
  (next : DW P N ds md ops w Fin rest (dins D d G (.ex (.pointer (some (ad.add off)))))) : DW P N ds md ops w Fin (⟨d, .fieldAddr t x fi, ty, pos, af, gu⟩ :: rest) D :=
 DW.val hg hd rfl (fun hG _ _ _ ha => X.fieldAddr hf (ha.eval (o := ⟨d, .fieldAddr t x fi, ty, pos, af, gu⟩) hx (by simp [Op.operands, Call.operands]) (ix hG)) ) next
theorem X.move {vx : Value}  (hx : ρ x = vx)  : (execOp ρ ⟨d, .move x, ty, pos, af, gu⟩).run P w = .ok (.value (vx)) w := by simp only [execOp]; rw [hx]; rfl
theorem TW.move {vx : Value} (hg : gd ops E gu = some G) (hd : okDst N d = true)  (hx : ev E x = some (cx, vx)) (ix : Cnd G → Cnd cx) 
  (next : TW P r Q N ds ops rest (ins E d G (vx)) w) : TW P r Q N ds ops (⟨d, .move x, ty, pos, af, gu⟩ :: rest) E w :=
 TW.val hg hd rfl (fun hG _ ha => X.move  (ha.eval hx (ix hG)) ) next
theorem DW.move {vx : Value} (hg : dgd ops D gu = some G) (hd : okDst N d = true)  (hx : dev D x = some (cx, .ex (vx))) (ix : Cnd G → Cnd cx) 
  (next : DW P N ds md ops w Fin rest (dins D d G (.ex (vx)))) : DW P N ds md ops w Fin (⟨d, .move x, ty, pos, af, gu⟩ :: rest) D :=
 DW.val hg hd rfl (fun hG _ _ _ ha => X.move  (ha.eval (o := ⟨d, .move x, ty, pos, af, gu⟩) hx (by simp [Op.operands, Call.operands]) (ix hG)) ) next
theorem X.assign {vx : Value}  (hx : ρ x = vx)  : (execOp ρ ⟨d, .assign x, ty, pos, af, gu⟩).run P w = .ok (.value (vx)) w := by simp only [execOp]; rw [hx]; rfl
theorem TW.assign {vx : Value} (hg : gd ops E gu = some G) (hd : okDst N d = true)  (hx : ev E x = some (cx, vx)) (ix : Cnd G → Cnd cx) 
  (next : TW P r Q N ds ops rest (ins E d G (vx)) w) : TW P r Q N ds ops (⟨d, .assign x, ty, pos, af, gu⟩ :: rest) E w :=
 TW.val hg hd rfl (fun hG _ ha => X.assign  (ha.eval hx (ix hG)) ) next
theorem DW.assign {vx : Value} (hg : dgd ops D gu = some G) (hd : okDst N d = true)  (hx : dev D x = some (cx, .ex (vx))) (ix : Cnd G → Cnd cx) 
  (next : DW P N ds md ops w Fin rest (dins D d G (.ex (vx)))) : DW P N ds md ops w Fin (⟨d, .assign x, ty, pos, af, gu⟩ :: rest) D :=
 DW.val hg hd rfl (fun hG _ _ _ ha => X.assign  (ha.eval (o := ⟨d, .assign x, ty, pos, af, gu⟩) hx (by simp [Op.operands, Call.operands]) (ix hG)) ) next
theorem X.extract {vs : Array Value} {v : Value} {i : Nat} (hv : vs[i]? = some v) (hx : ρ x = .tuple vs)  : (execOp ρ ⟨d, .extract x i, ty, pos, af, gu⟩).run P w = .ok (.value (v)) w := by simp only [execOp]; rw [hx]; simp [Instr.extract, hv]
theorem TW.extract {vs : Array Value} {v : Value} {i : Nat} (hg : gd ops E gu = some G) (hd : okDst N d = true) (hv : vs[i]? = some v) (hx : ev E x = some (cx, .tuple vs)) (ix : Cnd G → Cnd cx) 
  (next : TW P r Q N ds ops rest (ins E d G (v)) w) : TW P r Q N ds ops (⟨d, .extract x i, ty, pos, af, gu⟩ :: rest) E w :=
 TW.val hg hd rfl (fun hG _ ha => X.extract hv (ha.eval hx (ix hG)) ) next
theorem DW.extract {vs : Array Value} {v : Value} {i : Nat} (hg : dgd ops D gu = some G) (hd : okDst N d = true) (hv : vs[i]? = some v) (hx : dev D x = some (cx, .ex (.tuple vs))) (ix : Cnd G → Cnd cx) 
  (next : DW P N ds md ops w Fin rest (dins D d G (.ex (v)))) : DW P N ds md ops w Fin (⟨d, .extract x i, ty, pos, af, gu⟩ :: rest) D :=
 DW.val hg hd rfl (fun hG _ _ _ ha => X.extract hv (ha.eval (o := ⟨d, .extract x i, ty, pos, af, gu⟩) hx (by simp [Op.operands, Call.operands]) (ix hG)) ) next
theorem X.index {s : ByteArray} {k : IntKind} {i : Int} {t : TypeId} (ht : P.underlying t = some .string) (hx : ρ x = .string s) (hy : ρ y = .int k i) (hi : 0 ≤ i ∧ i < (s.size : Int)) : (execOp ρ ⟨d, .index t x y, ty, pos, af, gu⟩).run P w = .ok (.value (.int .u8 ((s.data.getD i.toNat 0).toNat : Int))) w := by 
  simp only [execOp]; rw [hx, hy]
  have hlt : i.toNat < s.size := by omega
  have e : s[i.toNat]? = some (s.data.getD i.toNat 0) := by
   have hlt' : i.toNat < s.data.size := hlt
   rw [ByteArray.getElem?_lt' s i.toNat hlt]
   simp [hlt', ByteArray.getElem_eq_getElem_data, Array.getElem?_eq_getElem hlt']
  simp [Instr.index, run_underlying ht, asIntOf, hi.1, e]
theorem TW.index {s : ByteArray} {k : IntKind} {i : Int} {t : TypeId} (hg : gd ops E gu = some G) (hd : okDst N d = true) (ht : P.underlying t = some .string) (hx : ev E x = some (cx, .string s)) (ix : Cnd G → Cnd cx) (hy : ev E y = some (cy, .int k i)) (iy : Cnd G → Cnd cy) (hi : Cnd G → 0 ≤ i ∧ i < (s.size : Int))
  (next : TW P r Q N ds ops rest (ins E d G (.int .u8 ((s.data.getD i.toNat 0).toNat : Int))) w) : TW P r Q N ds ops (⟨d, .index t x y, ty, pos, af, gu⟩ :: rest) E w :=
 TW.val hg hd rfl (fun hG _ ha => X.index ht (ha.eval hx (ix hG)) (ha.eval hy (iy hG)) (hi hG)) next
theorem DW.index {s : ByteArray} {k : IntKind} {i : Int} {t : TypeId} (hg : dgd ops D gu = some G) (hd : okDst N d = true) (ht : P.underlying t = some .string) (hx : dev D x = some (cx, .ex (.string s))) (ix : Cnd G → Cnd cx) (hy : dev D y = some (cy, .ex (.int k i))) (iy : Cnd G → Cnd cy) (hi : Cnd G → 0 ≤ i ∧ i < (s.size : Int))
  (next : DW P N ds md ops w Fin rest (dins D d G (.ex (.int .u8 ((s.data.getD i.toNat 0).toNat : Int))))) : DW P N ds md ops w Fin (⟨d, .index t x y, ty, pos, af, gu⟩ :: rest) D :=
 DW.val hg hd rfl (fun hG _ _ _ ha => X.index ht (ha.eval (o := ⟨d, .index t x y, ty, pos, af, gu⟩) hx (by simp [Op.operands, Call.operands]) (ix hG)) (ha.eval (o := ⟨d, .index t x y, ty, pos, af, gu⟩) hy (by simp [Op.operands, Call.operands]) (iy hG)) (hi hG)) next
theorem X.field {cs : Array Value} {v : Value} {t : TypeId} {fi : Nat} (hf : fieldOf P t fi cs = some v) (hx : ρ x = .agg cs)  : (execOp ρ ⟨d, .field t x fi, ty, pos, af, gu⟩).run P w = .ok (.value (v)) w := by simp only [execOp]; rw [hx]; exact run_field hf
theorem TW.field {cs : Array Value} {v : Value} {t : TypeId} {fi : Nat} (hg : gd ops E gu = some G) (hd : okDst N d = true) (hf : fieldOf P t fi cs = some v) (hx : ev E x = some (cx, .agg cs)) (ix : Cnd G → Cnd cx) 
  (next : TW P r Q N ds ops rest (ins E d G (v)) w) : TW P r Q N ds ops (⟨d, .field t x fi, ty, pos, af, gu⟩ :: rest) E w :=
 TW.val hg hd rfl (fun hG _ ha => X.field hf (ha.eval hx (ix hG)) ) next
theorem DW.field {cs : Array Value} {v : Value} {t : TypeId} {fi : Nat} (hg : dgd ops D gu = some G) (hd : okDst N d = true) (hf : fieldOf P t fi cs = some v) (hx : dev D x = some (cx, .ex (.agg cs))) (ix : Cnd G → Cnd cx) 
  (next : DW P N ds md ops w Fin rest (dins D d G (.ex (v)))) : DW P N ds md ops w Fin (⟨d, .field t x fi, ty, pos, af, gu⟩ :: rest) D :=
 DW.val hg hd rfl (fun hG _ _ _ ha => X.field hf (ha.eval (o := ⟨d, .field t x fi, ty, pos, af, gu⟩) hx (by simp [Op.operands, Call.operands]) (ix hG)) ) next
theorem X.load {t : TypeId} {ad : Addr} {v : Value} (h1 : one P t = true) (hx : ρ x = .pointer (some ad)) (hc : w.cell? ad = some v) : (execOp ρ ⟨d, .load t x, ty, pos, af, gu⟩).run P w = .ok (.value v) w := by
 simp only [execOp]; rw [hx]; simp [Instr.loadAt, Instr.sureAddr, run_loadVar1 h1 hc]
theorem TW.load {t : TypeId} {ad : Addr} {v : Value} (hg : gd ops E gu = some G) (hd : okDst N d = true) (h1 : one P t = true) (hx : ev E x = some (cx, .pointer (some ad))) (ix : Cnd G → Cnd cx) (hc : Cnd G → w.cell? ad = some v)
  (next : TW P r Q N ds ops rest (ins E d G v) w) : TW P r Q N ds ops (⟨d, .load t x, ty, pos, af, gu⟩ :: rest) E w :=
 TW.val hg hd rfl (fun hG _ ha => X.load h1 (ha.eval hx (ix hG)) (hc hG)) next
theorem DW.load {t : TypeId} {ad : Addr} {v : Value} (hg : dgd ops D gu = some G) (hd : okDst N d = true) (h1 : one P t = true) (hx : dev D x = some (cx, .ex (.pointer (some ad)))) (ix : Cnd G → Cnd cx) (hc : Cnd G → w.cell? ad = some v)
  (next : DW P N ds md ops w Fin rest (dins D d G (.ex v))) : DW P N ds md ops w Fin (⟨d, .load t x, ty, pos, af, gu⟩ :: rest) D :=
 DW.val hg hd rfl (fun hG _ _ hb ha => X.load h1 (ha.eval (o := ⟨d, .load t x, ty, pos, af, gu⟩) hx (by simp [Op.operands]) (ix hG)) ((hb.cell (block_lt_of_cell (hc hG))).trans (hc hG))) next
theorem X.loadS {t : TypeId} {ad : Addr} {fs : Array Field} {cs : List Value} (hu : P.underlying t = some (.struct fs)) (hs : (P.info? t).map (·.size) = some cs.length) (hx : ρ x = .pointer (some ad)) (hc : ∀ j v, cs[j]? = some v → w.cell? (ad.add j) = some v) :
  (execOp ρ ⟨d, .load t x, ty, pos, af, gu⟩).run P w = .ok (.value (.agg cs.toArray)) w := by
 simp only [execOp]; rw [hx]; simp [Instr.loadAt, Instr.sureAddr, run_loadVarS hu hs hc]
theorem TW.loadS {t : TypeId} {ad : Addr} {fs : Array Field} {n : Nat} (cs : List Value) (hg : gd ops E gu = some G) (hd : okDst N d = true) (hu : P.underlying t = some (.struct fs)) (hs : (P.info? t).map (·.size) = some n)
  (hx : ev E x = some (cx, .pointer (some ad))) (ix : Cnd G → Cnd cx) (hc : Cnd G → ∀ j v, cs[j]? = some v → w.cell? (ad.add j) = some v) (hl : cs.length = n)
  (next : TW P r Q N ds ops rest (ins E d G (.agg cs.toArray)) w) : TW P r Q N ds ops (⟨d, .load t x, ty, pos, af, gu⟩ :: rest) E w :=
 TW.val hg hd rfl (fun hG _ ha => X.loadS hu (hl ▸ hs) (ha.eval hx (ix hG)) (hc hG)) next
theorem DW.loadS {t : TypeId} {ad : Addr} {fs : Array Field} {n : Nat} (cs : List Value) (hg : dgd ops D gu = some G) (hd : okDst N d = true) (hu : P.underlying t = some (.struct fs)) (hs : (P.info? t).map (·.size) = some n)
  (hx : dev D x = some (cx, .ex (.pointer (some ad)))) (ix : Cnd G → Cnd cx) (hc : Cnd G → ∀ j v, cs[j]? = some v → w.cell? (ad.add j) = some v) (hl : cs.length = n)
  (next : DW P N ds md ops w Fin rest (dins D d G (.ex (.agg cs.toArray)))) : DW P N ds md ops w Fin (⟨d, .load t x, ty, pos, af, gu⟩ :: rest) D :=
 DW.val hg hd rfl (fun hG _ _ hb ha => X.loadS hu (hl ▸ hs) (ha.eval (o := ⟨d, .load t x, ty, pos, af, gu⟩) hx (by simp [Op.operands]) (ix hG)) (fun j v hj => (hb.cell (block_lt_of_cell (hc hG j v hj))).trans (hc hG j v hj))) next
theorem X.pick {vy vz v : Value} {b : Bool} (hx : ρ x = .bool b) (hy : b = true → ρ y = vy ∧ vy = v) (hz : b = false → ρ z = vz ∧ vz = v) : (execOp ρ ⟨d, .pick x y z, ty, pos, af, gu⟩).run P w = .ok (.value v) w := by
 simp only [execOp]; rw [hx]
 cases b with
 | true => obtain ⟨h, e⟩ := hy rfl; rw [h, e]; simp [asBool]
 | false => obtain ⟨h, e⟩ := hz rfl; rw [h, e]; simp [asBool]
theorem TW.pick {vy vz v : Value} {b : Bool} (hg : gd ops E gu = some G) (hd : okDst N d = true) (hx : ev E x = some (cx, .bool b)) (ix : Cnd G → Cnd cx)
  (hy : ev E y = some (cy, vy)) (hz : ev E z = some (cz, vz)) (h1 : Cnd G → b = true → Cnd cy ∧ vy = v) (h2 : Cnd G → b = false → Cnd cz ∧ vz = v)
  (next : TW P r Q N ds ops rest (ins E d G v) w) : TW P r Q N ds ops (⟨d, .pick x y z, ty, pos, af, gu⟩ :: rest) E w :=
 TW.val hg hd rfl (fun hG _ ha => X.pick (ha.eval hx (ix hG)) (fun hb => ⟨ha.eval hy (h1 hG hb).1, (h1 hG hb).2⟩) (fun hb => ⟨ha.eval hz (h2 hG hb).1, (h2 hG hb).2⟩)) next
theorem DW.pick {vy vz v : Value} {b : Bool} (hg : dgd ops D gu = some G) (hd : okDst N d = true) (hx : dev D x = some (cx, .ex (.bool b))) (ix : Cnd G → Cnd cx)
  (hy : dev D y = some (cy, .ex vy)) (hz : dev D z = some (cz, .ex vz)) (h1 : Cnd G → b = true → Cnd cy ∧ vy = v) (h2 : Cnd G → b = false → Cnd cz ∧ vz = v)
  (next : DW P N ds md ops w Fin rest (dins D d G (.ex v))) : DW P N ds md ops w Fin (⟨d, .pick x y z, ty, pos, af, gu⟩ :: rest) D :=
 DW.val hg hd rfl (fun hG _ _ _ ha => X.pick (ha.eval (o := ⟨d, .pick x y z, ty, pos, af, gu⟩) hx (by simp [Op.operands]) (ix hG)) (fun hb => ⟨ha.eval (o := ⟨d, .pick x y z, ty, pos, af, gu⟩) hy (by simp [Op.operands]) (h1 hG hb).1, (h1 hG hb).2⟩)
  (fun hb => ⟨ha.eval (o := ⟨d, .pick x y z, ty, pos, af, gu⟩) hz (by simp [Op.operands]) (h2 hG hb).1, (h2 hG hb).2⟩)) next
theorem TW.pickOr {b b' : Bool} (hg : gd ops E gu = some G) (hd : okDst N d = true) (hx : ev E x = some (cx, .bool b)) (ix : Cnd G → Cnd cx) (hz : ev E z = some (cz, .bool b')) (iz : Cnd G → b = false → Cnd cz)
  (next : TW P r Q N ds ops rest (ins E d G (.bool (b || b'))) w) : TW P r Q N ds ops (⟨d, .pick x (.const (.bool true)) z, ty, pos, af, gu⟩ :: rest) E w :=
 TW.pick hg hd hx ix rfl hz (fun _ hb => ⟨trivial, by rw [hb]; rfl⟩) (fun hG hb => ⟨iz hG hb, by rw [hb]; rfl⟩) next
theorem TW.pickAnd {b b' : Bool} (hg : gd ops E gu = some G) (hd : okDst N d = true) (hx : ev E x = some (cx, .bool b)) (ix : Cnd G → Cnd cx) (hy : ev E y = some (cy, .bool b')) (iy : Cnd G → b = true → Cnd cy)
  (next : TW P r Q N ds ops rest (ins E d G (.bool (b && b'))) w) : TW P r Q N ds ops (⟨d, .pick x y (.const (.bool false)), ty, pos, af, gu⟩ :: rest) E w :=
 TW.pick hg hd hx ix hy rfl (fun hG hb => ⟨iy hG hb, by rw [hb]; rfl⟩) (fun _ hb => ⟨trivial, by rw [hb]; rfl⟩) next
theorem DW.pickOr {b b' : Bool} (hg : dgd ops D gu = some G) (hd : okDst N d = true) (hx : dev D x = some (cx, .ex (.bool b))) (ix : Cnd G → Cnd cx) (hz : dev D z = some (cz, .ex (.bool b'))) (iz : Cnd G → b = false → Cnd cz)
  (next : DW P N ds md ops w Fin rest (dins D d G (.ex (.bool (b || b'))))) : DW P N ds md ops w Fin (⟨d, .pick x (.const (.bool true)) z, ty, pos, af, gu⟩ :: rest) D :=
 DW.pick hg hd hx ix rfl hz (fun _ hb => ⟨trivial, by rw [hb]; rfl⟩) (fun hG hb => ⟨iz hG hb, by rw [hb]; rfl⟩) next
theorem DW.pickAnd {b b' : Bool} (hg : dgd ops D gu = some G) (hd : okDst N d = true) (hx : dev D x = some (cx, .ex (.bool b))) (ix : Cnd G → Cnd cx) (hy : dev D y = some (cy, .ex (.bool b'))) (iy : Cnd G → b = true → Cnd cy)
  (next : DW P N ds md ops w Fin rest (dins D d G (.ex (.bool (b && b'))))) : DW P N ds md ops w Fin (⟨d, .pick x y (.const (.bool false)), ty, pos, af, gu⟩ :: rest) D :=
 DW.pick hg hd hx ix hy rfl (fun hG hb => ⟨iy hG hb, by rw [hb]; rfl⟩) (fun _ hb => ⟨trivial, by rw [hb]; rfl⟩) next
def Args (N : Nat) (ds : List Deferred) (E : Env) (G : Option Bool) (xs : List Operand) (vs : List Value) : Prop := ∀ a, Fit N ds E a → Cnd G → xs.map a.eval = vs
theorem Args.nil : Args N ds E G [] [] := fun _ _ _ => rfl
theorem Args.cons {xs : List Operand} {v : Value} {vs : List Value} (hx : ev E x = some (cx, v)) (ix : Cnd G → Cnd cx) (h : Args N ds E G xs vs) : Args N ds E G (x :: xs) (v :: vs) := fun a ha hG => by
 rw [List.map_cons, ha.eval hx (ix hG), h a ha hG]
def DArgs (L : List Nat) (N : Nat) (ds : List Deferred) (D : DE) (G : Option Bool) (xs : List Operand) (vs : List Value) : Prop := (∀ t, Operand.tmp t ∈ xs → t ∈ L) → ∀ a w, FitL N ds L D a w → Cnd G → xs.map a.eval = vs
theorem DArgs.nil {L : List Nat} : DArgs L N ds D G [] [] := fun _ _ _ _ _ => rfl
theorem DArgs.cons {L : List Nat} {xs : List Operand} {v : Value} {vs : List Value} (hx : dev D x = some (cx, .ex v)) (ix : Cnd G → Cnd cx) (h : DArgs L N ds D G xs vs) : DArgs L N ds D G (x :: xs) (v :: vs) := fun hL a w ha hG => by
 rw [List.map_cons, h (fun t ht => hL t (by simp [ht])) a w ha hG, ha.evalL hx (fun t ht => hL t (by simp [ht])) (ix hG)]
theorem X.call {f : Operand} {k : FuncId} {cap : List Value} {xs : List Operand} {vs : List Value} {ts : Array TypeId} (he : enters P k = true) (hf : ρ f = .func (.func k) #[] cap.toArray) (hv : xs.map ρ = vs) :
  (execOp ρ ⟨d, .call ⟨.value f, xs.toArray, ts⟩, ty, pos, af, gu⟩).run P w = .ok (.enter k (vs ++ cap).toArray) w := by
 have h1 := run_enters (P := P) he
 simp [execOp, resolve, hf, hv, Deferred.ofValue, invoke, h1]
theorem TW.call {f : Operand} {k : FuncId} {cap : List Value} {cf : Option Bool} {xs : List Operand} {vs : List Value} {ts : Array TypeId} {R : Value → World → Prop} (hg : gd ops E gu = some G) (hd : okDst N d = true) (he : enters P k = true)
  (hf : ev E f = some (cf, .func (.func k) #[] cap.toArray)) (jf : Cnd G → Cnd cf) (hv : Args N ds E G xs vs) (hc : Cnd G → Gives P k (vs ++ cap).toArray w R)
  (next : ∀ v w', (Cnd G → R v w') → (¬ Cnd G → w' = w) → TW P r Q N ds ops rest (ins E d G v) w') : TW P r Q N ds ops (⟨d, .call ⟨.value f, xs.toArray, ts⟩, ty, pos, af, gu⟩ :: rest) E w :=
 TW.enter hg hd rfl (fun hG a ha => X.call he (ha.eval hf (jf hG)) (hv a ha hG)) hc next
theorem TW.call0 {f : Operand} {k : FuncId} {cap : List Value} {xs : List Operand} {vs : List Value} {ts : Array TypeId} {R : Value → World → Prop} (hg : gu = none) (hd : okDst N d = true) (he : enters P k = true)
  (hf : ev E f = some (none, .func (.func k) #[] cap.toArray)) (hv : Args N ds E none xs vs) (hc : Gives P k (vs ++ cap).toArray w R)
  (next : ∀ v w', R v w' → TW P r Q N ds ops rest (ins E d none v) w') : TW P r Q N ds ops (⟨d, .call ⟨.value f, xs.toArray, ts⟩, ty, pos, af, gu⟩ :: rest) E w :=
 TW.call (G := none) (by rw [hg]; rfl) hd he hf ct hv (fun _ => hc) (fun v w' h _ => next v w' (h trivial))
theorem DW.call {f : Operand} {k : FuncId} {cap : List Value} {cf : Option Bool} {xs : List Operand} {vs : List Value} {ts : Array TypeId} (e : Ent) (hm : e.mono) (hg : dgd ops D gu = some G) (hd : okDst N d = true) (he : enters P k = true)
  (hf : dev D f = some (cf, .ex (.func (.func k) #[] cap.toArray))) (jf : Cnd G → Cnd cf) (hv : DArgs (Oper.looksAt ops.toArray ⟨d, .call ⟨.value f, xs.toArray, ts⟩, ty, pos, af, gu⟩) N ds D G xs vs)
  (hc : Cnd G → ∀ w', Below w.heap.size w w' → Gives P k (vs ++ cap).toArray w' fun v w'' => Below w'.heap.size w' w'' ∧ e.sat v w'')
  (next : DW P N ds .weak ops w Fin rest (dins D d G e)) : DW P N ds .weak ops w Fin (⟨d, .call ⟨.value f, xs.toArray, ts⟩, ty, pos, af, gu⟩ :: rest) D :=
 DW.enter (o := ⟨d, .call ⟨.value f, xs.toArray, ts⟩, ty, pos, af, gu⟩) hg hd rfl hm (fun hG a w' hb ha => ⟨_, _, X.call he (ha.eval (o := ⟨d, .call ⟨.value f, xs.toArray, ts⟩, ty, pos, af, gu⟩) hf (by simp [Op.operands, Call.operands]) (jf hG))
  (hv (fun t ht => mem_looks (by simp [Op.operands, Call.operands, ht])) a w' ha hG), hc hG w' hb⟩) next
theorem X.makeFunc {fn : Fn} {cap : List Operand} {vs : List Value} (hv : cap.map ρ = vs) : (execOp ρ ⟨d, .makeFunc fn #[] cap.toArray, ty, pos, af, gu⟩).run P w = .ok (.value (.func fn #[] vs.toArray)) w := by
 simp [execOp, Instr.makeFunc, hv]
theorem TW.makeFunc {fn : Fn} {cap : List Operand} {vs : List Value} (hg : gd ops E gu = some G) (hd : okDst N d = true) (hv : Args N ds E G cap vs)
  (next : TW P r Q N ds ops rest (ins E d G (.func fn #[] vs.toArray)) w) : TW P r Q N ds ops (⟨d, .makeFunc fn #[] cap.toArray, ty, pos, af, gu⟩ :: rest) E w :=
 TW.val hg hd rfl (fun hG a ha => X.makeFunc (hv a ha hG)) next
theorem DW.makeFunc {fn : Fn} {cap : List Operand} {vs : List Value} (hg : dgd ops D gu = some G) (hd : okDst N d = true) (hv : DArgs (Oper.looksAt ops.toArray ⟨d, .makeFunc fn #[] cap.toArray, ty, pos, af, gu⟩) N ds D G cap vs)
  (next : DW P N ds md ops w Fin rest (dins D d G (.ex (.func fn #[] vs.toArray)))) : DW P N ds md ops w Fin (⟨d, .makeFunc fn #[] cap.toArray, ty, pos, af, gu⟩ :: rest) D :=
 DW.val hg hd rfl (fun hG a w' _ ha => X.makeFunc (hv (fun t ht => mem_looks (by simp [Op.operands, ht])) a w' ha hG)) next
theorem TW.box {t : TypeId} {vx : Value} {cs : List Value} (hg : gu = none) (hd : okDst N d = true) (hx : ev E x = some (none, vx)) (hv : vx.cells = cs.toArray)
  (next : ∀ g w', Fresh w w' g t cs → TW P r Q N ds ops rest (ins E d none (.pointer (some ⟨g, 0, none⟩))) w') : TW P r Q N ds ops (⟨d, .box t x, ty, pos, af, gu⟩ :: rest) E w :=
 TW.eff (w' := w.alloc (.cells cs.toArray t)) hg hd rfl (fun a ha => by
  simp only [execOp]; rw [ha.eval hx trivial, ← hv]; rfl) (next _ _ (Fresh.mk' w t cs))
theorem TW.alloc {t : TypeId} {cs : List Value} (hg : gu = none) (hd : okDst N d = true) (hz : zeroCells P t = some cs)
  (next : ∀ g w', Fresh w w' g t cs → TW P r Q N ds ops rest (ins E d none (.pointer (some ⟨g, 0, none⟩))) w') : TW P r Q N ds ops (⟨d, .alloc t, ty, pos, af, gu⟩ :: rest) E w :=
 TW.eff (w' := w.alloc (.cells cs.toArray t)) hg hd rfl (fun a ha => by
  unfold zeroCells at hz
  cases hi : P.info? t with
  | none => simp [hi] at hz
  | some i =>
   cases hzz : i.zero with
   | none => simp [hi, hzz] at hz
   | some zv =>
    simp [hi, hzz] at hz
    subst hz
    simp [execOp, Instr.alloc, zeroValue, typeInfo, hi, hzz, newVar, newRow]) (next _ _ (Fresh.mk' w t cs))
theorem TW.store1 {t : TypeId} {ad : Addr} {old vy : Value} (hg : gu = none) (h1 : (P.info? t).map (·.size) = some 1) (hx : ev E x = some (none, .pointer (some ad))) (hy : ev E y = some (none, vy)) (hc : w.cell? ad = some old) (hf : w.frozen? ad = false)
  (ho : vy.oneCell' = true) (next : TW P r Q N ds ops rest E (w.setCell ad vy)) : TW P r Q N ds ops (⟨none, .store t x y, ty, pos, af, gu⟩ :: rest) E w :=
 TW.eff0 hg rfl rfl (fun a ha => by
  simp only [execOp]; rw [ha.eval hx trivial, ha.eval hy trivial]
  have e : vy.cells = #[vy] := by cases vy <;> first | rfl | simp [Value.oneCell'] at ho
  simp [Instr.storeAt, Instr.sureAddr, storeVar, run_sizeOf h1, e, storeCells, run_store P w ad vy .plain ho, hc, hf, Addr.add]) next
theorem TW.storeBlk {t t1 : TypeId} {g : Nat} {old cs : List Value} (hg : gu = none) (hx : ev E x = some (none, .pointer (some ⟨g, 0, none⟩))) (hy : ev E y = some (none, .agg cs.toArray)) (hb : Blk w g t1 old) (hs : (P.info? t).map (·.size) = some cs.length) (hl : old.length = cs.length)
  (h1 : cs.all (·.oneCell') = true) (next : TW P r Q N ds ops rest E (w.setRow g cs.toArray)) : TW P r Q N ds ops (⟨none, .store t x y, ty, pos, af, gu⟩ :: rest) E w :=
 TW.eff0 hg rfl rfl (fun a ha => by
  simp only [execOp]; rw [ha.eval hx trivial, ha.eval hy trivial]
  have h := run_storeVar_row (P := P) w g t1 t old.toArray cs.toArray hb (by simpa using hs) (by simpa using hl) (by simpa using h1)
  simp [Instr.storeAt, Instr.sureAddr, h]) next
theorem TW.newVar {t : TypeId} {dd : Nat} {zs cs : List Value} {ty' : TypeId} {pos' : String} {af' : Array Edge} (hd : okDst N (some dd) = true) (hz : zeroCells P t = some zs) (hy : ev ((dd, none, .pointer (some ⟨w.heap.size, 0, none⟩)) :: E) y = some (none, .agg cs.toArray)) (hs : (P.info? t).map (·.size) = some cs.length) (hl : zs.length = cs.length)
  (h1 : cs.all (·.oneCell') = true) (next : ∀ g w', Fresh w w' g t cs → TW P r Q N ds ops rest ((dd, none, .pointer (some ⟨g, 0, none⟩)) :: E) w') :
  TW P r Q N ds ops (⟨some dd, .alloc t, ty, pos, af, none⟩ :: ⟨none, .store t (.tmp dd) y, ty', pos', af', none⟩ :: rest) E w := by
 intro a ha
 unfold wpListIn
 rw [if_pos (by simp [Region.wanted])]
 refine ⟨fun _ _ => trivial, ?_⟩
 have hrun : (execOp a.eval ⟨some dd, .alloc t, ty, pos, af, none⟩).run P w = .ok (.value (.pointer (some ⟨w.heap.size, 0, none⟩))) (w.alloc (.cells zs.toArray t)) := by
  unfold zeroCells at hz
  cases hi : P.info? t with
  | none => simp [hi] at hz
  | some i =>
   cases hzz : i.zero with
   | none => simp [hi, hzz] at hz
   | some zv =>
    simp [hi, hzz] at hz
    subst hz
    simp [execOp, Instr.alloc, zeroValue, typeInfo, hi, hzz, Go.newVar, newRow]
 rw [semAt_of rfl, hrun]
 have key : TW P r Q N ds ops (⟨none, .store t (.tmp dd) y, ty', pos', af', none⟩ :: rest) ((dd, none, .pointer (some ⟨w.heap.size, 0, none⟩)) :: E) (w.alloc (.cells zs.toArray t)) := by
  refine TW.storeBlk (old := zs) rfl (by simp [ev, look]) hy (Blk.new w t zs) hs hl h1 ?_
  rw [setRow_new w zs.toArray cs.toArray t]
  exact next _ _ (Fresh.mk' w t cs)
 exact key _ (ha.put (d := some dd) hd (fun _ => rfl) (fun h => absurd trivial h))
end
end Go.PF
namespace Go.PF
open Go.RowKit
def Kept (F : Nat → Prop) (w w' : World) : Prop := ∀ (p : Addr) (v : Value), F p.block → w.cell? p = some v → w'.cell? p = some v
theorem Kept.of_below {F : Nat → Prop} {w w' : World} (h : Below w.heap.size w w') : Kept F w w' := fun p _ _ hc => (h.cell (block_lt_of_cell hc)).trans hc
theorem Kept.of_blocks {F : Nat → Prop} {w w' : World} (h : ∀ b, F b → b < w.heap.size → w'.heap[b]? = w.heap[b]?) : Kept F w w' := fun p _ hp hc => (World.cell?_of_block (w := w) (h p.block hp (block_lt_of_cell hc))).trans hc
theorem Kept.cell {F : Nat → Prop} {w w' : World} (h : Kept F w w') {p : Addr} {v : Value} (hp : F p.block) (hc : w.cell? p = some v) : w'.cell? p = some v := h p v hp hc
theorem add_block (a : Addr) (n : Nat) : (a.add n).block = a.block := by unfold Addr.add; split <;> rfl
structure Ty (α : Type) where
 n : Nat
 rep : (Nat → Prop) → World → List Value → α → Prop
 len : ∀ F w cs x, rep F w cs x → cs.length = n
 mono : ∀ F w w' cs x, Kept F w w' → rep F w cs x → rep F w' cs x
 wider : ∀ (F F' : Nat → Prop) w cs x, (∀ b, F b → F' b) → rep F w cs x → rep F' w cs x
def I64 (x : Int) : Prop := -9223372036854775808 ≤ x ∧ x ≤ 9223372036854775807
def intT : Ty Int where
 n := 1
 rep := fun _ _ cs x => cs = [.int .i64 x] ∧ I64 x
 len := fun _ _ _ _ h => by rw [h.1]; rfl
 mono := fun _ _ _ _ _ _ h => h
 wider := fun _ _ _ _ _ _ h => h
def boolT : Ty Bool where
 n := 1
 rep := fun _ _ cs x => cs = [.bool x]
 len := fun _ _ _ _ h => by rw [h]; rfl
 mono := fun _ _ _ _ _ _ h => h
 wider := fun _ _ _ _ _ _ h => h
def strT : Ty ByteArray where
 n := 1
 rep := fun _ _ cs x => cs = [.string x] ∧ x.size ≤ 9223372036854775807
 len := fun _ _ _ _ h => by rw [h.1]; rfl
 mono := fun _ _ _ _ _ _ h => h
 wider := fun _ _ _ _ _ _ h => h
variable {α : Type}
def SL (T : Ty α) (F : Nat → Prop) (w : World) (v : Value) (l : List α) : Prop :=
 ∃ A cap, v = .slice A l.length cap ∧ l.length ≤ cap ∧ l.length ≤ 9223372036854775807 ∧
  ∀ i x, l[i]? = some x → ∃ ad cs, A = some ad ∧ F ad.block ∧ (∀ j u, cs[j]? = some u → w.cell? ((ad.add (i * T.n)).add j) = some u) ∧ T.rep F w cs x
theorem SL.mono {T : Ty α} {F : Nat → Prop} {w w' : World} {v : Value} {l : List α} (h : SL T F w v l) (hk : Kept F w w') : SL T F w' v l := by
 obtain ⟨A, cap, hv, h1, h2, h3⟩ := h
 refine ⟨A, cap, hv, h1, h2, fun i x hx => ?_⟩
 obtain ⟨ad, cs, ha, hF, hc, hr⟩ := h3 i x hx
 exact ⟨ad, cs, ha, hF, fun j u hu => hk.cell (by rw [add_block, add_block]; exact hF) (hc j u hu), T.mono _ _ _ _ _ hk hr⟩
theorem SL.below {T : Ty α} {F : Nat → Prop} {w w' : World} {v : Value} {l : List α} (h : SL T F w v l) (hb : Below w.heap.size w w') : SL T F w' v l := h.mono (.of_below hb)
theorem SL.wider {T : Ty α} {F F' : Nat → Prop} {w : World} {v : Value} {l : List α} (h : SL T F w v l) (hF : ∀ b, F b → F' b) : SL T F' w v l := by
 obtain ⟨A, cap, hv, h1, h2, h3⟩ := h
 refine ⟨A, cap, hv, h1, h2, fun i x hx => ?_⟩
 obtain ⟨ad, cs, ha, hb, hc, hr⟩ := h3 i x hx
 exact ⟨ad, cs, ha, hF _ hb, hc, T.wider _ _ _ _ _ hF hr⟩
theorem SL.nil (T : Ty α) (F : Nat → Prop) (w : World) : SL T F w (.slice none 0 0) [] := ⟨none, 0, rfl, Nat.le_refl _, by simp, fun i x h => by simp at h⟩
def sliceT (T : Ty α) : Ty (List α) where
 n := 1
 rep := fun F w cs l => ∃ v, cs = [v] ∧ SL T F w v l
 len := fun _ _ _ _ h => by obtain ⟨v, h, _⟩ := h; rw [h]; rfl
 mono := fun _ _ _ _ _ hk h => by obtain ⟨v, h, hs⟩ := h; exact ⟨v, h, hs.mono hk⟩
 wider := fun _ _ _ _ _ hF h => by obtain ⟨v, h, hs⟩ := h; exact ⟨v, h, hs.wider hF⟩
theorem SL.int {F : Nat → Prop} {w : World} {A : Option Addr} {n cap : Nat} {l : List Int} (h : SL intT F w (.slice A n cap) l) {i : Nat} {x : Int} (hx : l[i]? = some x) :
  ∃ ad, A = some ad ∧ w.cell? (ad.add (i * 1)) = some (.int .i64 x) ∧ I64 x := by
 obtain ⟨A', cap', hv, _, _, h3⟩ := h
 simp only [Value.slice.injEq] at hv
 obtain ⟨rfl, _, rfl⟩ := hv
 obtain ⟨ad, cs, ha, _, hc, hr, hi⟩ := h3 i x hx
 exact ⟨ad, ha, by have := hc 0 (.int .i64 x) (by rw [hr]; rfl); simpa [intT, Addr.add] using this, hi⟩
theorem SL.len {T : Ty α} {F : Nat → Prop} {w : World} {A : Option Addr} {n cap : Nat} {l : List α} (h : SL T F w (.slice A n cap) l) : n = l.length ∧ l.length ≤ cap ∧ l.length ≤ 9223372036854775807 := by
 obtain ⟨A', cap', hv, h1, h2, _⟩ := h
 simp only [Value.slice.injEq] at hv
 obtain ⟨rfl, rfl, rfl⟩ := hv
 exact ⟨rfl, h1, h2⟩
end Go.PF
