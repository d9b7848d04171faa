/- Texts joined: U64 Eo Ea Ep Eb Rh Ec Ed Ee. -/
import Derived.Test.YtmhfeehkpndadaaGreatQC
import Derived.Laws.Bits64
import Derived.Test.YtmhfeehkpndadaaGreatQG
import Derived.Test.YtmhfeehkpndadaaGreatQF
import Derived.Lib.RowBridge
set_option linter.unusedSimpArgs false
set_option linter.unusedVariables false

/- Operations on unsigned words of 64 bits. -/
namespace Go.PF
open Go.RowKit
theorem wrap64 {z : Nat} (h : z < 2 ^ 64) : IntKind.u64.wrap (z : Int) = z := by
  rw [IntKind.wrap_u64]; omega
theorem ofInt64 (m : Nat) : BitVec.ofInt IntKind.u64.bits (m : Int) = BitVec.ofNat 64 m := BitVec.ofInt_ofNat ..
theorem ofIntI64 (m : Nat) : BitVec.ofInt IntKind.i64.bits (m : Int) = BitVec.ofNat 64 m := BitVec.ofInt_ofNat ..
theorem run_and64 {m n : Nat} (hm : m < 2 ^ 64) (hn : n < 2 ^ 64) : Op.intBits .and .u64 (m : Int) (n : Int) = pure (.int .u64 ((m &&& n : Nat) : Int)) := by
  have h : (BitVec.ofNat 64 m &&& BitVec.ofNat 64 n).toNat = m &&& n := by
    rw [BitVec.toNat_and, BitVec.toNat_ofNat, BitVec.toNat_ofNat, Nat.mod_eq_of_lt hm, Nat.mod_eq_of_lt hn]
  unfold Op.intBits
  simp only [ofInt64]
  show (pure (Value.int .u64 (IntKind.u64.wrap (((BitVec.ofNat 64 m &&& BitVec.ofNat 64 n).toNat : Nat) : Int))) : Sem Value) = _
  rw [h, wrap64 (Nat.lt_of_le_of_lt Nat.and_le_left hm)]
theorem run_andI {m n : Nat} (hm : m < 2 ^ 63) (hn : n < 2 ^ 63) : Op.intBits .and .i64 (m : Int) (n : Int) = pure (.int .i64 ((m &&& n : Nat) : Int)) := by
  have h : (BitVec.ofNat 64 m &&& BitVec.ofNat 64 n).toNat = m &&& n := by
    rw [BitVec.toNat_and, BitVec.toNat_ofNat, BitVec.toNat_ofNat, Nat.mod_eq_of_lt (by omega), Nat.mod_eq_of_lt (by omega)]
  unfold Op.intBits
  simp only [ofIntI64]
  show (pure (Value.int .i64 (IntKind.i64.wrap (((BitVec.ofNat 64 m &&& BitVec.ofNat 64 n).toNat : Nat) : Int))) : Sem Value) = _
  have := Nat.lt_of_le_of_lt (Nat.and_le_left (n := m) (m := n)) hm
  rw [h, wrap_fits (by omega)]
section
variable {P : Program} {r : Option Nat} {Q : Exit → Act → World → Prop} {N : Nat} {ds : List Deferred} {ops rest : List Oper} {E : Env} {D : DE} {w : World} {G : Option Bool} {Fin : DE → Prop} {md : Mode}
variable {d : Option Tmp} {ty : TypeId} {pos : String} {af : Array Edge} {gu : Option (Nat × Bool)}
variable {x y z : Operand} {cx cy cz : Option Bool} {ρ : Operand → Value}
theorem X.andU {m n : Nat} {t t' : TypeId} (hx : ρ x = .int .u64 (m : Int)) (hy : ρ y = .int .u64 (n : Int)) (hb : m < 2 ^ 64 ∧ n < 2 ^ 64) : (execOp ρ ⟨d, .binOp .and t x y t', ty, pos, af, gu⟩).run P w = .ok (.value (.int .u64 ((m &&& n : Nat) : Int))) w := by simp only [execOp]; rw [hx, hy, eqGuard_and, binOp_and, run_and64 hb.1 hb.2]; rfl
theorem TW.andU {m n : Nat} {t t' : TypeId} (hg : gd ops E gu = some G) (hd : okDst N d = true) (hx : ev E x = some (cx, .int .u64 (m : Int))) (ix : Cnd G → Cnd cx) (hy : ev E y = some (cy, .int .u64 (n : Int))) (iy : Cnd G → Cnd cy) (hb : Cnd G → m < 2 ^ 64 ∧ n < 2 ^ 64)
    (next : TW P r Q N ds ops rest (ins E d G (.int .u64 ((m &&& n : Nat) : Int))) w) : TW P r Q N ds ops (⟨d, .binOp .and t x y t', ty, pos, af, gu⟩ :: rest) E w :=
  TW.val hg hd rfl (fun hG _ ha => X.andU (ha.eval hx (ix hG)) (ha.eval hy (iy hG)) (hb hG)) next
theorem DW.andU {m n : Nat} {t t' : TypeId} (hg : dgd ops D gu = some G) (hd : okDst N d = true) (hx : dev D x = some (cx, .ex (.int .u64 (m : Int)))) (ix : Cnd G → Cnd cx) (hy : dev D y = some (cy, .ex (.int .u64 (n : Int)))) (iy : Cnd G → Cnd cy) (hb : Cnd G → m < 2 ^ 64 ∧ n < 2 ^ 64)
    (next : DW P N ds md ops w Fin rest (dins D d G (.ex (.int .u64 ((m &&& n : Nat) : Int))))) : DW P N ds md ops w Fin (⟨d, .binOp .and t x y t', ty, pos, af, gu⟩ :: rest) D :=
  DW.val hg hd rfl (fun hG _ _ _ ha => X.andU (ha.eval (o := ⟨d, .binOp .and t x y t', ty, pos, af, gu⟩) hx (by simp [Op.operands, Call.operands]) (ix hG)) (ha.eval (o := ⟨d, .binOp .and t x y t', ty, pos, af, gu⟩) hy (by simp [Op.operands, Call.operands]) (iy hG)) (hb hG)) next
theorem X.andI {m n : Nat} {t t' : TypeId} (hx : ρ x = .int .i64 (m : Int)) (hy : ρ y = .int .i64 (n : Int)) (hb : m < 2 ^ 63 ∧ n < 2 ^ 63) : (execOp ρ ⟨d, .binOp .and t x y t', ty, pos, af, gu⟩).run P w = .ok (.value (.int .i64 ((m &&& n : Nat) : Int))) w := by simp only [execOp]; rw [hx, hy, eqGuard_and, binOp_and, run_andI hb.1 hb.2]; rfl
theorem TW.andI {m n : Nat} {t t' : TypeId} (hg : gd ops E gu = some G) (hd : okDst N d = true) (hx : ev E x = some (cx, .int .i64 (m : Int))) (ix : Cnd G → Cnd cx) (hy : ev E y = some (cy, .int .i64 (n : Int))) (iy : Cnd G → Cnd cy) (hb : Cnd G → m < 2 ^ 63 ∧ n < 2 ^ 63)
    (next : TW P r Q N ds ops rest (ins E d G (.int .i64 ((m &&& n : Nat) : Int))) w) : TW P r Q N ds ops (⟨d, .binOp .and t x y t', ty, pos, af, gu⟩ :: rest) E w :=
  TW.val hg hd rfl (fun hG _ ha => X.andI (ha.eval hx (ix hG)) (ha.eval hy (iy hG)) (hb hG)) next
theorem X.addU {m n : Nat} {t t' : TypeId} (hx : ρ x = .int .u64 (m : Int)) (hy : ρ y = .int .u64 (n : Int)) (hb : m + n < 2 ^ 64) : (execOp ρ ⟨d, .binOp .add t x y t', ty, pos, af, gu⟩).run P w = .ok (.value (.int .u64 ((m + n : Nat) : Int))) w := by
    simp only [execOp]; rw [hx, hy, eqGuard_add, binOp_add]
    show Result.ok (Next.value (Value.int .u64 (IntKind.u64.wrap ((m : Int) + (n : Int))))) w = _
    rw [show (m : Int) + (n : Int) = ((m + n : Nat) : Int) by omega, wrap64 hb]
theorem TW.addU {m n : Nat} {t t' : TypeId} (hg : gd ops E gu = some G) (hd : okDst N d = true) (hx : ev E x = some (cx, .int .u64 (m : Int))) (ix : Cnd G → Cnd cx) (hy : ev E y = some (cy, .int .u64 (n : Int))) (iy : Cnd G → Cnd cy) (hb : Cnd G → m + n < 2 ^ 64)
    (next : TW P r Q N ds ops rest (ins E d G (.int .u64 ((m + n : Nat) : Int))) w) : TW P r Q N ds ops (⟨d, .binOp .add t x y t', ty, pos, af, gu⟩ :: rest) E w :=
  TW.val hg hd rfl (fun hG _ ha => X.addU (ha.eval hx (ix hG)) (ha.eval hy (iy hG)) (hb hG)) next
theorem X.shrU {k : IntKind} {m n : Nat} {t t' : TypeId} (hx : ρ x = .int .u64 (m : Int)) (hy : ρ y = .int k (n : Int)) (hb : n ≤ 64) : (execOp ρ ⟨d, .binOp .shr t x y t', ty, pos, af, gu⟩).run P w = .ok (.value (.int .u64 ((m >>> n : Nat) : Int))) w := by
    have h1 : ¬ ((n : Int) < 0) := by omega
    have h2 : min n IntKind.u64.bits = n := Nat.min_eq_left hb
    have h3 : (m : Int).fdiv ((2 : Int) ^ n) = ((m >>> n : Nat) : Int) := by
      rw [Nat.shiftRight_eq_div_pow, Int.fdiv_eq_ediv_of_nonneg _ (Int.pow_nonneg (by decide))]
      norm_cast
    simp only [execOp]; rw [hx, hy, eqGuard_shr, binOp_shr]
    simp only [Op.shift, if_neg h1, Int.toNat_natCast, h2, h3]; rfl
theorem TW.shrU {k : IntKind} {m n : Nat} {t t' : TypeId} (hg : gd ops E gu = some G) (hd : okDst N d = true) (hx : ev E x = some (cx, .int .u64 (m : Int))) (ix : Cnd G → Cnd cx) (hy : ev E y = some (cy, .int k (n : Int))) (iy : Cnd G → Cnd cy) (hb : Cnd G → n ≤ 64)
    (next : TW P r Q N ds ops rest (ins E d G (.int .u64 ((m >>> n : Nat) : Int))) w) : TW P r Q N ds ops (⟨d, .binOp .shr t x y t', ty, pos, af, gu⟩ :: rest) E w :=
  TW.val hg hd rfl (fun hG _ ha => X.shrU (ha.eval hx (ix hG)) (ha.eval hy (iy hG)) (hb hG)) next
theorem X.shlU {k : IntKind} {n : Nat} {t t' : TypeId} (hx : ρ x = .int .u64 1) (hy : ρ y = .int k (n : Int)) (hb : n < 64) : (execOp ρ ⟨d, .binOp .shl t x y t', ty, pos, af, gu⟩).run P w = .ok (.value (.int .u64 ((2 ^ n : Nat) : Int))) w := by
    have h1 : ¬ ((n : Int) < 0) := by omega
    have h2 : min n IntKind.u64.bits = n := Nat.min_eq_left (by show n ≤ 64; omega)
    have h3 : (1 : Int) * (2 : Int) ^ n = ((2 ^ n : Nat) : Int) := by rw [Int.one_mul]; push_cast; rfl
    have h4 : (2 ^ n : Nat) < 2 ^ 64 := Nat.pow_lt_pow_right (by decide) hb
    simp only [execOp]; rw [hx, hy, eqGuard_shl, binOp_shl]
    simp only [Op.shift, if_neg h1, Int.toNat_natCast, h2, h3, wrap64 h4]; rfl
theorem DW.shlU {k : IntKind} {n : Nat} {t t' : TypeId} (hg : dgd ops D gu = some G) (hd : okDst N d = true) (hx : dev D x = some (cx, .ex (.int .u64 1))) (ix : Cnd G → Cnd cx) (hy : dev D y = some (cy, .ex (.int k (n : Int)))) (iy : Cnd G → Cnd cy) (hb : Cnd G → n < 64)
    (next : DW P N ds md ops w Fin rest (dins D d G (.ex (.int .u64 ((2 ^ n : Nat) : Int))))) : DW P N ds md ops w Fin (⟨d, .binOp .shl t x y t', ty, pos, af, gu⟩ :: rest) D :=
  DW.val hg hd rfl (fun hG _ _ _ ha => X.shlU (ha.eval (o := ⟨d, .binOp .shl t x y t', ty, pos, af, gu⟩) hx (by simp [Op.operands, Call.operands]) (ix hG)) (ha.eval (o := ⟨d, .binOp .shl t x y t', ty, pos, af, gu⟩) hy (by simp [Op.operands, Call.operands]) (iy hG)) (hb hG)) next
end
end Go.PF

/- What OnesCount64 computes, below 2^14. -/
namespace Go.Proofs.YtmhfeehkpndadaaGreat
open Go.Ord

/-- what OnesCount64 computes -/
def oc1 (x : Nat) : Nat := (x >>> 1 &&& 6148914691236517205) + (x &&& 6148914691236517205)
def oc2 (x : Nat) : Nat := (x >>> 2 &&& 3689348814741910323) + (x &&& 3689348814741910323)
def oc3 (x : Nat) : Nat := (x >>> 4) + x &&& 1085102592571150095
def oc4 (x : Nat) : Nat := x + x >>> 8
def oc5 (x : Nat) : Nat := x + x >>> 16
def oc6 (x : Nat) : Nat := x + x >>> 32
def oc (x : Nat) : Nat := oc6 (oc5 (oc4 (oc3 (oc2 (oc1 x)))))
/-- the bits, by fuel -/
def pcF : Nat → Nat → Nat
  | 0, _ => 0
  | f + 1, n => n % 2 + pcF f (n / 2)
theorem pcF_eq : ∀ (f n : Nat), n < 2 ^ f → pcF f n = pc n
  | 0, n, h => by
    have : n = 0 := by simpa using h
    subst this
    simp [pcF, pc]
  | f + 1, n, h => by
    rw [pc_eq, pcF, pcF_eq f (n / 2) (by rw [Nat.pow_succ] at h; omega)]
def ocOK (x : Nat) : Bool := Nat.beq (oc x &&& 127) (pcF 14 x) && Nat.ble (oc1 x) 65535 && Nat.ble (oc2 (oc1 x)) 65535 && Nat.ble (oc3 (oc2 (oc1 x))) 65535 && Nat.ble (oc4 (oc3 (oc2 (oc1 x)))) 65535 && Nat.ble (oc5 (oc4 (oc3 (oc2 (oc1 x))))) 65535 && Nat.ble (oc x) 65535
def allB : Nat → Nat → Bool
  | 0, b => ocOK b
  | d + 1, b => allB d b && allB d (b + 2 ^ d)
theorem allB_spec : ∀ (d b : Nat), allB d b = true → ∀ x, b ≤ x → x < b + 2 ^ d → ocOK x = true
  | 0, b, h, x, h1, h2 => by
    have : x = b := by simp at h2; omega
    rw [this]; exact h
  | d + 1, b, h, x, h1, h2 => by
    simp only [allB, Bool.and_eq_true] at h
    rw [Nat.pow_succ] at h2
    by_cases e : x < b + 2 ^ d
    · exact allB_spec d b h.1 x h1 e
    · exact allB_spec d _ h.2 x (by omega) (by omega)
theorem all14 : allB 14 0 = true := by decide +kernel
theorem oc_ok {x : Nat} (h : x < 16384) : (oc x &&& 127) = pc x ∧ oc1 x ≤ 65535 ∧ oc2 (oc1 x) ≤ 65535 ∧ oc3 (oc2 (oc1 x)) ≤ 65535 ∧ oc4 (oc3 (oc2 (oc1 x))) ≤ 65535 ∧ oc5 (oc4 (oc3 (oc2 (oc1 x)))) ≤ 65535 ∧ oc x ≤ 65535 := by
  have h1 := allB_spec 14 0 all14 x (Nat.zero_le _) (by simpa using h)
  unfold ocOK at h1
  simp only [Bool.and_eq_true] at h1
  obtain ⟨⟨⟨⟨⟨⟨q1, q2⟩, q3⟩, q4⟩, q5⟩, q6⟩, q7⟩ := h1
  exact ⟨(Nat.eq_of_beq_eq_true q1).trans (pcF_eq 14 x (by simpa using h)), Nat.le_of_ble_eq_true q2, Nat.le_of_ble_eq_true q3, Nat.le_of_ble_eq_true q4, Nat.le_of_ble_eq_true q5, Nat.le_of_ble_eq_true q6, Nat.le_of_ble_eq_true q7⟩
theorem and_small {a b : Nat} (h : a ≤ 65535) : a &&& b ≤ 65535 := Nat.le_trans Nat.and_le_left h
theorem shr_small {a n : Nat} (h : a ≤ 65535) : a >>> n ≤ 65535 := by
  rw [Nat.shiftRight_eq_div_pow]
  exact Nat.le_trans (Nat.div_le_self _ _) h

end Go.Proofs.YtmhfeehkpndadaaGreat

namespace Go.Proofs.YtmhfeehkpndadaaGreat
open Go.PF Go.RowKit Go.Ord

set_option maxRecDepth 20000 in
theorem ones64_c {w : World} {x : Nat} (h : x < 16384) : Gives Tryz.prog 85 #[.int .u64 (x : Int)] w fun u w' => Below w.heap.size w w' ∧ u = .int .i64 (pc x : Int) := by
  obtain ⟨q0, q1, q2, q3, q4, q5, q6⟩ := oc_ok h
  have hx : x ≤ 65535 := by omega
  refine gives_of (vs := [.int .u64 (x : Int)]) [(0, none, _)] Tryz.func85 rfl Tryz.ntmps85 rfl rfl ?_
  refine CW.seq (CW.region ?_)
  refine TW.assign rfl rfl rfl ct ?_
  refine TW.nil (KW.pick [0, 2] [(0, _, _), (2, _, _)] rfl (KW.then_ ?_))
  refine CW.seq (CW.region ?_)
  refine TW.move rfl rfl rfl ct ?_
  refine TW.shrU rfl rfl rfl ct rfl ct (fun _ => by decide) ?_
  refine TW.andU rfl rfl rfl ct rfl ct (fun _ => ⟨Nat.lt_of_le_of_lt (shr_small hx) (by decide), by decide⟩) ?_
  refine TW.move rfl rfl rfl ct ?_
  refine TW.andU rfl rfl rfl ct rfl ct (fun _ => ⟨Nat.lt_of_le_of_lt hx (by decide), by decide⟩) ?_
  refine TW.addU rfl rfl rfl ct rfl ct (fun _ => Nat.lt_of_le_of_lt q1 (by decide)) ?_
  refine TW.assign rfl rfl rfl ct ?_
  refine TW.nil (KW.pick [0, 2] [(0, _, _), (2, _, _)] rfl (KW.then_ ?_))
  refine CW.seq (CW.region ?_)
  refine TW.move rfl rfl rfl ct ?_
  refine TW.shrU rfl rfl rfl ct rfl ct (fun _ => by decide) ?_
  refine TW.andU rfl rfl rfl ct rfl ct (fun _ => ⟨Nat.lt_of_le_of_lt (shr_small q1) (by decide), by decide⟩) ?_
  refine TW.move rfl rfl rfl ct ?_
  refine TW.andU rfl rfl rfl ct rfl ct (fun _ => ⟨Nat.lt_of_le_of_lt q1 (by decide), by decide⟩) ?_
  refine TW.addU rfl rfl rfl ct rfl ct (fun _ => Nat.lt_of_le_of_lt q2 (by decide)) ?_
  refine TW.assign rfl rfl rfl ct ?_
  refine TW.nil (KW.pick [0, 2] [(0, _, _), (2, _, _)] rfl (KW.then_ ?_))
  refine CW.seq (CW.region ?_)
  refine TW.move rfl rfl rfl ct ?_
  refine TW.shrU rfl rfl rfl ct rfl ct (fun _ => by decide) ?_
  refine TW.move rfl rfl rfl ct ?_
  refine TW.addU rfl rfl rfl ct rfl ct (fun _ => Nat.lt_of_le_of_lt (Nat.add_le_add (shr_small q2) q2) (by decide)) ?_
  refine TW.andU rfl rfl rfl ct rfl ct (fun _ => ⟨Nat.lt_of_le_of_lt (Nat.add_le_add (shr_small q2) q2) (by decide), by decide⟩) ?_
  refine TW.assign rfl rfl rfl ct ?_
  refine TW.nil (KW.pick [0, 2] [(0, _, _), (2, _, _)] rfl (KW.then_ ?_))
  refine CW.seq (CW.region ?_)
  refine TW.move rfl rfl rfl ct ?_
  refine TW.move rfl rfl rfl ct ?_
  refine TW.shrU rfl rfl rfl ct rfl ct (fun _ => by decide) ?_
  refine TW.addU rfl rfl rfl ct rfl ct (fun _ => Nat.lt_of_le_of_lt q4 (by decide)) ?_
  refine TW.assign rfl rfl rfl ct ?_
  refine TW.nil (KW.pick [0, 2] [(0, _, _), (2, _, _)] rfl (KW.then_ ?_))
  refine CW.seq (CW.region ?_)
  refine TW.move rfl rfl rfl ct ?_
  refine TW.move rfl rfl rfl ct ?_
  refine TW.shrU rfl rfl rfl ct rfl ct (fun _ => by decide) ?_
  refine TW.addU rfl rfl rfl ct rfl ct (fun _ => Nat.lt_of_le_of_lt q5 (by decide)) ?_
  refine TW.assign rfl rfl rfl ct ?_
  refine TW.nil (KW.pick [0, 2] [(0, _, _), (2, _, _)] rfl (KW.then_ ?_))
  refine CW.seq (CW.region ?_)
  refine TW.move rfl rfl rfl ct ?_
  refine TW.move rfl rfl rfl ct ?_
  refine TW.shrU rfl rfl rfl ct rfl ct (fun _ => by decide) ?_
  refine TW.addU rfl rfl rfl ct rfl ct (fun _ => Nat.lt_of_le_of_lt q6 (by decide)) ?_
  refine TW.assign rfl rfl rfl ct ?_
  refine TW.nil (KW.pick [0, 2] [(0, _, _), (2, _, _)] rfl (KW.then_ ?_))
  refine CW.seq (CW.region ?_)
  refine TW.move rfl rfl rfl ct ?_
  refine TW.conv rfl rfl rfl Tryz.underlying3 rfl ct ?_
  have hw : IntKind.i64.wrap ((oc x : Nat) : Int) = ((oc x : Nat) : Int) := wrap_fits (by omega)
  erw [hw]
  refine TW.andI rfl rfl rfl ct rfl ct (fun _ => ⟨Nat.lt_of_le_of_lt q6 (by decide), by decide⟩) ?_
  refine TW.assign rfl rfl rfl ct ?_
  refine TW.nil (KW.pick [0, 2] [(0, _, _), (2, _, _)] rfl (KW.then_ ?_))
  refine CW.ret ?_
  refine ret1 Tryz.results85 rfl (⟨Below.refl _ _, ?_⟩)
  exact congrArg (fun n : Nat => Value.int .i64 (n : Int)) q0

theorem ones_c {w : World} {x : Nat} (h : x < 16384) : Gives Tryz.prog 59 #[.int .u64 (x : Int)] w fun u w' => Below w.heap.size w w' ∧ u = .int .i64 (pc x : Int) := by
  refine gives_of (vs := [.int .u64 (x : Int)]) [(0, none, _)] Tryz.func59 rfl Tryz.ntmps59 rfl rfl ?_
  refine CW.seq (CW.region ?_)
  refine TW.assign rfl rfl rfl ct ?_
  refine TW.nil (KW.pick [0, 2] [(0, _, _), (2, _, _)] rfl (KW.then_ ?_))
  refine CW.seq ?_
  refine CW.cond rfl (fun h1 => ?_) (fun h2 => ?_)
  · cases h1
  refine CW.skip (KW.then_ (CW.seq (CW.region ?_)))
  refine TW.move rfl rfl rfl ct ?_
  refine TW.call0 (cap := []) rfl rfl en85 rfl (Args.cons rfl ct Args.nil) (ones64_c h) ?_
  rintro y w1 ⟨c1, rfl⟩
  refine TW.assign rfl rfl rfl ct ?_
  refine TW.nil (KW.pick [0, 2] [(0, _, _), (2, _, _)] rfl (KW.then_ ?_))
  refine CW.ret ?_
  refine ret1 Tryz.results59 rfl (⟨c1, rfl⟩)
end Go.Proofs.YtmhfeehkpndadaaGreat

/- Sets of records by bits: plain. -/
namespace Go.Proofs.YtmhfeehkpndadaaGreat
open Go.Ord

/-- the records whose bits are set; the first one has the highest bit -/
def memb : List Int → Nat → List Int
  | [], _ => []
  | x :: l, m => (if m.testBit l.length then [x] else []) ++ memb l m
theorem memb_congr : ∀ (l : List Int) (m m' : Nat), (∀ i, i < l.length → m.testBit i = m'.testBit i) → memb l m = memb l m'
  | [], _, _, _ => rfl
  | x :: l, m, m', h => by
    unfold memb
    rw [h l.length (by simp), memb_congr l m m' (fun i hi => h i (by simp; omega))]
theorem memb_sub : ∀ (l : List Int) (m : Nat), (memb l m).Sublist l
  | [], _ => List.Sublist.refl _
  | x :: l, m => by
    unfold memb
    split
    · exact (memb_sub l m).cons_cons x
    · exact (memb_sub l m).cons x
def desc (n : Nat) : List Nat := (List.range (2 ^ n)).map fun i => 2 ^ n - 1 - i
theorem desc_succ (n : Nat) : desc (n + 1) = (desc n).map (· + 2 ^ n) ++ desc n := by
  unfold desc
  have e : 2 ^ (n + 1) = 2 ^ n + 2 ^ n := by rw [Nat.pow_succ]; omega
  rw [e, List.range_add, List.map_append, List.map_map, List.map_map]
  congr 1
  · refine List.map_congr_left fun i hi => ?_
    have := List.mem_range.1 hi
    simp only [Function.comp]
    omega
  · refine List.map_congr_left fun i hi => ?_
    have := List.mem_range.1 hi
    simp only [Function.comp]
    omega
theorem mem_desc {n m : Nat} (h : m ∈ desc n) : m < 2 ^ n := by
  unfold desc at h
  obtain ⟨i, hi, rfl⟩ := List.mem_map.1 h
  have := List.mem_range.1 hi
  omega
theorem pc_add_pow {n m : Nat} (h : m < 2 ^ n) : pc (m + 2 ^ n) = pc m + 1 := by
  have hb : m.testBit n = false := Nat.testBit_lt_two_pow h
  have := pc_or (us := List.replicate (n + 1) ⟨0, 0, 0, 0, 0⟩) (m := m) (i := n) (by simp) (by simp; rw [Nat.pow_succ]; omega) hb
  rw [add_bit hb]
  exact this.1
def masks (n k : Nat) : List Nat := (desc n).filter fun m => pc m == k
theorem memb_top {x : Int} {l : List Int} {m : Nat} (h : m < 2 ^ l.length) : memb (x :: l) (m + 2 ^ l.length) = x :: memb l m ∧ memb (x :: l) m = memb l m := by
  have hb : m.testBit l.length = false := Nat.testBit_lt_two_pow h
  constructor
  · rw [memb]
    have h1 : (m + 2 ^ l.length).testBit l.length = true := by rw [add_bit hb, Nat.testBit_or, Nat.one_shiftLeft, Nat.testBit_two_pow_self]; simp
    rw [h1, if_pos rfl]
    show [x] ++ memb l (m + 2 ^ l.length) = x :: memb l m
    rw [memb_congr l (m + 2 ^ l.length) m (fun i hi => by
      rw [add_bit hb, Nat.testBit_or, Nat.one_shiftLeft, Nat.testBit_two_pow]
      have : ¬ l.length = i := by omega
      simp [this])]
    rfl
  · rw [memb, hb]
    rfl
theorem masks_sets : ∀ (l : List Int) (k : Nat), (masks l.length k).map (memb l) = setsS l k
  | [], 0 => by
    have : desc 0 = [0] := rfl
    simp [masks, this, pc, memb, setsS]
  | [], k + 1 => by
    have : desc 0 = [0] := rfl
    simp [masks, this, pc, setsS]
  | x :: l, k => by
    have h1 : ∀ k, ((desc l.length).filter fun m => pc m == k).map (memb (x :: l)) = setsS l k := fun k => by
      rw [← masks_sets l k]
      exact List.map_congr_left fun m hm => (memb_top (mem_desc (List.mem_filter.1 hm).1)).2
    have e : masks (x :: l).length k = ((desc l.length).map (· + 2 ^ l.length)).filter (fun m => pc m == k) ++ (desc l.length).filter fun m => pc m == k := by
      unfold masks
      rw [List.length_cons, desc_succ, List.filter_append]
    rw [e, List.map_append, h1 k, List.filter_map, List.map_map]
    cases k with
    | zero =>
      have h0 : (desc l.length).filter ((fun m => pc m == 0) ∘ (· + 2 ^ l.length)) = [] := by
        rw [List.filter_eq_nil_iff]
        intro m hm
        simp [pc_add_pow (mem_desc hm)]
      rw [h0]
      cases l <;> rfl
    | succ k =>
      have h2 : (desc l.length).filter ((fun m => pc m == k + 1) ∘ (· + 2 ^ l.length)) = masks l.length k := by
        unfold masks
        refine List.filter_congr fun m hm => ?_
        simp [pc_add_pow (mem_desc hm)]
      rw [h2]
      show _ = (setsS l k).map (x :: ·) ++ setsS l (k + 1)
      rw [← masks_sets l k, List.map_map]
      congr 1
      exact List.map_congr_left fun m hm => (memb_top (mem_desc (List.mem_filter.1 hm).1)).1
/-- all sets, the smaller ones first, then by the order of the words -/
def allS (l : List Int) : List (List Int) := (List.range (l.length + 1)).flatMap fun k => setsS l k
/-- the sets up to a size, and of that size those of the first i masks -/
def someS (l : List Int) (k i : Nat) : List (List Int) := ((List.range k).flatMap fun k => setsS l k) ++ (((desc l.length).take i).filter fun m => pc m == k).map (memb l)
theorem someS_end (l : List Int) (k : Nat) : someS l k (2 ^ l.length) = (List.range (k + 1)).flatMap fun k => setsS l k := by
  unfold someS
  rw [List.range_succ, List.flatMap_append, List.take_of_length_le (by simp [desc])]
  congr 1
  rw [List.flatMap_singleton, ← masks_sets]
  rfl
theorem someS_zero (l : List Int) (k : Nat) : someS l k 0 = (List.range k).flatMap fun k => setsS l k := by simp [someS]
theorem desc_get {n i : Nat} (h : i < 2 ^ n) : (desc n)[i]? = some (2 ^ n - 1 - i) := by
  unfold desc
  rw [List.getElem?_map, List.getElem?_range h]
  rfl
theorem someS_succ (l : List Int) (k : Nat) {i : Nat} (h : i < 2 ^ l.length) : someS l k (i + 1) = someS l k i ++ if pc (2 ^ l.length - 1 - i) == k then [memb l (2 ^ l.length - 1 - i)] else [] := by
  unfold someS
  rw [List.take_add_one, desc_get h, List.filter_append, List.map_append, List.append_assoc]
  congr 2
  show (List.filter (fun m => pc m == k) [2 ^ l.length - 1 - i]).map (memb l) = _
  by_cases hq : (pc (2 ^ l.length - 1 - i) == k) = true
  · simp [List.filter, hq]
  · simp [List.filter, hq]
theorem someS_pre (l : List Int) {k i : Nat} (hk : k ≤ l.length) : ∃ suf, allS l = someS l k i ++ suf := by
  have h1 : ∃ s1, someS l k (2 ^ l.length) = someS l k i ++ s1 := by
    unfold someS
    refine ⟨(((desc l.length).drop i).filter fun m => pc m == k).map (memb l), ?_⟩
    rw [List.append_assoc, ← List.map_append, ← List.filter_append, List.take_append_drop, List.take_of_length_le (by simp [desc])]
  obtain ⟨s1, h1⟩ := h1
  have h2 : ∃ s2, allS l = ((List.range (k + 1)).flatMap fun k => setsS l k) ++ s2 := by
    unfold allS
    refine ⟨(List.range' (k + 1) (l.length + 1 - (k + 1))).flatMap fun k => setsS l k, ?_⟩
    rw [← List.flatMap_append, List.range_eq_range', List.range_eq_range']
    congr 1
    have := List.range'_append_1 (s := 0) (m := k + 1) (n := l.length + 1 - (k + 1))
    rw [Nat.zero_add, show k + 1 + (l.length + 1 - (k + 1)) = l.length + 1 by omega] at this
    exact this.symm
  obtain ⟨s2, h2⟩ := h2
  exact ⟨s1 ++ s2, by rw [h2, ← someS_end, h1, List.append_assoc]⟩
end Go.Proofs.YtmhfeehkpndadaaGreat

namespace Go.Proofs.YtmhfeehkpndadaaGreat
open Go.PF Go.RowKit Go.Ord

theorem and_pow (m k : Nat) : decide (((m &&& 2 ^ k : Nat) : Int) ≠ 0) = m.testBit k := by
  have h : m &&& 2 ^ k = if m.testBit k then 2 ^ k else 0 := by
    apply Nat.eq_of_testBit_eq
    intro j
    rw [Nat.testBit_and, Nat.testBit_two_pow]
    by_cases e : k = j
    · subst e
      cases hb : m.testBit k <;> simp
    · cases hb : m.testBit k <;> simp [e]
  rw [h]
  cases m.testBit k with
  | false => simp
  | true =>
    have := Nat.two_pow_pos k
    rw [if_pos rfl]
    exact decide_eq_true (fun e => by have e' : (2 ^ k : Nat) = 0 := Int.ofNat.inj e; omega)

theorem members_c {w : World} {A : Option Addr} {n c m : Nat} : Gives Tryz.prog 61 #[.slice A n c, .int .u64 (m : Int)] w fun u w' => Below w.heap.size w w' ∧ ∃ g1 g2, u = .func (.func 87) #[] [.pointer (some ⟨g1, 0, none⟩), .pointer (some ⟨g2, 0, none⟩)].toArray ∧ Blk w' g1 24 [.slice A n c] ∧ Blk w' g2 57 [.int .u64 (m : Int)] := by
  refine gives_of (vs := [.slice A n c, .int .u64 (m : Int)]) [(0, none, _), (1, none, _)] Tryz.func61 rfl Tryz.ntmps61 rfl rfl ?_
  refine CW.seq (CW.region ?_)
  refine TW.box rfl rfl rfl rfl ?_
  rintro g1 w1 f1
  refine TW.box rfl rfl rfl rfl ?_
  rintro g2 w2 f2
  refine TW.assign rfl rfl rfl ct ?_
  refine TW.nil (KW.pick [0, 1, 2, 3, 4] [(0, _, _), (1, _, _), (2, _, _), (3, _, _), (4, _, _)] rfl (KW.then_ ?_))
  refine CW.seq (CW.region ?_)
  refine TW.makeFunc rfl rfl (Args.cons rfl ct (Args.cons rfl ct Args.nil)) ?_
  refine TW.assign rfl rfl rfl ct ?_
  refine TW.nil (KW.pick [0, 1, 2, 3, 4] [(0, _, _), (1, _, _), (2, _, _), (3, _, _), (4, _, _)] rfl (KW.then_ ?_))
  refine CW.ret ?_
  refine ret1 Tryz.results61 rfl (⟨f1.below.step f2.below, g1, g2, rfl, f1.blk.next f2.below, f2.blk⟩)

set_option maxRecDepth 20000 in
set_option maxHeartbeats 1000000 in
theorem members_iter {w : World} {F : Nat → Prop} {g1 g2 : Nat} {v : Value} {l : List Int} {m : Nat} (hl : SL intT F w v l) (h14 : l.length ≤ 14) (hm : m < 2 ^ 64) (hB1 : Blk w g1 24 [v]) (hB2 : Blk w g2 57 [.int .u64 (m : Int)]) :
    IterOK Tryz.prog 87 [.pointer (some ⟨g1, 0, none⟩), .pointer (some ⟨g2, 0, none⟩)] (fun x : Int => [.int .i64 x]) (fun pre x => ∃ suf, memb l m = pre ++ x :: suf) (fun xs => xs = memb l m) (fun k => k = g1 ∨ k = g2 ∨ F k) w := by
  intro yl J Jx W M hown hsz hyl hM hMlt hJ hJx hy h0
  obtain ⟨A, cap, rfl, _⟩ := hl.form
  have mem : ∀ W' : World, (∀ k, (k = g1 ∨ k = g2 ∨ F k) → k < w.heap.size → W'.heap[k]? = w.heap[k]?) → Blk W' g1 24 [.slice A l.length cap] ∧ Blk W' g2 57 [.int .u64 (m : Int)] ∧ SL intT F W' (.slice A l.length cap) l := fun W' h =>
    ⟨(h g1 (.inl rfl) hB1.lt).trans hB1, (h g2 (.inr (.inl rfl)) hB2.lt).trans hB2, hl.mono (Kept.of_blocks fun k hk hlt => h k (.inr (.inr hk)) hlt)⟩
  obtain ⟨m1, m2, m3⟩ := mem W hown
  refine gives_of (vs := [.func (.yield yl) #[] #[], .pointer (some ⟨g1, 0, none⟩), .pointer (some ⟨g2, 0, none⟩)]) [(0, none, _), (1, none, _), (2, none, _)] Tryz.func87 rfl Tryz.ntmps87 rfl rfl ?_
  refine CW.seq (CW.region ?_)
  refine TW.load rfl rfl one24 rfl ct (fun _ => m1.cell 0) ?_
  refine TW.lenSlice rfl rfl Tryz.underlying24 rfl ct ?_
  refine TW.move rfl rfl rfl ct ?_
  refine TW.nil (KW.pick [0, 1, 2, 6, 7, 8] [(0, _, _), (1, _, _), (2, _, _), (6, _, _), (7, _, _), (8, _, _)] rfl (KW.then_ ?_))
  refine CW.block ?_
  refine CW.loopS (fun x : Nat × List Int × (Nat → Prop) => [(0, none, .func (.yield yl) #[] #[]), (1, none, .pointer (some ⟨g1, 0, none⟩)), (2, none, .pointer (some ⟨g2, 0, none⟩)), (6, none, .slice A l.length cap), (7, none, .int .i64 (l.length : Int)), (8, none, .int .i64 (x.1 : Int))])
    (fun x W' => x.1 ≤ l.length ∧ J x.2.1 x.2.2 W' ∧ memb l m = x.2.1 ++ memb (l.drop x.1) m ∧ W.heap.size ≤ W'.heap.size ∧ (∀ k, x.2.2 k → k < W'.heap.size) ∧ ∀ k, (k = g1 ∨ k = g2 ∨ F k) → k < w.heap.size → W'.heap[k]? = w.heap[k]? ∧ ¬ x.2.2 k) (fun x => l.length - x.1) (0, [], M) [0, 1, 2, 6, 7, 8]
    ⟨Nat.zero_le _, h0, rfl, Nat.le_refl _, hMlt, fun k hk hlt => ⟨hown k hk hlt, (hM k hk).1⟩⟩ rfl ?_
  rintro ⟨i, pre, M1⟩ W1 ⟨hi, hj, hpre, hsz1, hM1, hk1⟩
  dsimp only at hi hj hpre hM1 hk1
  obtain ⟨n1, n2, n3⟩ := mem W1 (fun k hk hlt => (hk1 k hk hlt).1)
  refine CW.seq (CW.region ?_)
  refine TW.lss rfl rfl rfl ct rfl ct ?_
  refine TW.nil (KW.pick [0, 1, 2, 6, 7, 8, 9] [(0, _, _), (1, _, _), (2, _, _), (6, _, _), (7, _, _), (8, _, _), (9, _, _)] rfl (KW.then_ ?_))
  refine CW.seq ?_
  refine CW.condP rfl (fun hlt => ?_) (fun hge => ?_)
  · obtain ⟨x, hx, hxm⟩ := getx (l := l) (k := i) (by omega)
    obtain ⟨ad, rfl⟩ := n3.addr (by omega)
    obtain ⟨hil, hxe⟩ := List.getElem?_eq_some_iff.1 hx
    have hstep : memb (l.drop i) m = (if m.testBit (l.length - 1 - i) then [x] else []) ++ memb (l.drop (i + 1)) m := by
      rw [List.drop_eq_getElem_cons hil, memb, hxe, List.length_drop, show l.length - (i + 1) = l.length - 1 - i by omega]
    have hsh : ((l.length : Int) - 1 - (i : Int)) = ((l.length - 1 - i : Nat) : Int) := by omega
    have hp64 : (2 : Nat) ^ (l.length - 1 - i) < 2 ^ 64 := Nat.pow_lt_pow_right (by decide) (by omega)
    refine CW.skip (KW.then_ (CW.seq (CW.block (CW.seq (CW.region ?_)))))
    refine TW.move rfl rfl rfl ct ?_
    refine TW.indexAddr rfl rfl Tryz.underlying24 sz3 rfl ct rfl ct (fun _ => by (try dsimp only); omega) ?_
    refine TW.load rfl rfl one3 rfl ct (fun _ => n3.getI hx) ?_
    refine TW.assign rfl rfl rfl ct ?_
    refine TW.assign rfl rfl rfl ct ?_
    refine TW.nil (KW.pick [0, 1, 2, 4, 5, 6, 7, 8] [(0, _, _), (1, _, _), (2, _, _), (4, _, _), (5, _, _), (6, _, _), (7, _, _), (8, _, _)] rfl (KW.then_ ?_))
    refine CW.seq ?_
    refine CW.drawR mixed fun W2 hb2 => ?_
    refine RW.draw .weak 12 (by kernel_rfl) (by kernel_rfl) rfl rfl hb2 ?_
    refine DW.load rfl rfl one57 rfl ct (fun _ => n2.cell 0) ?_
    refine DW.load rfl rfl one24 rfl ct (fun _ => n1.cell 0) ?_
    refine DW.lenSlice rfl rfl Tryz.underlying24 rfl ct ?_
    refine DW.sub rfl rfl rfl ct rfl ct (fun _ => by (try dsimp only); omega) ?_
    refine DW.move rfl rfl rfl ct ?_
    refine DW.sub rfl rfl rfl ct rfl ct (fun _ => by (try dsimp only); omega) ?_
    rw [hsh]
    refine DW.shlU rfl rfl rfl ct rfl ct (fun _ => by omega) ?_
    refine DW.andU rfl rfl rfl ct rfl ct (fun _ => ⟨hm, hp64⟩) ?_
    refine DW.neq rfl rfl rfl ct rfl ct ?_
    refine DW.move rfl rfl rfl ct ?_
    refine DW.move rfl rfl rfl ct ?_
    refine DW.move rfl rfl rfl ct ?_
    refine DW.nil (DW.fin [0, 1, 2, 4, 5, 6, 7, 8, 22, 23, 24] [(0, _, _), (1, _, _), (2, _, _), (4, _, _), (5, _, _), (6, _, _), (7, _, _), (8, _, _), (22, _, _), (23, _, _), (24, _, _)] rfl (fun w3 b3 => KW.rk' ?_))
    refine RW.one (by kernel_rfl) (by kernel_rfl) rfl ?_
    rw [and_pow]
    have hs3 := b3.size
    have hj3 : J pre M1 w3 := hJ _ _ _ _ hj (.of_below b3)
    have hk3 : ∀ k, (k = g1 ∨ k = g2 ∨ F k) → k < w.heap.size → w3.heap[k]? = w.heap[k]? ∧ ¬ M1 k := fun k hk hlt => ⟨(b3.block k (by omega)).trans (hk1 k hk hlt).1, (hk1 k hk hlt).2⟩
    by_cases hbit : m.testBit (l.length - 1 - i) = true
    · rw [hbit] at hstep
      rw [hbit]
      refine TW.known rfl rfl ?_
      refine TW.sure ?_
      refine TW.yield rfl rfl rfl (Args.cons rfl ct Args.nil) (hy pre x M1 w3 hj3 ⟨memb (l.drop (i + 1)) m, by rw [hpre, hstep]; rfl⟩ (fun k hk => by have := hM1 k hk; omega) (by omega)) ?_
      rintro yb W4 hR
      refine TW.nil (KW.pick [0, 1, 2, 4, 5, 6, 7, 8, 22, 25] [(0, _, _), (1, _, _), (2, _, _), (4, _, _), (5, _, _), (6, _, _), (7, _, _), (8, _, _), (22, _, _), (25, _, _)] rfl (KW.rk ?_))
      refine RW.one (by kernel_rfl) (by kernel_rfl) rfl ?_
      refine TW.known rfl rfl ?_
      refine TW.not rfl rfl rfl (by simp_all [Cnd]) ?_
      refine TW.nil (KW.pick [0, 1, 2, 4, 5, 6, 7, 8, 22, 26] [(0, _, _), (1, _, _), (2, _, _), (4, _, _), (5, _, _), (6, _, _), (7, _, _), (8, _, _), (22, _, _), (26, _, _)] rfl (KW.rk ?_))
      refine RW.one (by kernel_rfl) (by kernel_rfl) rfl ?_
      refine TW.pickAnd rfl rfl rfl ct rfl pT ?_
      refine TW.nil (KW.pick [0, 1, 2, 4, 5, 6, 7, 8, 27] [(0, _, _), (1, _, _), (2, _, _), (4, _, _), (5, _, _), (6, _, _), (7, _, _), (8, _, _), (27, _, _)] rfl (KW.rk ?_))
      refine RW.end rfl (KW.pick [0, 1, 2, 4, 5, 6, 7, 8, 27] [(0, _, _), (1, _, _), (2, _, _), (4, _, _), (5, _, _), (6, _, _), (7, _, _), (8, _, _), (27, _, _)] rfl (KW.then_ ?_))
      refine CW.cond rfl (fun hno => ?_) (fun hgo => ?_)
      · refine CW.ret (KW.blockR (KW.thenR (KW.thenR (KW.blockR ?_))))
        refine ret0 Tryz.results87 (.inr ?_)
        obtain ⟨M', hx'⟩ := hR.no (by simpa using hno)
        exact ⟨_, M', hx'⟩
      · refine CW.skip (KW.blockN (KW.then_ (CW.region ?_)))
        refine TW.add rfl rfl rfl ct rfl ct (fun _ => by (try dsimp only); omega) ?_
        refine TW.move rfl rfl rfl ct ?_
        refine TW.nil (KW.pick [0, 1, 2, 4, 5, 6, 7, 8] [(0, _, _), (1, _, _), (2, _, _), (4, _, _), (5, _, _), (6, _, _), (7, _, _), (8, _, _)] rfl ?_)
        obtain ⟨M', hj4, hm4⟩ := hR.yes (by simpa using hgo)
        have hs4 := hR.size
        refine KW.round (i + 1, pre ++ [x], M') [0, 1, 2, 6, 7, 8] rfl ⟨by show i + 1 ≤ l.length; omega, hj4, ?_, by show W.heap.size ≤ W4.heap.size; omega, fun k hk => (hm4 k hk).2, fun k hk hlt => ⟨(hR.kept k (by omega) (hk3 k hk hlt).2 (hM k hk).2).trans (hk3 k hk hlt).1, fun h => ?_⟩⟩ (by show l.length - (i + 1) < l.length - i; omega)
        · show memb l m = (pre ++ [x]) ++ memb (l.drop (i + 1)) m
          rw [hpre, hstep]
          simp
        · rcases (hm4 k h).1 with h | h
          · exact (hk3 k hk hlt).2 h
          · omega
    · have hbit' : m.testBit (l.length - 1 - i) = false := by simpa using hbit
      rw [hbit'] at hstep
      rw [hbit']
      refine TW.dead (.bool false) rfl (by simp [Cnd]) rfl ?_
      refine TW.nil (KW.pick [0, 1, 2, 4, 5, 6, 7, 8, 22, 25] [(0, _, _), (1, _, _), (2, _, _), (4, _, _), (5, _, _), (6, _, _), (7, _, _), (8, _, _), (22, _, _), (25, _, _)] rfl (KW.rk ?_))
      refine RW.one (by kernel_rfl) (by kernel_rfl) rfl ?_
      refine TW.dead (.bool false) rfl (by simp [Cnd]) rfl ?_
      refine TW.nil (KW.pick [0, 1, 2, 4, 5, 6, 7, 8, 22, 26] [(0, _, _), (1, _, _), (2, _, _), (4, _, _), (5, _, _), (6, _, _), (7, _, _), (8, _, _), (22, _, _), (26, _, _)] rfl (KW.rk ?_))
      refine RW.one (by kernel_rfl) (by kernel_rfl) rfl ?_
      refine TW.pickAnd rfl rfl rfl ct rfl pAnd0 ?_
      refine TW.nil (KW.pick [0, 1, 2, 4, 5, 6, 7, 8, 27] [(0, _, _), (1, _, _), (2, _, _), (4, _, _), (5, _, _), (6, _, _), (7, _, _), (8, _, _), (27, _, _)] rfl (KW.rk ?_))
      refine RW.end rfl (KW.pick [0, 1, 2, 4, 5, 6, 7, 8, 27] [(0, _, _), (1, _, _), (2, _, _), (4, _, _), (5, _, _), (6, _, _), (7, _, _), (8, _, _), (27, _, _)] rfl (KW.then_ ?_))
      refine CW.cond rfl (fun hno => ?_) (fun hgo => ?_)
      · exact absurd hno (by simp)
      · refine CW.skip (KW.blockN (KW.then_ (CW.region ?_)))
        refine TW.add rfl rfl rfl ct rfl ct (fun _ => by (try dsimp only); omega) ?_
        refine TW.move rfl rfl rfl ct ?_
        refine TW.nil (KW.pick [0, 1, 2, 4, 5, 6, 7, 8] [(0, _, _), (1, _, _), (2, _, _), (4, _, _), (5, _, _), (6, _, _), (7, _, _), (8, _, _)] rfl ?_)
        refine KW.round (i + 1, pre, M1) [0, 1, 2, 6, 7, 8] rfl ⟨by show i + 1 ≤ l.length; omega, hj3, ?_, by show W.heap.size ≤ w3.heap.size; omega, fun k hk => by have := hM1 k hk; show k < w3.heap.size; omega, hk3⟩ (by show l.length - (i + 1) < l.length - i; omega)
        show memb l m = pre ++ memb (l.drop (i + 1)) m
        rw [hpre, hstep]
        rfl
  · have hie : i = l.length := by omega
    subst hie
    refine CW.exit (KW.thenX (KW.thenX (KW.blockX ?_)))
    refine end0 Tryz.results87 (.inl ⟨pre, M1, ?_, hj⟩)
    rw [hpre, List.drop_length]
    simp [memb]
end Go.Proofs.YtmhfeehkpndadaaGreat

namespace Go.Proofs.YtmhfeehkpndadaaGreat
open Go.PF Go.RowKit Go.Ord

theorem ints_one (l : List Int) : ∀ u ∈ l.map (Value.int .i64), u.oneCell' = true := by
  intro u hu
  rw [List.mem_map] at hu
  obtain ⟨a, _, rfl⟩ := hu
  rfl
theorem _root_.Go.PF.SL.allI {F : Nat → Prop} {w : World} {v : Value} {l : List Int} (h : SL intT F w v l) : ∀ x ∈ l, I64 x := fun x hx => by
  obtain ⟨j, hj, hje⟩ := List.getElem_of_mem hx
  exact h.rngI (i := j) (x := x) (by rw [← hje]; exact List.getElem?_eq_getElem hj)
theorem insS_at {n : Int} : ∀ {l : List Int} {k : Nat}, k ≤ l.length → Upto (· < n) l k → (∀ x, l[k]? = some x → ¬ x < n) → insS n l = if l[k]? = some n then l else l.take k ++ n :: l.drop k
  | [], k, hk, _, _ => by
    obtain rfl : k = 0 := by simpa using hk
    simp [insS]
  | y :: l, 0, _, _, h => by
    have h0 := h y rfl
    simp only [insS, if_neg h0]
    by_cases e : y = n
    · simp [e]
    · simp [e]
  | y :: l, k + 1, hk, hu, h => by
    have h0 := hu 0 y (by omega) rfl
    have ih := insS_at (n := n) (l := l) (k := k) (by simpa using hk) (fun i x hi hx => hu (i + 1) x (by omega) (by simpa using hx)) (fun x hx => h x (by simpa using hx))
    simp only [insS, if_pos h0, ih, List.getElem?_cons_succ, List.take_succ_cons, List.drop_succ_cons]
    split <;> simp
theorem insS_len (n : Int) : ∀ l : List Int, (insS n l).length ≤ l.length + 1
  | [] => by simp [insS]
  | y :: l => by
    have := insS_len n l
    unfold insS
    split
    · simp; omega
    · split <;> simp

set_option maxRecDepth 20000 in
theorem rinsert_c {w : World} {F : Nat → Prop} {v : Value} {l : List Int} {n : Int} (hl : SL intT F w v l) (hn : l.length ≤ 1000000) (hnI : I64 n) : Gives Tryz.prog 41 #[v, .int .i64 n] w fun u w' => Below w.heap.size w w' ∧ SL intT (fun k => F k ∨ w.heap.size ≤ k) w' u (insS n l) := by
  obtain ⟨A, cap, rfl, hcap⟩ := hl.form
  have hI := hl.allI
  refine gives_of (vs := [.slice A l.length cap, .int .i64 n]) [(0, none, _), (1, none, _)] Tryz.func41 rfl Tryz.ntmps41 rfl rfl ?_
  refine CW.seq (CW.region ?_)
  refine TW.assign rfl rfl rfl ct ?_
  refine TW.nil (KW.pick [0, 1, 4] [(0, _, _), (1, _, _), (4, _, _)] rfl (KW.then_ ?_))
  refine CW.seq (CW.region ?_)
  refine TW.assign rfl rfl rfl ct ?_
  refine TW.nil (KW.pick [0, 1, 4, 5] [(0, _, _), (1, _, _), (4, _, _), (5, _, _)] rfl (KW.then_ ?_))
  refine CW.seq (CW.block ?_)
  refine CW.loopS (fun k : Nat => [(0, none, .slice A l.length cap), (1, none, .int .i64 n), (5, none, .int .i64 (k : Int))])
    (fun k W => k ≤ l.length ∧ W = w ∧ Upto (· < n) l k) (fun k => l.length - k) 0 [0, 1, 5] ⟨by omega, rfl, Upto.zero⟩ rfl ?_
  rintro k W ⟨hk, rfl, hup⟩
  by_cases hkl : k < l.length
  · obtain ⟨x, hx, _⟩ := getx hkl
    obtain ⟨ad, rfl⟩ := hl.addr (by omega)
    refine CW.seq (CW.seq (CW.region ?_))
    refine TW.move rfl rfl rfl ct ?_
    refine TW.move rfl rfl rfl ct ?_
    refine TW.lenSlice rfl rfl Tryz.underlying24 rfl ct ?_
    refine TW.lss rfl rfl rfl ct rfl ct ?_
    refine TW.move rfl rfl rfl ct ?_
    refine TW.move rfl rfl rfl ct ?_
    refine TW.move rfl rfl rfl ct ?_
    refine TW.indexAddr rfl rfl Tryz.underlying24 sz3 rfl id rfl id (fun h => by (try dsimp only); first | omega | (simp [Cnd] at h; omega)) ?_
    refine TW.load rfl rfl one3 rfl id (fun _ => hl.getI hx) ?_
    refine TW.move rfl rfl rfl ct ?_
    refine TW.lss rfl rfl rfl id rfl id ?_
    refine TW.pickAnd rfl rfl rfl ct rfl pAnd0 ?_
    refine TW.nil (KW.pick [0, 1, 5, 17] [(0, _, _), (1, _, _), (5, _, _), (17, _, _)] rfl (KW.then_ ?_))
    refine CW.cond rfl (fun hin => ?_) (fun hout => ?_)
    · simp only [Bool.and_eq_true, decide_eq_true_eq] at hin
      refine CW.skip (KW.then_ (CW.block (CW.region ?_)))
      refine TW.move rfl rfl rfl ct ?_
      refine TW.add rfl rfl rfl ct rfl ct (fun _ => by (try dsimp only); omega) ?_
      refine TW.assign rfl rfl rfl ct ?_
      refine TW.nil (KW.pick [0, 1, 5] [(0, _, _), (1, _, _), (5, _, _)] rfl (KW.blockN ?_))
      refine KW.round (k + 1) [0, 1, 5] rfl ⟨by omega, rfl, hup.succ hx hin.2⟩ (by omega)
    · have hnx : ¬ x < n := by simp at hout; omega
      have hins := insS_at hk hup (fun y hy => by rw [hx] at hy; cases hy; exact hnx)
      refine CW.exit (KW.thenX (KW.thenX (KW.blockX (KW.then_ (CW.seq (CW.seq (CW.region ?_)))))))
      refine TW.move rfl rfl rfl ct ?_
      refine TW.move rfl rfl rfl ct ?_
      refine TW.lenSlice rfl rfl Tryz.underlying24 rfl ct ?_
      refine TW.lss rfl rfl rfl ct rfl ct ?_
      refine TW.move rfl rfl rfl ct ?_
      refine TW.move rfl rfl rfl ct ?_
      refine TW.move rfl rfl rfl ct ?_
      refine TW.indexAddr rfl rfl Tryz.underlying24 sz3 rfl id rfl id (fun h => by (try dsimp only); first | omega | (simp [Cnd] at h; omega)) ?_
      refine TW.load rfl rfl one3 rfl id (fun _ => hl.getI hx) ?_
      refine TW.move rfl rfl rfl ct ?_
      refine TW.eql rfl rfl rfl id rfl id ?_
      refine TW.pickAnd rfl rfl rfl ct rfl pAnd0 ?_
      refine TW.nil (KW.pick [0, 1, 5, 31] [(0, _, _), (1, _, _), (5, _, _), (31, _, _)] rfl (KW.then_ ?_))
      refine CW.cond rfl (fun heq => ?_) (fun hne => ?_)
      · have hxn : x = n := by simp at heq; omega
        rw [hins, if_pos (by rw [hx, hxn])]
        refine CW.seq (CW.region ?_)
        refine TW.move rfl rfl rfl ct ?_
        refine TW.assign rfl rfl rfl ct ?_
        refine TW.nil (KW.pick [0, 1, 4, 5] [(0, _, _), (1, _, _), (4, _, _), (5, _, _)] rfl (KW.then_ ?_))
        refine CW.ret (KW.thenR ?_)
        refine ret1 Tryz.results41 rfl (⟨Below.refl _ _, hl.wider fun _ h => .inl h⟩)
      · have hxn : ¬ x = n := by simp at hne; omega
        rw [hins, if_neg (by rw [hx]; simpa using hxn)]
        refine CW.skip (KW.then_ (CW.seq (CW.drawO mixed (by kernel_rfl) ?_)))
        refine OW.buildSlice0 3 rfl rfl eo24 ?_
        refine DW.move rfl rfl rfl ct ?_
        refine DW.move rfl rfl rfl ct ?_
        refine DW.sliceH rfl rfl Tryz.underlying24 sz3 rfl ct rfl ct (fun _ => by (try dsimp only); omega) ?_
        have hn1 : ∀ (j : Nat) (u : Value), ((l.take k).map (Value.int .i64))[j]? = some u → ∃ ad' : Addr, some ad = some ad' ∧ W.cell? (ad'.add j) = some u := by
          intro j u hu
          simp only [List.getElem?_map, List.getElem?_take] at hu
          by_cases hj : j < k
          · rw [if_pos hj] at hu
            obtain ⟨y, hy, rfl⟩ := Option.map_eq_some_iff.1 hu
            obtain ⟨ad, h1, h2, _⟩ := hl.int hy
            exact ⟨ad, h1, by rw [Nat.mul_one] at h2; exact h2⟩
          · rw [if_neg hj] at hu; simp at hu
        refine OW.append (m := k) (A := some ad) ((l.take k).map (Value.int .i64)) rfl rfl go24 rfl (by kernel_rfl) rfl ct hn1 (by simp; omega) (ints_one _) (by omega) (by omega) ?_
        refine DW.move rfl rfl rfl ct ?_
        refine OW.buildSlice 3 _ rfl rfl rfl eo24 (DArgs.cons rfl ct DArgs.nil) rfl rfl rfl rfl rfl ?_
        refine OW.appendR [.int .i64 n] rfl rfl go24 rfl (by kernel_rfl) rfl ct (fun u hu => by simp at hu; subst hu; rfl) (by omega) (by omega) rfl ?_
        refine DW.move rfl rfl rfl ct ?_
        refine DW.move rfl rfl rfl ct ?_
        refine DW.sliceL rfl rfl Tryz.underlying24 sz3 rfl ct rfl ct (fun _ => by (try dsimp only); omega) ?_
        have hn2 : ∀ (j : Nat) (u : Value), ((l.drop k).map (Value.int .i64))[j]? = some u → ∃ ad' : Addr, (if cap = k then some ad else (some ad).map (fun a : Addr => a.add (k * 1))) = some ad' ∧ W.cell? (ad'.add j) = some u := by
          intro j u hu
          simp only [List.getElem?_map, List.getElem?_drop] at hu
          obtain ⟨y, hy, rfl⟩ := Option.map_eq_some_iff.1 hu
          obtain ⟨ad, h1, h2, _⟩ := hl.int hy
          have hlt := (List.getElem?_eq_some_iff.1 hy).1
          refine ⟨ad.add (k * 1), by rw [if_neg (by omega), h1]; rfl, ?_⟩
          rw [Addr.add_add]
          rw [Nat.mul_one] at h2 ⊢
          exact h2
        refine OW.append (m := l.length - k) (A := if cap = k then some ad else (some ad).map (fun a : Addr => a.add (k * 1))) ((l.drop k).map (Value.int .i64)) rfl rfl go24 rfl (by kernel_rfl) rfl ct hn2 (by simp) (ints_one _) (by omega) (by omega) ?_
        refine OW.assign rfl rfl rfl ct (rowE_strong _ _ _ _ _) (by kernel_rfl) ?_
        refine DW.nil (DW.finP [4] rfl fun vs w2 hb2 hs2 => KW.then_ ?_)
        obtain ⟨v4, rfl, h4⟩ := Sats.one hs2
        refine CW.ret ?_
        have h4' : OwnS w2 3 1 v4 (0 + k + 1 + (l.length - k)) (([] ++ (l.take k).map (Value.int .i64) ++ [.int .i64 n]) ++ (l.drop k).map (Value.int .i64)) ∧ ∀ g, v4.ownBlock = some g → W.heap.size ≤ g := h4
        refine ret1 Tryz.results41 rfl (⟨hb2, ?_⟩)
        have e2 : (l.take k ++ n :: l.drop k).length = 0 + k + 1 + (l.length - k) := by simp; omega
        refine OwnS.toInts (e := 3) ?_ ?_ (fun g hg => .inr (h4'.2 g hg)) (by omega)
        · rw [e2]
          simpa using h4'.1
        · intro x hx
          rw [List.mem_append, List.mem_cons] at hx
          rcases hx with hx | rfl | hx
          · exact hI x (List.mem_of_mem_take hx)
          · exact hnI
          · exact hI x (List.mem_of_mem_drop hx)
  · have hke : k = l.length := by omega
    have hnone : l[k]? = none := List.getElem?_eq_none (by omega)
    have hins := insS_at hk hup (fun y hy => by rw [hnone] at hy; cases hy)
    rw [hnone, if_neg (by simp)] at hins
    rw [hins]
    refine CW.seq (CW.seq (CW.region ?_))
    refine TW.move rfl rfl rfl ct ?_
    refine TW.move rfl rfl rfl ct ?_
    refine TW.lenSlice rfl rfl Tryz.underlying24 rfl ct ?_
    refine TW.lss rfl rfl rfl ct rfl ct ?_
    refine TW.move rfl rfl rfl ct ?_
    refine TW.dead (.bool false) rfl (by simp [Cnd, hke]) rfl ?_
    refine TW.dead (.bool false) rfl (by simp [Cnd, hke]) rfl ?_
    refine TW.dead (.bool false) rfl (by simp [Cnd, hke]) rfl ?_
    refine TW.dead (.bool false) rfl (by simp [Cnd, hke]) rfl ?_
    refine TW.dead (.bool false) rfl (by simp [Cnd, hke]) rfl ?_
    refine TW.dead (.bool false) rfl (by simp [Cnd, hke]) rfl ?_
    refine TW.pickAnd rfl rfl rfl ct rfl pAnd0 ?_
    refine TW.nil (KW.pick [0, 1, 5, 17] [(0, _, _), (1, _, _), (5, _, _), (17, _, _)] rfl (KW.then_ ?_))
    refine CW.cond rfl (fun hin => ?_) (fun hout => ?_)
    · exfalso; simp [hke] at hin
    refine CW.exit (KW.thenX (KW.thenX (KW.blockX (KW.then_ (CW.seq (CW.seq (CW.region ?_)))))))
    refine TW.move rfl rfl rfl ct ?_
    refine TW.move rfl rfl rfl ct ?_
    refine TW.lenSlice rfl rfl Tryz.underlying24 rfl ct ?_
    refine TW.lss rfl rfl rfl ct rfl ct ?_
    refine TW.move rfl rfl rfl ct ?_
    refine TW.dead (.bool false) rfl (by simp [Cnd, hke]) rfl ?_
    refine TW.dead (.bool false) rfl (by simp [Cnd, hke]) rfl ?_
    refine TW.dead (.bool false) rfl (by simp [Cnd, hke]) rfl ?_
    refine TW.dead (.bool false) rfl (by simp [Cnd, hke]) rfl ?_
    refine TW.dead (.bool false) rfl (by simp [Cnd, hke]) rfl ?_
    refine TW.dead (.bool false) rfl (by simp [Cnd, hke]) rfl ?_
    refine TW.pickAnd rfl rfl rfl ct rfl pAnd0 ?_
    refine TW.nil (KW.pick [0, 1, 5, 31] [(0, _, _), (1, _, _), (5, _, _), (31, _, _)] rfl (KW.then_ ?_))
    refine CW.cond rfl (fun heq => ?_) (fun hne => ?_)
    · exfalso; simp [hke] at heq
    refine CW.skip (KW.then_ (CW.seq (CW.drawO mixed (by kernel_rfl) ?_)))
    refine OW.buildSlice0 3 rfl rfl eo24 ?_
    refine DW.move rfl rfl rfl ct ?_
    refine DW.move rfl rfl rfl ct ?_
    refine DW.sliceH rfl rfl Tryz.underlying24 sz3 rfl ct rfl ct (fun _ => by (try dsimp only); omega) ?_
    have hn1 : ∀ (j : Nat) (u : Value), ((l.take k).map (Value.int .i64))[j]? = some u → ∃ ad' : Addr, A = some ad' ∧ W.cell? (ad'.add j) = some u := by
      intro j u hu
      simp only [List.getElem?_map, List.getElem?_take] at hu
      by_cases hj : j < k
      · rw [if_pos hj] at hu
        obtain ⟨y, hy, rfl⟩ := Option.map_eq_some_iff.1 hu
        obtain ⟨ad, h1, h2, _⟩ := hl.int hy
        exact ⟨ad, h1, by rw [Nat.mul_one] at h2; exact h2⟩
      · rw [if_neg hj] at hu; simp at hu
    refine OW.append (m := k) (A := A) ((l.take k).map (Value.int .i64)) rfl rfl go24 rfl (by kernel_rfl) rfl ct hn1 (by simp; omega) (ints_one _) (by omega) (by omega) ?_
    refine DW.move rfl rfl rfl ct ?_
    refine OW.buildSlice 3 _ rfl rfl rfl eo24 (DArgs.cons rfl ct DArgs.nil) rfl rfl rfl rfl rfl ?_
    refine OW.appendR [.int .i64 n] rfl rfl go24 rfl (by kernel_rfl) rfl ct (fun u hu => by simp at hu; subst hu; rfl) (by omega) (by omega) rfl ?_
    refine DW.move rfl rfl rfl ct ?_
    refine DW.move rfl rfl rfl ct ?_
    refine DW.sliceL rfl rfl Tryz.underlying24 sz3 rfl ct rfl ct (fun _ => by (try dsimp only); omega) ?_
    have hn2 : ∀ (j : Nat) (u : Value), ((l.drop k).map (Value.int .i64))[j]? = some u → ∃ ad' : Addr, (if cap = k then A else (A).map (fun a : Addr => a.add (k * 1))) = some ad' ∧ W.cell? (ad'.add j) = some u := by
      intro j u hu
      simp only [List.getElem?_map, List.getElem?_drop] at hu
      obtain ⟨y, hy, rfl⟩ := Option.map_eq_some_iff.1 hu
      obtain ⟨ad, h1, h2, _⟩ := hl.int hy
      have hlt := (List.getElem?_eq_some_iff.1 hy).1
      refine ⟨ad.add (k * 1), by rw [if_neg (by omega), h1]; rfl, ?_⟩
      rw [Addr.add_add]
      rw [Nat.mul_one] at h2 ⊢
      exact h2
    refine OW.append (m := l.length - k) (A := if cap = k then A else (A).map (fun a : Addr => a.add (k * 1))) ((l.drop k).map (Value.int .i64)) rfl rfl go24 rfl (by kernel_rfl) rfl ct hn2 (by simp) (ints_one _) (by omega) (by omega) ?_
    refine OW.assign rfl rfl rfl ct (rowE_strong _ _ _ _ _) (by kernel_rfl) ?_
    refine DW.nil (DW.finP [4] rfl fun vs w2 hb2 hs2 => KW.then_ ?_)
    obtain ⟨v4, rfl, h4⟩ := Sats.one hs2
    refine CW.ret ?_
    have h4' : OwnS w2 3 1 v4 (0 + k + 1 + (l.length - k)) (([] ++ (l.take k).map (Value.int .i64) ++ [.int .i64 n]) ++ (l.drop k).map (Value.int .i64)) ∧ ∀ g, v4.ownBlock = some g → W.heap.size ≤ g := h4
    refine ret1 Tryz.results41 rfl (⟨hb2, ?_⟩)
    have e2 : (l.take k ++ n :: l.drop k).length = 0 + k + 1 + (l.length - k) := by simp; omega
    refine OwnS.toInts (e := 3) ?_ ?_ (fun g hg => .inr (h4'.2 g hg)) (by omega)
    · rw [e2]
      simpa using h4'.1
    · intro x hx
      rw [List.mem_append, List.mem_cons] at hx
      rcases hx with hx | rfl | hx
      · exact hI x (List.mem_of_mem_take hx)
      · exact hnI
      · exact hI x (List.mem_of_mem_drop hx)

set_option maxRecDepth 20000 in
theorem rrecords_c {w : World} {F : Nat → Prop} {v : Value} {l : List Ev} (hl : SL evT F w v l) (hsm : l.length ≤ 1000) (hne : ∀ e ∈ l, e.needs.length ≤ 1000) : Gives Tryz.prog 20 #[v] w fun u w' => Below w.heap.size w w' ∧ SL intT (fun k => w.heap.size ≤ k) w' u (recsS l) := by
  obtain ⟨A, cap, rfl, hcap⟩ := hl.form
  refine gives_of (vs := [.slice A l.length cap]) [(0, none, _)] Tryz.func20 rfl Tryz.ntmps20 rfl rfl ?_
  refine CW.seq (CW.region ?_)
  refine TW.assign rfl rfl rfl ct ?_
  refine TW.nil (KW.pick [0, 2] [(0, _, _), (2, _, _)] rfl (KW.then_ ?_))
  refine CW.seq (CW.region ?_)
  refine TW.buildSlice0 3 rfl rfl eo24 ?_
  rintro g1 w1 f1
  refine TW.assign rfl rfl rfl ct ?_
  refine TW.nil (KW.pick [0, 2, 3] [(0, _, _), (2, _, _), (3, _, _)] rfl (KW.then_ ?_))
  refine CW.seq (CW.seq (CW.region ?_))
  refine TW.assign rfl rfl rfl ct ?_
  refine TW.nil (KW.pick [0, 2, 3, 4] [(0, _, _), (2, _, _), (3, _, _), (4, _, _)] rfl (KW.then_ ?_))
  refine CW.block ?_
  refine CW.loopS (fun x : Nat × Value => [(0, none, .slice A l.length cap), (3, none, x.2), (4, none, .int .i64 (x.1 : Int))])
    (fun x W => x.1 ≤ l.length ∧ Below w.heap.size w W ∧ SL intT (fun k => w.heap.size ≤ k) W x.2 (recsS (l.take x.1)) ∧ (recsS (l.take x.1)).length ≤ x.1 * 1000) (fun x => l.length - x.1) (0, .slice (some ⟨g1, 0, none⟩) 0 0) [0, 3, 4]
    ⟨by simp, f1.below, ⟨_, _, rfl, Nat.le_refl _, by simp [recsS, needsOf, insAll], fun i x hx => by simp [recsS, needsOf, insAll] at hx⟩, by simp [recsS, needsOf, insAll]⟩ rfl ?_
  rintro ⟨k, ov⟩ W ⟨hk, hW, hov, hlen⟩
  dsimp only at hk hov hlen
  refine CW.seq (CW.seq (CW.region ?_))
  refine TW.move rfl rfl rfl ct ?_
  refine TW.move rfl rfl rfl ct ?_
  refine TW.lenSlice rfl rfl Tryz.underlying23 rfl ct ?_
  refine TW.lss rfl rfl rfl ct rfl ct ?_
  refine TW.nil (KW.pick [0, 3, 4, 10] [(0, _, _), (3, _, _), (4, _, _), (10, _, _)] rfl (KW.then_ ?_))
  refine CW.condP rfl (fun hlt => ?_) (fun hge => ?_)
  · obtain ⟨e, he, hem⟩ := getx (l := l) (k := k) (by omega)
    have hlW := hl.below hW
    obtain ⟨ad, rfl⟩ := hlW.addr (by omega)
    obtain ⟨nx, cx, _, _, _, hnx⟩ := SE.get hlW he
    obtain ⟨C, ccap, rfl, _⟩ := hnx.form
    have hnl := hne e hem
    have htake : l.take (k + 1) = l.take k ++ [e] := by rw [List.take_add_one, he]; rfl
    have hrec : recsS (l.take (k + 1)) = insAll (recsS (l.take k)) e.needs := by
      rw [htake]
      unfold recsS needsOf insAll
      simp [List.flatMap_append, List.foldl_append]
    refine CW.skip (KW.then_ (CW.seq (CW.block (CW.seq (CW.region ?_)))))
    refine TW.assign rfl rfl rfl ct ?_
    refine TW.nil (KW.pick [0, 3, 4, 5] [(0, _, _), (3, _, _), (4, _, _), (5, _, _)] rfl (KW.then_ ?_))
    refine CW.block ?_
    refine CW.loopS (fun x : Nat × Value => [(0, none, .slice (some ad) l.length cap), (3, none, x.2), (4, none, .int .i64 (k : Int)), (5, none, .int .i64 (x.1 : Int))])
      (fun x W' => x.1 ≤ e.needs.length ∧ Below W.heap.size W W' ∧ SL intT (fun k => w.heap.size ≤ k) W' x.2 (insAll (recsS (l.take k)) (e.needs.take x.1)) ∧ (insAll (recsS (l.take k)) (e.needs.take x.1)).length ≤ k * 1000 + x.1) (fun x => e.needs.length - x.1) (0, ov) [0, 3, 4, 5]
      ⟨by simp, Below.refl _ _, hov, hlen⟩ rfl ?_
    rintro ⟨j, pv⟩ W2 ⟨hj, hW2, hpv, hlen2⟩
    dsimp only at hj hpv hlen2
    have hk2 := fun (j : Nat) (u : Value) h => (hW2.cell (block_lt_of_cell (cx j u h))).trans (cx j u h)
    refine CW.seq (CW.seq (CW.region ?_))
    refine TW.move rfl rfl rfl ct ?_
    refine TW.move rfl rfl rfl ct ?_
    refine TW.move rfl rfl rfl ct ?_
    refine TW.indexAddr rfl rfl Tryz.underlying23 sz43 rfl ct rfl ct (fun _ => by (try dsimp only); omega) ?_
    refine TW.fieldAddr rfl rfl fo43_3 rfl ct ?_
    refine TW.load rfl rfl one24 rfl ct (fun _ => hk2 3 _ rfl) ?_
    refine TW.lenSlice rfl rfl Tryz.underlying24 rfl ct ?_
    refine TW.lss rfl rfl rfl ct rfl ct ?_
    refine TW.nil (KW.pick [0, 3, 4, 5, 20] [(0, _, _), (3, _, _), (4, _, _), (5, _, _), (20, _, _)] rfl (KW.then_ ?_))
    refine CW.condP rfl (fun hlt2 => ?_) (fun hge2 => ?_)
    · obtain ⟨y, hy, hym⟩ := getx (l := e.needs) (k := j) (by omega)
      obtain ⟨nd, rfl⟩ := hnx.addr (by omega)
      refine CW.skip (KW.then_ (CW.seq (CW.block (CW.region ?_))))
      refine TW.move rfl rfl rfl ct ?_
      refine TW.move rfl rfl rfl ct ?_
      refine TW.move rfl rfl rfl ct ?_
      refine TW.indexAddr rfl rfl Tryz.underlying23 sz43 rfl ct rfl ct (fun _ => by (try dsimp only); omega) ?_
      refine TW.fieldAddr rfl rfl fo43_3 rfl ct ?_
      refine TW.load rfl rfl one24 rfl ct (fun _ => hk2 3 _ rfl) ?_
      refine TW.move rfl rfl rfl ct ?_
      refine TW.indexAddr rfl rfl Tryz.underlying24 sz3 rfl ct rfl ct (fun _ => by (try dsimp only); omega) ?_
      refine TW.load rfl rfl one3 rfl ct (fun _ => (hnx.below hW2).getI hy) ?_
      refine TW.call0 (cap := []) rfl rfl en41 rfl (Args.cons rfl ct (Args.cons rfl ct Args.nil)) (rinsert_c hpv (by omega) (hnx.rngI hy)) ?_
      rintro y3 w3 ⟨hb3, hsi3⟩
      have e3 : insAll (recsS (l.take k)) (e.needs.take (j + 1)) = insS y (insAll (recsS (l.take k)) (e.needs.take j)) := by
        rw [List.take_add_one, hy]
        unfold insAll
        simp [List.foldl_append]
      refine TW.assign rfl rfl rfl ct ?_
      refine TW.nil (KW.pick [0, 3, 4, 5] [(0, _, _), (3, _, _), (4, _, _), (5, _, _)] rfl (KW.blockN (KW.then_ ?_)))
      refine CW.region ?_
      refine TW.move rfl rfl rfl ct ?_
      refine TW.add rfl rfl rfl ct rfl ct (fun _ => by (try dsimp only); omega) ?_
      refine TW.assign rfl rfl rfl ct ?_
      refine TW.nil (KW.pick [0, 3, 4, 5] [(0, _, _), (3, _, _), (4, _, _), (5, _, _)] rfl ?_)
      refine KW.round (j + 1, y3) [0, 3, 4, 5] rfl ⟨by show j + 1 ≤ e.needs.length; omega, hW2.step hb3, by show SL intT (fun k => w.heap.size ≤ k) w3 y3 (insAll (recsS (l.take k)) (e.needs.take (j + 1))); rw [e3]; exact hsi3.wider fun q hq => by have := (hW.step hW2).size; rcases hq with h | h <;> omega, ?_⟩ (by show e.needs.length - (j + 1) < e.needs.length - j; omega)
      show (insAll (recsS (l.take k)) (e.needs.take (j + 1))).length ≤ k * 1000 + (j + 1)
      rw [e3]
      have := insS_len y (insAll (recsS (l.take k)) (e.needs.take j))
      omega
    · have hje : e.needs.take j = e.needs := List.take_of_length_le (by omega)
      rw [hje] at hpv hlen2
      refine CW.exit (KW.thenX (KW.thenX (KW.blockX (KW.blockN (KW.then_ (CW.region ?_))))))
      refine TW.move rfl rfl rfl ct ?_
      refine TW.add rfl rfl rfl ct rfl ct (fun _ => by (try dsimp only); omega) ?_
      refine TW.assign rfl rfl rfl ct ?_
      refine TW.nil (KW.pick [0, 3, 4, 5] [(0, _, _), (3, _, _), (4, _, _), (5, _, _)] rfl ?_)
      refine KW.round (k + 1, pv) [0, 3, 4] rfl ⟨by show k + 1 ≤ l.length; omega, hW.step hW2, by show SL intT (fun k => w.heap.size ≤ k) W2 pv (recsS (l.take (k + 1))); rw [hrec]; exact hpv, ?_⟩ (by show l.length - (k + 1) < l.length - k; omega)
      show (recsS (l.take (k + 1))).length ≤ (k + 1) * 1000
      rw [hrec]
      omega
  · rw [List.take_of_length_le (by omega)] at hov
    refine CW.exit (KW.thenX (KW.thenX (KW.blockX (KW.then_ (CW.seq (CW.region ?_))))))
    refine TW.move rfl rfl rfl ct ?_
    refine TW.assign rfl rfl rfl ct ?_
    refine TW.nil (KW.pick [0, 2, 3, 4] [(0, _, _), (2, _, _), (3, _, _), (4, _, _)] rfl (KW.then_ ?_))
    refine CW.ret ?_
    refine ret1 Tryz.results20 rfl (⟨hW, hov⟩)
end Go.Proofs.YtmhfeehkpndadaaGreat

namespace Go.Proofs.YtmhfeehkpndadaaGreat
open Go.PF Go.RowKit Go.Ord

def setPosL (L : List (List Int)) (w : World) (pre : List (Value × List Int)) (x : Value × List Int) (M : Nat → Prop) (W : World) : Prop := (∃ suf, L = pre.map (·.2) ++ x.2 :: suf) ∧ SL intT (fun k => w.heap.size ≤ k ∧ ¬ M k) W x.1 x.2
theorem memb_len (l : List Int) (m : Nat) : (memb l m).length ≤ l.length := (memb_sub l m).length_le

theorem esets_c {w : World} {A : Option Addr} {n c : Nat} : Gives Tryz.prog 34 #[.slice A n c] w fun u w' => Below w.heap.size w w' ∧ ∃ g, u = .func (.func 58) #[] [.pointer (some ⟨g, 0, none⟩)].toArray ∧ Blk w' g 24 [.slice A n c] ∧ w.heap.size ≤ g := by
  refine gives_of (vs := [.slice A n c]) [(0, none, _)] Tryz.func34 rfl Tryz.ntmps34 rfl rfl ?_
  refine CW.seq (CW.region ?_)
  refine TW.box rfl rfl rfl rfl ?_
  rintro g1 w1 f1
  refine TW.assign rfl rfl rfl ct ?_
  refine TW.nil (KW.pick [0, 1, 2] [(0, _, _), (1, _, _), (2, _, _)] rfl (KW.then_ ?_))
  refine CW.seq (CW.region ?_)
  refine TW.makeFunc rfl rfl (Args.cons rfl ct Args.nil) ?_
  refine TW.assign rfl rfl rfl ct ?_
  refine TW.nil (KW.pick [0, 1, 2] [(0, _, _), (1, _, _), (2, _, _)] rfl (KW.then_ ?_))
  refine CW.ret ?_
  refine ret1 Tryz.results34 rfl (⟨f1.below, g1, rfl, f1.blk, by have := f1.at_; omega⟩)

set_option maxRecDepth 20000 in
set_option maxHeartbeats 1000000 in
theorem esets_iter {w : World} {F : Nat → Prop} {g1 : Nat} {v : Value} {l : List Int} (hl : SL intT F w v l) (hF : ∀ k, F k → k < w.heap.size) (h14 : l.length ≤ 14) (hB1 : Blk w g1 24 [v]) :
    IterW Tryz.prog 58 [.pointer (some ⟨g1, 0, none⟩)] (fun x : Value × List Int => [x.1]) (setPosL (allS l) w) (fun xs => xs.map (·.2) = allS l) (fun k => k = g1 ∨ F k) w := by
  intro yl J Jx W M hown hsz hyl hM hMlt hJ hJx hy h0
  obtain ⟨A, cap, rfl, _⟩ := hl.form
  have hIl := hl.allI
  have mem : ∀ W' : World, (∀ k, (k = g1 ∨ F k) → k < w.heap.size → W'.heap[k]? = w.heap[k]?) → Blk W' g1 24 [.slice A l.length cap] ∧ SL intT F W' (.slice A l.length cap) l := fun W' h =>
    ⟨(h g1 (.inl rfl) hB1.lt).trans hB1, hl.mono (Kept.of_blocks fun k hk hlt => h k (.inr hk) hlt)⟩
  obtain ⟨m1, m3⟩ := mem W hown
  obtain ⟨p, hp⟩ : ∃ p, p = 2 ^ l.length := ⟨_, rfl⟩
  have hp0 : 0 < p := by rw [hp]; exact Nat.two_pow_pos _
  have hp14 : p ≤ 16384 := by rw [hp]; exact Nat.pow_le_pow_right (by decide) h14
  refine gives_of (vs := [.func (.yield yl) #[] #[], .pointer (some ⟨g1, 0, none⟩)]) [(0, none, _), (1, none, _)] Tryz.func58 rfl Tryz.ntmps58 rfl rfl ?_
  refine CW.seq (CW.region ?_)
  refine TW.load rfl rfl one24 rfl ct (fun _ => m1.cell 0) ?_
  refine TW.lenSlice rfl rfl Tryz.underlying24 rfl ct ?_
  refine TW.shl64 rfl rfl rfl ct rfl ct (fun _ => by omega) ?_
  refine TW.assign rfl rfl rfl ct ?_
  refine TW.nil (KW.pick [0, 1, 3] [(0, _, _), (1, _, _), (3, _, _)] rfl (KW.then_ ?_))
  refine CW.seq (CW.region ?_)
  refine TW.load rfl rfl one24 rfl ct (fun _ => m1.cell 0) ?_
  refine TW.lenSlice rfl rfl Tryz.underlying24 rfl ct ?_
  refine TW.add rfl rfl rfl ct rfl ct (fun _ => by (try dsimp only); omega) ?_
  refine TW.move rfl rfl rfl ct ?_
  refine TW.nil (KW.pick [0, 1, 3, 12, 13] [(0, _, _), (1, _, _), (3, _, _), (12, _, _), (13, _, _)] rfl (KW.then_ ?_))
  refine CW.block ?_
  rw [← hp]
  refine CW.loopS (fun x : Nat × List (Value × List Int) × (Nat → Prop) => [(0, none, .func (.yield yl) #[] #[]), (1, none, .pointer (some ⟨g1, 0, none⟩)), (3, none, .int .i64 (p : Int)), (12, none, .int .i64 ((l.length : Int) + 1)), (13, none, .int .i64 (x.1 : Int))])
    (fun x W' => x.1 ≤ l.length + 1 ∧ J x.2.1 x.2.2 W' ∧ x.2.1.map (·.2) = ((List.range x.1).flatMap fun k => setsS l k) ∧ W.heap.size ≤ W'.heap.size ∧ (∀ k, x.2.2 k → k < W'.heap.size) ∧ ∀ k, (k = g1 ∨ F k) → k < w.heap.size → W'.heap[k]? = w.heap[k]? ∧ ¬ x.2.2 k) (fun x => l.length + 1 - x.1) (0, [], M) [0, 1, 3, 12, 13]
    ⟨Nat.zero_le _, h0, rfl, Nat.le_refl _, hMlt, fun k hk hlt => ⟨hown k hk hlt, (hM k hk).1⟩⟩ rfl ?_
  rintro ⟨k, pre, M1⟩ W1 ⟨hk, hj, hpre, hsz1, hM1, hk1⟩
  dsimp only at hk hj hpre hM1 hk1
  refine CW.seq (CW.region ?_)
  refine TW.lss rfl rfl rfl ct rfl ct ?_
  refine TW.nil (KW.pick [0, 1, 3, 12, 13, 14] [(0, _, _), (1, _, _), (3, _, _), (12, _, _), (13, _, _), (14, _, _)] rfl (KW.then_ ?_))
  refine CW.seq ?_
  refine CW.condP rfl (fun hlt => ?_) (fun hge => ?_)
  · refine CW.skip (KW.then_ (CW.seq (CW.block (CW.seq (CW.region ?_)))))
    refine TW.move rfl rfl rfl ct ?_
    refine TW.assign rfl rfl rfl ct ?_
    refine TW.nil (KW.pick [0, 1, 3, 4, 12, 13] [(0, _, _), (1, _, _), (3, _, _), (4, _, _), (12, _, _), (13, _, _)] rfl (KW.then_ ?_))
    refine CW.seq (CW.region ?_)
    refine TW.move rfl rfl rfl ct ?_
    refine TW.move rfl rfl rfl ct ?_
    refine TW.nil (KW.pick [0, 1, 3, 4, 12, 13, 16, 17] [(0, _, _), (1, _, _), (3, _, _), (4, _, _), (12, _, _), (13, _, _), (16, _, _), (17, _, _)] rfl (KW.then_ ?_))
    refine CW.block ?_
    refine CW.loopS (fun x : Nat × List (Value × List Int) × (Nat → Prop) => [(0, none, .func (.yield yl) #[] #[]), (1, none, .pointer (some ⟨g1, 0, none⟩)), (3, none, .int .i64 (p : Int)), (4, none, .int .i64 (k : Int)), (12, none, .int .i64 ((l.length : Int) + 1)), (13, none, .int .i64 (k : Int)), (16, none, .int .i64 (p : Int)), (17, none, .int .i64 (x.1 : Int))])
      (fun x W' => x.1 ≤ p ∧ J x.2.1 x.2.2 W' ∧ x.2.1.map (·.2) = someS l k x.1 ∧ W.heap.size ≤ W'.heap.size ∧ (∀ k, x.2.2 k → k < W'.heap.size) ∧ ∀ k, (k = g1 ∨ F k) → k < w.heap.size → W'.heap[k]? = w.heap[k]? ∧ ¬ x.2.2 k) (fun x => p - x.1) (0, pre, M1) [0, 1, 3, 4, 12, 13, 16, 17]
      ⟨Nat.zero_le _, hj, by rw [someS_zero]; exact hpre, hsz1, hM1, hk1⟩ rfl ?_
    rintro ⟨i, pre, M1⟩ W1 ⟨hi, hj, hpre, hsz1, hM1, hk1⟩
    dsimp only at hi hj hpre hM1 hk1
    obtain ⟨n1, n3⟩ := mem W1 (fun k hk hlt => (hk1 k hk hlt).1)
    refine CW.seq (CW.region ?_)
    refine TW.lss rfl rfl rfl ct rfl ct ?_
    refine TW.nil (KW.pick [0, 1, 3, 4, 12, 13, 16, 17, 18] [(0, _, _), (1, _, _), (3, _, _), (4, _, _), (12, _, _), (13, _, _), (16, _, _), (17, _, _), (18, _, _)] rfl (KW.then_ ?_))
    refine CW.seq ?_
    refine CW.condP rfl (fun hlt2 => ?_) (fun hge2 => ?_)
    · have hconv : IntKind.u64.wrap ((p : Int) - 1 - (i : Int)) = ((p - 1 - i : Nat) : Int) := by rw [IntKind.wrap_u64]; omega
      have hnext : someS l k (i + 1) = someS l k i ++ if pc (p - 1 - i) == k then [memb l (p - 1 - i)] else [] := by
        rw [hp]
        exact someS_succ l k (by omega)
      skip
      refine CW.skip (KW.then_ (CW.seq (CW.block (CW.seq (CW.region ?_)))))
      refine TW.move rfl rfl rfl ct ?_
      refine TW.assign rfl rfl rfl ct ?_
      refine TW.nil (KW.pick [0, 1, 3, 4, 5, 12, 13, 16, 17] [(0, _, _), (1, _, _), (3, _, _), (4, _, _), (5, _, _), (12, _, _), (13, _, _), (16, _, _), (17, _, _)] rfl (KW.then_ ?_))
      refine CW.seq (CW.region ?_)
      refine TW.move rfl rfl rfl ct ?_
      refine TW.sub rfl rfl rfl ct rfl ct (fun _ => by (try dsimp only); omega) ?_
      refine TW.move rfl rfl rfl ct ?_
      refine TW.sub rfl rfl rfl ct rfl ct (fun _ => by (try dsimp only); omega) ?_
      refine TW.conv rfl rfl rfl Tryz.underlying57 rfl ct ?_
      rw [hconv]
      refine TW.assign rfl rfl rfl ct ?_
      refine TW.nil (KW.pick [0, 1, 3, 4, 5, 6, 12, 13, 16, 17] [(0, _, _), (1, _, _), (3, _, _), (4, _, _), (5, _, _), (6, _, _), (12, _, _), (13, _, _), (16, _, _), (17, _, _)] rfl (KW.then_ ?_))
      refine CW.seq (CW.region ?_)
      refine TW.move rfl rfl rfl ct ?_
      refine TW.call0 (cap := []) rfl rfl en59 rfl (Args.cons rfl ct Args.nil) (ones_c (x := p - 1 - i) (by omega)) ?_
      rintro y w2 ⟨c2, rfl⟩
      refine TW.move rfl rfl rfl ct ?_
      refine TW.eql rfl rfl rfl ct rfl ct ?_
      refine TW.move rfl rfl rfl ct ?_
      have hs2 := c2.size
      have hj2 : J pre M1 w2 := hJ _ _ _ _ hj (.of_below c2)
      have hk2 : ∀ k, (k = g1 ∨ F k) → k < w.heap.size → w2.heap[k]? = w.heap[k]? ∧ ¬ M1 k := fun k hk hlt => ⟨(c2.block k (by omega)).trans (hk1 k hk hlt).1, (hk1 k hk hlt).2⟩
      by_cases hpc : pc (p - 1 - i) = k
      · rw [if_pos (by simp [hpc])] at hnext
        refine TW.known rfl (by simp only [Cnd]; exact decide_eq_true (by omega)) ?_
        refine TW.move rfl rfl rfl ct ?_
        refine TW.known rfl (by simp only [Cnd]; exact decide_eq_true (by omega)) ?_
        refine TW.load rfl rfl one24 rfl ct (fun _ => (n1.next c2).cell 0) ?_
        refine TW.known rfl (by simp only [Cnd]; exact decide_eq_true (by omega)) ?_
        refine TW.move rfl rfl rfl ct ?_
        refine TW.known rfl (by simp only [Cnd]; exact decide_eq_true (by omega)) ?_
        refine TW.call0 (cap := []) rfl rfl en61 rfl (Args.cons rfl ct (Args.cons rfl ct Args.nil)) (members_c (m := p - 1 - i)) ?_
        rintro y w3 ⟨c3, gm1, gm2, rfl, hm1, hm2⟩
        have c23 := c2.step c3
        have n3' := n3.below c23
        refine TW.known rfl (by simp only [Cnd]; exact decide_eq_true (by omega)) ?_
        refine TW.call0 (cap := []) rfl rfl en60 rfl (Args.cons rfl ct Args.nil) (collect_c (members_iter n3' h14 (by omega) hm1 hm2) en87 (fun q hq => by rcases hq with rfl | rfl | hq; exact hm1.lt; exact hm2.lt; have := hF q hq; have := c23.size; omega) (fun pre' x ⟨suf, e⟩ => by have h1 := congrArg List.length e; have h2 := memb_len l (p - 1 - i); simp at h1; omega)) ?_
        rintro cv w4 ⟨c4, xs, hxs, hO, hob⟩
        subst hxs
        have c24 := c23.step c4
        have hs24 := c24.size
        have hs23 := c23.size
        have hxl := memb_len l (p - 1 - i)
        have hsl : SL intT (fun q => w.heap.size ≤ q ∧ ¬ M1 q) w4 cv (memb l (p - 1 - i)) := OwnS.toInts hO (fun x hx => hIl x ((memb_sub _ _).subset hx)) (fun g hg => ⟨by have := hob g hg; omega, fun h => by have := hM1 g h; have := hob g hg; omega⟩) (by omega)
        have hj4 : J pre M1 w4 := hJ _ _ _ _ hj (.of_below c24)
        have hk4 : ∀ k, (k = g1 ∨ F k) → k < w.heap.size → w4.heap[k]? = w.heap[k]? ∧ ¬ M1 k := fun k hk hlt => ⟨(c24.block k (by omega)).trans (hk1 k hk hlt).1, (hk1 k hk hlt).2⟩
        have hpos : setPosL (allS l) w pre (cv, memb l (p - 1 - i)) M1 w4 := by
          refine ⟨?_, hsl⟩
          obtain ⟨suf, hsuf⟩ := someS_pre l (k := k) (i := i + 1) (by omega)
          exact ⟨suf, by rw [hsuf, hnext, ← hpre]; simp⟩
        refine TW.known rfl (by simp only [Cnd]; exact decide_eq_true (by omega)) ?_
        refine TW.yield rfl rfl rfl (Args.cons rfl ct Args.nil) (hy pre (cv, memb l (p - 1 - i)) M1 w4 hj4 hpos (fun k hk => by have := hM1 k hk; omega) (by omega)) ?_
        rintro yb W5 hR
        refine TW.known rfl (by simp only [Cnd]; exact decide_eq_true (by omega)) ?_
        refine TW.not rfl rfl rfl ct ?_
        refine TW.pickAnd rfl rfl rfl ct rfl pT ?_
        refine TW.nil (KW.pick [0, 1, 3, 4, 5, 6, 12, 13, 16, 17, 37] [(0, _, _), (1, _, _), (3, _, _), (4, _, _), (5, _, _), (6, _, _), (12, _, _), (13, _, _), (16, _, _), (17, _, _), (37, _, _)] rfl (KW.then_ ?_))
        refine CW.cond rfl (fun hno => ?_) (fun hgo => ?_)
        · refine CW.ret (KW.blockR (KW.thenR (KW.thenR (KW.blockR (KW.blockR (KW.thenR (KW.thenR (KW.blockR ?_))))))))
          refine ret0 Tryz.results58 (.inr ?_)
          obtain ⟨M', hx'⟩ := hR.no (by simpa [hpc] using hno)
          exact ⟨_, M', hx'⟩
        · refine CW.skip (KW.blockN (KW.then_ (CW.region ?_)))
          refine TW.add rfl rfl rfl ct rfl ct (fun _ => by (try dsimp only); omega) ?_
          refine TW.move rfl rfl rfl ct ?_
          refine TW.nil (KW.pick [0, 1, 3, 4, 5, 6, 12, 13, 16, 17] [(0, _, _), (1, _, _), (3, _, _), (4, _, _), (5, _, _), (6, _, _), (12, _, _), (13, _, _), (16, _, _), (17, _, _)] rfl ?_)
          obtain ⟨M', hj5, hm5⟩ := hR.yes (by simpa [hpc] using hgo)
          have hs5 := hR.size
          refine KW.round (i + 1, pre ++ [(cv, memb l (p - 1 - i))], M') [0, 1, 3, 4, 12, 13, 16, 17] rfl ⟨by show i + 1 ≤ p; omega, hj5, ?_, by show W.heap.size ≤ W5.heap.size; omega, fun k hk => (hm5 k hk).2, fun k hk hlt => ⟨(hR.kept k (by omega) (hk4 k hk hlt).2 (hM k hk).2).trans (hk4 k hk hlt).1, fun h => ?_⟩⟩ (by show p - (i + 1) < p - i; omega)
          · show List.map Prod.snd (pre ++ [_]) = someS l k (i + 1)
            rw [List.map_append, hpre, hnext]
            rfl
          · rcases (hm5 k h).1 with h | h
            · exact (hk4 k hk hlt).2 h
            · omega
      · rw [if_neg (by simp [hpc]), List.append_nil] at hnext
        refine TW.dead (.bool false) rfl (by simp only [Cnd]; exact fun h => hpc (by have := of_decide_eq_true h; omega)) rfl ?_
        refine TW.dead (.bool false) rfl (by simp only [Cnd]; exact fun h => hpc (by have := of_decide_eq_true h; omega)) rfl ?_
        refine TW.dead (.bool false) rfl (by simp only [Cnd]; exact fun h => hpc (by have := of_decide_eq_true h; omega)) rfl ?_
        refine TW.dead (.bool false) rfl (by simp only [Cnd]; exact fun h => hpc (by have := of_decide_eq_true h; omega)) rfl ?_
        refine TW.dead (.bool false) rfl (by simp only [Cnd]; exact fun h => hpc (by have := of_decide_eq_true h; omega)) rfl ?_
        refine TW.dead (.bool false) rfl (by simp only [Cnd]; exact fun h => hpc (by have := of_decide_eq_true h; omega)) rfl ?_
        refine TW.dead (.bool false) rfl (by simp only [Cnd]; exact fun h => hpc (by have := of_decide_eq_true h; omega)) rfl ?_
        refine TW.pickAnd rfl rfl rfl ct rfl pAnd0 ?_
        refine TW.nil (KW.pick [0, 1, 3, 4, 5, 6, 12, 13, 16, 17, 37] [(0, _, _), (1, _, _), (3, _, _), (4, _, _), (5, _, _), (6, _, _), (12, _, _), (13, _, _), (16, _, _), (17, _, _), (37, _, _)] rfl (KW.then_ ?_))
        refine CW.cond rfl (fun hno => ?_) (fun hgo => ?_)
        · exfalso
          have hpc' : ¬ ((pc (p - 1 - i) : Int) = (k : Int)) := by omega
          simp [hpc'] at hno
        · refine CW.skip (KW.blockN (KW.then_ (CW.region ?_)))
          refine TW.add rfl rfl rfl ct rfl ct (fun _ => by (try dsimp only); omega) ?_
          refine TW.move rfl rfl rfl ct ?_
          refine TW.nil (KW.pick [0, 1, 3, 4, 5, 6, 12, 13, 16, 17] [(0, _, _), (1, _, _), (3, _, _), (4, _, _), (5, _, _), (6, _, _), (12, _, _), (13, _, _), (16, _, _), (17, _, _)] rfl ?_)
          refine KW.round (i + 1, pre, M1) [0, 1, 3, 4, 12, 13, 16, 17] rfl ⟨by show i + 1 ≤ p; omega, hj2, by show pre.map (·.2) = someS l k (i + 1); rw [hnext]; exact hpre, by show W.heap.size ≤ w2.heap.size; omega, fun k hk => by have := hM1 k hk; show k < w2.heap.size; omega, hk2⟩ (by show p - (i + 1) < p - i; omega)
    · have hie : i = p := by omega
      refine CW.exit (KW.thenX (KW.thenX (KW.blockX (KW.blockN (KW.then_ (CW.region ?_))))))
      refine TW.add rfl rfl rfl ct rfl ct (fun _ => by (try dsimp only); omega) ?_
      refine TW.move rfl rfl rfl ct ?_
      refine TW.nil (KW.pick [0, 1, 3, 4, 12, 13, 16, 17] [(0, _, _), (1, _, _), (3, _, _), (4, _, _), (12, _, _), (13, _, _), (16, _, _), (17, _, _)] rfl ?_)
      refine KW.round (k + 1, pre, M1) [0, 1, 3, 12, 13] rfl ⟨by show k + 1 ≤ l.length + 1; omega, hj, ?_, hsz1, hM1, hk1⟩ (by show l.length + 1 - (k + 1) < l.length + 1 - k; omega)
      show pre.map (·.2) = ((List.range (k + 1)).flatMap fun k => setsS l k)
      rw [hpre, hie, hp, someS_end]
  · have hke : k = l.length + 1 := by omega
    subst hke
    refine CW.exit (KW.thenX (KW.thenX (KW.blockX ?_)))
    refine end0 Tryz.results58 (.inl ⟨pre, M1, hpre, hj⟩)
end Go.Proofs.YtmhfeehkpndadaaGreat

namespace Go.PF
open Go.RowKit
/-- Leaving with two results that lie in cells. -/
theorem ret2CM {P : Program} {N : Nat} {fn : Func} {E : Env} {w : World} {R : Value → World → Prop} {D s s' : Nat} {t t' : TypeId} {g g' : Nat} {v v' : Value} (hres : fn.results = #[.cell s t, .cell s' t']) (h1 : one P t = true) (h1' : one P t' = true) (hs : look E s = some (none, .pointer (some ⟨g, 0, none⟩))) (hs' : look E s' = some (none, .pointer (some ⟨g', 0, none⟩)))
    (hB : Blk w g t [v]) (hB' : Blk w g' t' [v']) (hD : w.heap[D]? = some (.deferred (some []))) (hR : R (.tuple #[v, v']) (w.putObj D (.deferred none))) :
    KW N ({ target := .collected D, args := #[] } :: []) (bodyPostM (FR none) 0 P fn (fun e w' => ∃ v, e = .returned v ∧ R v w') .ret) E w := by
  refine retM (fun a W ha hW => ?_) hD hR .ret (.inl rfl)
  have e : a.tmps.getD s undef = .pointer (some ⟨g, 0, none⟩) := (ha.slots s none _ hs).1 trivial
  have e' : a.tmps.getD s' undef = .pointer (some ⟨g', 0, none⟩) := (ha.slots s' none _ hs').1 trivial
  have hne : g ≠ D := fun e => by subst e; unfold Blk at hB; rw [hD] at hB; cases hB
  have hne' : g' ≠ D := fun e => by subst e; unfold Blk at hB'; rw [hD] at hB'; cases hB'
  have hc : W.cell? ⟨g, 0, none⟩ = some v := by
    rw [hW]
    have : Blk (w.putObj D (.deferred none)) g t [v] := (World.putObj_heap_other hne).trans hB
    exact this.cell 0
  have hc' : W.cell? ⟨g', 0, none⟩ = some v' := by
    rw [hW]
    have : Blk (w.putObj D (.deferred none)) g' t' [v'] := (World.putObj_heap_other hne').trans hB'
    exact this.cell 0
  simp only [Array.getD_eq_getD_getElem?] at e e'
  simp [results, hres, e, e', asAddr, run_loadVar1 h1 hc, run_loadVar1 h1' hc']
end Go.PF
namespace Go.Proofs.YtmhfeehkpndadaaGreat
open Go.PF Go.RowKit Go.Ord

/-- what 'first' has found -/
def Found (L : List (List Int)) (q : List Int → Bool) (v : Value) (ok : Bool) (W : World) : Prop := (∃ S, L.find? q = some S ∧ ok = true ∧ SL intT (fun k => k < W.heap.size) W v S) ∨ (L.find? q = none ∧ ok = false)
theorem find_pre {L pre suf : List (List Int)} {S : List Int} {q : List Int → Bool} (hL : L = pre ++ S :: suf) (hpre : ∀ x ∈ pre, q x = false) (hS : q S = true) : L.find? q = some S := by
  rw [hL, List.find?_append]
  have : pre.find? q = none := by rw [List.find?_eq_none]; intro x hx; simp [hpre x hx]
  rw [this]
  simp [hS]

set_option maxRecDepth 20000 in
set_option maxHeartbeats 1000000 in
theorem first_c {w : World} {gf kq : FuncId} {cap qcap : List Value} {own : Nat → Prop} {L : List (List Int)} {q : List Int → Bool} (hit : IterW Tryz.prog gf cap (fun x : Value × List Int => [x.1]) (setPosL L w) (fun xs => xs.map (·.2) = L) own w) (hen : enters Tryz.prog gf = true) (hown : ∀ k, own k → k < w.heap.size) (hek : enters Tryz.prog kq = true)
    (hq : ∀ W' v S F, Below w.heap.size w W' → SL intT F W' v S → Gives Tryz.prog kq (v :: qcap).toArray W' fun u W'' => Below W'.heap.size W' W'' ∧ u = .bool (q S)) :
    Gives Tryz.prog 33 #[.func (.func gf) #[] cap.toArray, .func (.func kq) #[] qcap.toArray] w fun u w' => Below w.heap.size w w' ∧ ∃ v ok, u = .tuple #[v, .bool ok] ∧ Found L q v ok w' := by
  refine gives_ofM (vs := [.func (.func gf) #[] cap.toArray, .func (.func kq) #[] qcap.toArray]) [(0, none, _), (1, none, _)] Tryz.func33 rfl Tryz.ntmps33 rfl rfl ?_
  refine CW.seq (CW.region ?_)
  refine TW.box rfl rfl rfl rfl ?_
  rintro g3 w1 f1
  refine TW.alloc rfl rfl zc24 ?_
  rintro g4 w2 f2
  refine TW.alloc rfl rfl zc4 ?_
  rintro g5 w3 f3
  refine TW.nil (KW.pick [0, 1, 3, 4, 5] [(0, _, _), (1, _, _), (3, _, _), (4, _, _), (5, _, _)] rfl (KW.then_ ?_))
  refine CW.seq (CW.seq (CW.region ?_))
  refine TW.move rfl rfl rfl ct ?_
  refine TW.nil (KW.pick [0, 1, 3, 4, 5, 8] [(0, _, _), (1, _, _), (3, _, _), (4, _, _), (5, _, _), (8, _, _)] rfl (KW.then_ ?_))
  refine CW.block ?_
  have ha1 := f1.at_
  have ha2 := f2.at_
  have ha3 := f3.at_
  have hs1 := f1.size
  have hs2 := f2.size
  have hs3 := f3.size
  have b3 := (f1.below.step f2.below).step f3.below
  have B3 := (f1.blk.next f2.below).next f3.below
  have B4 := f2.blk.next f3.below
  have B5 := f3.blk
  have hit3 : IterW Tryz.prog gf cap (fun x : Value × List Int => [x.1]) (setPosL L w) (fun xs => xs.map (·.2) = L) own w3 := by
    intro l J Jx W M h1 h2
    exact hit l J Jx W M (fun k hk hlt => (h1 k hk (Nat.lt_of_lt_of_le hlt b3.size)).trans (b3.block k hlt)) (Nat.le_trans b3.size h2)
  refine CW.rangeW rfl hen hit3 rfl (fun _ => rfl)
    (fun pre M W => Below w.heap.size w W ∧ w3.heap.size ≤ W.heap.size ∧ Blk W g3 48 [.func (.func kq) #[] qcap.toArray] ∧ Blk W g4 24 [.slice none 0 0] ∧ Blk W g5 4 [.bool false] ∧ (∀ x ∈ pre, q x.2 = false) ∧ M = fun k => k = g4 ∨ k = g5)
    (fun c pre M W => c = .ret ∧ Below w.heap.size w W ∧ w3.heap.size ≤ W.heap.size ∧ ∃ v S, Blk W g4 24 [v] ∧ Blk W g5 4 [.bool true] ∧ L.find? q = some S ∧ SL intT (fun k => w.heap.size ≤ k ∧ ¬ (k = g4 ∨ k = g5)) W v S)
    (fun k => k = g4 ∨ k = g5) ?_ ?_ ?_ ?_ ?_ ?_ ?_ ?_
  · rintro k (rfl | rfl)
    · exact ⟨by omega, fun h => by have := hown _ h; omega⟩
    · exact ⟨by omega, fun h => by have := hown _ h; omega⟩
  · intro k hk
    have := hown k hk
    omega
  · rintro pre M Wa Wb ⟨a1, a2, a3, a4, a5, a6, a7⟩ hx
    exact ⟨(hx.less (by omega)).below a1 (Nat.le_refl _), Nat.le_trans a2 hx.size, a3.ext hx, a4.ext hx, a5.ext hx, a6, a7⟩
  · rintro c pre M Wa Wb ⟨a1, a2, a3, v, S, a4, a5, a6, a7⟩ hx
    exact ⟨a1, (hx.less (by omega)).below a2 (Nat.le_refl _), Nat.le_trans a3 hx.size, v, S, a4.ext hx, a5.ext hx, a6, a7.ext hx⟩
  · exact ⟨b3, Nat.le_refl _, B3, B4, B5, fun x hx => (by cases hx), rfl⟩
  · rintro D Lp pre x M W hD hL ⟨a1, a2, a3, a4, a5, a6, rfl⟩ ⟨⟨suf, hsuf⟩, hxs⟩ hMlt hML hMD hrec
    obtain ⟨xv, xl⟩ := x
    dsimp only at hsuf hxs
    refine CW.region ?_
    refine TW.assign rfl rfl rfl ct ?_
    refine TW.nil (KW.pick [0, 1, 3, 4, 5, 6, 9] [(0, _, _), (1, _, _), (3, _, _), (4, _, _), (5, _, _), (6, _, _), (9, _, _)] rfl ?_)
    refine KW.begin hrec fun W2 hx2 hsz2 hk2 hrec2 => ?_
    have a1' : Below w.heap.size w W2 := (hx2.less (by omega)).below a1 (Nat.le_refl _)
    have a3' : Blk W2 g3 48 [.func (.func kq) #[] qcap.toArray] := a3.ext hx2
    have hxs2 := hxs.ext hx2
    refine CW.block (CW.seq (CW.region ?_))
    refine TW.load rfl rfl one48 rfl ct (fun _ => a3'.cell 0) ?_
    refine TW.move rfl rfl rfl ct ?_
    refine TW.call0 rfl rfl hek rfl (Args.cons rfl ct Args.nil) (hq W2 xv xl _ a1' hxs2) ?_
    rintro y w4 ⟨c4, rfl⟩
    have hs4 := c4.size
    have hL2 : Lp < W2.heap.size := hrec2.lt
    have rec4 := hrec2.kept (c4.block Lp hL2)
    have a1'' := a1'.step c4
    have a4'' := (a4.ext hx2).next c4
    have a5'' := (a5.ext hx2).next c4
    refine TW.nil (KW.pick [0, 1, 3, 4, 5, 6, 9, 12] [(0, _, _), (1, _, _), (3, _, _), (4, _, _), (5, _, _), (6, _, _), (9, _, _), (12, _, _)] rfl (KW.then_ ?_))
    refine CW.cond rfl (fun hyes => ?_) (fun hno => ?_)
    · refine CW.seq (CW.region ?_)
      refine TW.move rfl rfl rfl ct ?_
      obtain ⟨X, xcap, rfl, _⟩ := hxs2.form
      refine TW.store1 rfl sz24 rfl rfl (a4''.cell 0) (a4''.frozen 0) rfl ?_
      have a4s : Blk (w4.setCell ⟨g4, 0, none⟩ (.slice X xl.length xcap)) g4 24 [.slice X xl.length xcap] := a4''.set 0 _
      have a5s : Blk (w4.setCell ⟨g4, 0, none⟩ (.slice X xl.length xcap)) g5 4 [.bool false] := a5''.far (by show g5 ≠ g4; omega) _
      refine TW.store1 rfl sz4 rfl rfl (a5s.cell 0) (a5s.frozen 0) rfl ?_
      refine TW.nil (KW.pick [0, 1, 3, 4, 5, 6, 9] [(0, _, _), (1, _, _), (3, _, _), (4, _, _), (5, _, _), (6, _, _), (9, _, _)] rfl (KW.then_ ?_))
      refine CW.ret (KW.blockR ?_)
      have hL45 : Lp ≠ g4 ∧ Lp ≠ g5 := ⟨fun e => hML (.inl e), fun e => hML (.inr e)⟩
      have a4t : Blk ((w4.setCell ⟨g4, 0, none⟩ (.slice X xl.length xcap)).setCell ⟨g5, 0, none⟩ (.bool true)) g4 24 [.slice X xl.length xcap] := a4s.far (by show g4 ≠ g5; omega) _
      have a5t : Blk ((w4.setCell ⟨g4, 0, none⟩ (.slice X xl.length xcap)).setCell ⟨g5, 0, none⟩ (.bool true)) g5 4 [.bool true] := a5s.set 0 _
      have hkp : ∀ k, k ≠ g4 → k ≠ g5 → ((w4.setCell ⟨g4, 0, none⟩ (.slice X xl.length xcap)).setCell ⟨g5, 0, none⟩ (.bool true)).heap[k]? = w4.heap[k]? := fun k h1 h2 => (Below.heap_setCell _ _ _ _ (by show k ≠ g5; exact h2)).trans (Below.heap_setCell _ _ _ _ (by show k ≠ g4; exact h1))
      have hszT : ((w4.setCell ⟨g4, 0, none⟩ (.slice X xl.length xcap)).setCell ⟨g5, 0, none⟩ (.bool true)).heap.size = w4.heap.size := by simp
      have hbT : Below w.heap.size w ((w4.setCell ⟨g4, 0, none⟩ (.slice X xl.length xcap)).setCell ⟨g5, 0, none⟩ (.bool true)) := (a1''.setCell (by show w.heap.size ≤ g4; omega) _).setCell (by show w.heap.size ≤ g5; omega) _
      have hxsT : SL intT (fun k => w.heap.size ≤ k ∧ ¬ (k = g4 ∨ k = g5)) ((w4.setCell ⟨g4, 0, none⟩ (.slice X xl.length xcap)).setCell ⟨g5, 0, none⟩ (.bool true)) (.slice X xl.length xcap) xl := (hxs2.below c4).mono (Kept.of_blocks fun k hk _ => hkp k (fun e => hk.2 (.inl e)) (fun e => hk.2 (.inr e)))
      refine KW.endR (rec4.kept (hkp Lp hL45.1 hL45.2)) fun W8 hx8 hsz8 hk8 hrec8 => ?_
      rw [hszT] at hsz8
      refine ⟨by omega, fun k h1 h2 h3 => (hk8 k h3).trans ((hkp k (fun e => h2 (.inl e)) (fun e => h2 (.inr e))).trans ((c4.block k (by omega)).trans (hk2 k h3))), fun h => (by cases h), fun _ => ⟨fun k => k = g4 ∨ k = g5, .ret, ⟨rfl, (hx8.less (by omega)).below hbT (Nat.le_refl _), by omega, .slice X xl.length xcap, xl, a4t.ext hx8, a5t.ext hx8, find_pre hsuf (fun y hy => ?_) hyes, hxsT.ext hx8⟩, hrec8⟩⟩
      obtain ⟨z, hz, rfl⟩ := List.mem_map.1 hy
      exact a6 z hz
    · refine CW.skip (KW.blockN ?_)
      refine KW.endN rec4 fun W8 hx8 hsz8 hk8 hrec8 => ?_
      refine ⟨by omega, fun k h1 h2 h3 => (hk8 k h3).trans ((c4.block k (by omega)).trans (hk2 k h3)), fun _ => ⟨fun k => k = g4 ∨ k = g5, ⟨⟨(hx8.less (by omega)).below a1'' (Nat.le_refl _), by omega, (a3'.next c4).ext hx8, a4''.ext hx8, a5''.ext hx8, fun y hy => ?_, rfl⟩, hML, hMD, hrec8⟩, fun k hk => ⟨.inl hk, by rcases hk with rfl | rfl <;> omega⟩⟩, fun h => by cases h⟩
      rcases List.mem_append.1 hy with h | h
      · exact a6 y h
      · rw [List.mem_singleton] at h
        subst h
        exact hno
  · rintro D xs M W hD hdone ⟨a1, a2, a3, a4, a5, a6, rfl⟩ hMD hdef
    have hdone' : xs.map (·.2) = L := hdone
    have hnone : L.find? q = none := by
      rw [List.find?_eq_none]
      intro S hS
      rw [← hdone'] at hS
      obtain ⟨x, hx, rfl⟩ := List.mem_map.1 hS
      simp [a6 x hx]
    refine KW.blockN (KW.then_ ?_)
    refine CW.seq (CW.region ?_)
    refine TW.assign rfl rfl rfl ct ?_
    refine TW.nil (KW.pick [0, 1, 3, 4, 5, 7] [(0, _, _), (1, _, _), (3, _, _), (4, _, _), (5, _, _), (7, _, _)] rfl (KW.then_ ?_))
    refine CW.seq (CW.region ?_)
    refine TW.move rfl rfl rfl ct ?_
    refine TW.store1 rfl sz24 rfl rfl (a4.cell 0) (a4.frozen 0) rfl ?_
    have a4s : Blk (W.setCell ⟨g4, 0, none⟩ (.slice none 0 0)) g4 24 [.slice none 0 0] := a4.set 0 _
    have a5s : Blk (W.setCell ⟨g4, 0, none⟩ (.slice none 0 0)) g5 4 [.bool false] := a5.far (by show g5 ≠ g4; omega) _
    refine TW.store1 rfl sz4 rfl rfl (a5s.cell 0) (a5s.frozen 0) rfl ?_
    refine TW.nil (KW.pick [0, 1, 3, 4, 5, 7] [(0, _, _), (1, _, _), (3, _, _), (4, _, _), (5, _, _), (7, _, _)] rfl (KW.then_ ?_))
    refine CW.ret ?_
    have hD45 : D ≠ g4 ∧ D ≠ g5 := ⟨fun e => hMD (.inl e), fun e => hMD (.inr e)⟩
    have hkp : ((W.setCell ⟨g4, 0, none⟩ (.slice none 0 0)).setCell ⟨g5, 0, none⟩ (.bool false)).heap[D]? = W.heap[D]? := (Below.heap_setCell _ _ _ _ (by show D ≠ g5; exact hD45.2)).trans (Below.heap_setCell _ _ _ _ (by show D ≠ g4; exact hD45.1))
    have hbT : Below w.heap.size w ((W.setCell ⟨g4, 0, none⟩ (.slice none 0 0)).setCell ⟨g5, 0, none⟩ (.bool false)) := (a1.setCell (by show w.heap.size ≤ g4; omega) _).setCell (by show w.heap.size ≤ g5; omega) _
    refine ret2CM Tryz.results33 one24 one4 rfl rfl (a4s.far (by show g4 ≠ g5; omega) _) (a5s.set 0 _) (hkp.trans hdef) ⟨Below.putCtl hbT (by omega), _, _, rfl, .inr ⟨hnone, rfl⟩⟩
  · rintro D c pre M W hD ⟨rfl, a2, a3, v, S, a4, a5, a6, a7⟩ hdef
    have hput : ExtF w3.heap.size W (W.putObj D (.deferred none)) := ExtF.putObj hdef rfl hD
    refine CW.ret (KW.blockR (KW.thenR ?_))
    refine ret2CM Tryz.results33 one24 one4 rfl rfl a4 a5 hdef ⟨Below.putCtl a2 (by omega), _, _, rfl, .inl ⟨S, a6, rfl, ?_⟩⟩
    exact (a7.ext hput).now intT_now
end Go.Proofs.YtmhfeehkpndadaaGreat

namespace Go.Proofs.YtmhfeehkpndadaaGreat
open Go.PF Go.RowKit Go.Ord Go.Sort

theorem compact_c {w : World} {v : Value} {zs : List Int} (h : OwnS w 3 1 v zs.length (zs.map (Value.int .i64))) (hn : zs.length ≤ 9223372036854775807) :
    Gives Tryz.prog 63 #[v] w fun u w' => w.grownBy w' v.ownBlock ∧ OwnS w' 3 1 u (Lib.compact zs).length ((Lib.compact zs).map (Value.int .i64)) ∧ u.ownBlock = v.ownBlock := by
  rcases h.2 with ⟨rfl, h0⟩ | ⟨g, cap, cur, rfl, hg, hh, h1, h2, h3, h4⟩
  · have hx : zs = [] := List.eq_nil_of_length_eq_zero h0
    subst hx
    refine (Tryz.slices_Compact_int_empty none 0 w).mono ?_
    rintro e w' ⟨rfl, rfl⟩
    exact ⟨_, rfl, ⟨rfl, rfl, rfl, Nat.le_refl _, fun _ _ _ => rfl⟩, by simpa [Lib.compact, Lib.compactUpTo] using OwnS.nil w' _ 1, rfl⟩
  · have hH := holds_of_blockI (ss := zs) hh (by rw [Nat.mul_one] at h4; exact h4)
    have hcl := Lib.compact_length_le zs
    refine (Tryz.slices_Compact_int g 0 cap zs w hH hn h1).mono ?_
    rintro e w' ⟨rfl, q, rfl⟩
    obtain ⟨c, hc⟩ : ∃ c, c = Lib.compact zs := ⟨_, rfl⟩
    obtain ⟨ts, hts⟩ : ∃ ts : List Int, ts = c ++ List.replicate (zs.length - c.length) 0 := ⟨_, rfl⟩
    rw [← hc, ← hts]
    rw [← hc] at hcl
    have htl : ts.length = zs.length := by rw [hts]; simp; omega
    have hheap : (putRow (Value.int .i64) (Sort.ahead w q) g 0 ts.toArray).heap[g]? = some (.cells (putCells (Value.int .i64) 0 ts.toArray cur) 3 (0, 0)) := by
      simp [putRow, mapBlock, Sort.ahead, Array.getElem?_modify, hh, onCells]
    refine ⟨_, rfl, ⟨rfl, rfl, rfl, by simp [putRow, mapBlock, Sort.ahead], fun k hk hne => ?_⟩, ⟨by simp, .inr ⟨g, cap, _, rfl, hg, hheap, by omega, h2, by simp [putCells, h3], ?_⟩⟩, rfl⟩
    · have : g ≠ k := fun e => hne (by rw [e]; rfl)
      simp [putRow, mapBlock, Sort.ahead, Array.getElem?_modify, this]
    · have ht := take_putCellsI cur ts (by omega)
      rw [Nat.mul_one]
      have h5 := congrArg (List.take c.length) ht
      rw [List.take_take, Nat.min_eq_left (by omega)] at h5
      rw [h5, hts, List.map_append, List.take_append_of_le_length (by simp), List.take_of_length_le (by simp)]

/-! ### sorted and compacted: the increasing list of the members -/
theorem compact_inc {zs : List Int} (hs : zs.Pairwise (· ≤ ·)) : Inc (Lib.compact zs) ∧ ∀ x, x ∈ Lib.compact zs ↔ x ∈ zs := by
  have get : ∀ j, j < zs.length → zs.toArray[j]! = zs.getD j 0 := fun j hj => by simp [hj, List.getD_eq_getElem?_getD]
  have mono : ∀ i j, i < j → j < zs.length → zs.getD i 0 ≤ zs.getD j 0 := fun i j hij hj => by
    have := List.pairwise_iff_getElem.1 hs i j (by omega) hj hij
    simpa [List.getD_eq_getElem?_getD, hj, show i < zs.length by omega] using this
  have key : ∀ m, m ≤ zs.length → Inc (Lib.compactUpTo zs.toArray m) ∧ (∀ x, x ∈ Lib.compactUpTo zs.toArray m ↔ ∃ j, j < m ∧ zs.getD j 0 = x) := by
    intro m
    induction m with
    | zero => exact fun _ => ⟨by simp [Lib.compactUpTo, Inc], fun x => by simp [Lib.compactUpTo]⟩
    | succ m ih =>
      intro hm
      obtain ⟨h1, h2⟩ := ih (by omega)
      rw [Lib.compactUpTo_succ, get m (by omega)]
      by_cases hk : Lib.keeps zs.toArray m = true
      · rw [if_pos hk]
        have hk' : m = 0 ∨ zs.getD m 0 ≠ zs.getD (m - 1) 0 := by
          unfold Lib.keeps at hk
          rw [decide_eq_true_eq, get m (by omega), get (m - 1) (by omega)] at hk
          exact hk
        refine ⟨List.pairwise_append.2 ⟨h1, List.pairwise_singleton _ _, fun a ha b hb => ?_⟩, fun x => ?_⟩
        · rw [List.mem_singleton] at hb
          subst hb
          obtain ⟨j, hj, rfl⟩ := (h2 a).1 ha
          rcases hk' with rfl | hk'
          · omega
          · have q1 := mono (m - 1) m (by omega) (by omega)
            by_cases hjm : j = m - 1
            · subst hjm; omega
            · have q2 := mono j (m - 1) (by omega) (by omega)
              omega
        · rw [List.mem_append, h2, List.mem_singleton]
          constructor
          · rintro (⟨j, hj, rfl⟩ | rfl)
            · exact ⟨j, by omega, rfl⟩
            · exact ⟨m, by omega, rfl⟩
          · rintro ⟨j, hj, rfl⟩
            by_cases hjm : j = m
            · subst hjm; exact .inr rfl
            · exact .inl ⟨j, by omega, rfl⟩
      · rw [if_neg hk, List.append_nil]
        have hk' : m ≠ 0 ∧ zs.getD m 0 = zs.getD (m - 1) 0 := by
          unfold Lib.keeps at hk
          rw [decide_eq_true_eq, get m (by omega), get (m - 1) (by omega)] at hk
          exact ⟨fun e => hk (.inl e), Classical.byContradiction fun e => hk (.inr e)⟩
        refine ⟨h1, fun x => ?_⟩
        rw [h2]
        constructor
        · rintro ⟨j, hj, rfl⟩
          exact ⟨j, by omega, rfl⟩
        · rintro ⟨j, hj, rfl⟩
          by_cases hjm : j = m
          · subst hjm; exact ⟨j - 1, by omega, hk'.2.symm⟩
          · exact ⟨j, by omega, rfl⟩
  obtain ⟨h1, h2⟩ := key zs.length (Nat.le_refl _)
  refine ⟨h1, fun x => ?_⟩
  unfold Lib.compact
  rw [h2, List.mem_iff_getElem?]
  constructor
  · rintro ⟨j, hj, rfl⟩
    exact ⟨j, by simp [List.getD_eq_getElem?_getD, hj]⟩
  · rintro ⟨j, hj⟩
    obtain ⟨h1, h2⟩ := List.getElem?_eq_some_iff.1 hj
    exact ⟨j, h1, by simp [List.getD_eq_getElem?_getD, hj]⟩
theorem sorted_recs (l : List Ev) : Lib.compact ((needsOf l).mergeSort fun x y => decide (x ≤ y)) = recsS l := by
  have hs : ((needsOf l).mergeSort fun x y => decide (x ≤ y)).Pairwise (· ≤ ·) := by
    have := List.pairwise_mergeSort (le := fun x y : Int => decide (x ≤ y)) (fun a b c h1 h2 => by simp at *; omega) (fun a b => by simp; omega) (needsOf l)
    exact this.imp fun h => by simpa using h
  obtain ⟨h1, h2⟩ := compact_inc hs
  refine inc_ext h1 (recsS_inc l) fun x => ?_
  rw [h2, List.mem_mergeSort, mem_recsS]
  unfold needsOf
  rw [List.mem_flatMap]

set_option maxRecDepth 20000 in
theorem erecs_c {w : World} {v : Value} {l : List Ev} (hl : SE w v l) (hsm : l.length ≤ 1000) (hne : ∀ e ∈ l, e.needs.length ≤ 1000) :
    Gives Tryz.prog 35 #[v] w fun x w' => Below w.heap.size w w' ∧ OwnS w' 3 1 x (recsS l).length ((recsS l).map (Value.int .i64)) ∧ ∀ g, x.ownBlock = some g → w.heap.size ≤ g := by
  obtain ⟨A, cap, rfl, _⟩ := hl.form
  have hlen : ∀ k, (needsOf (l.take k)).length ≤ 1000 * k := by
    intro k
    induction k with
    | zero => simp [needsOf]
    | succ k ih =>
      rw [List.take_add_one]
      unfold needsOf at *
      rw [List.flatMap_append, List.length_append]
      cases he : l[k]? with
      | none =>
        show _ + (([] : List Ev).flatMap (·.needs)).length ≤ _
        rw [List.flatMap_nil, List.length_nil]
        omega
      | some e =>
        have := hne e (List.mem_of_getElem? he)
        show _ + (([e] : List Ev).flatMap (·.needs)).length ≤ _
        rw [List.flatMap_singleton]
        omega
  refine gives_of (vs := [.slice A l.length cap]) [(0, none, _)] Tryz.func35 rfl Tryz.ntmps35 rfl rfl ?_
  refine CW.seq (CW.region ?_)
  refine TW.assign rfl rfl rfl ct ?_
  refine TW.nil (KW.pick [0, 2] [(0, _, _), (2, _, _)] rfl (KW.then_ ?_))
  refine CW.seq (CW.region ?_)
  refine TW.assign rfl rfl rfl ct ?_
  refine TW.nil (KW.pick [0, 2, 3] [(0, _, _), (2, _, _), (3, _, _)] rfl (KW.then_ ?_))
  refine CW.seq (CW.seq (CW.region ?_))
  refine TW.move rfl rfl rfl ct ?_
  refine TW.lenSlice rfl rfl Tryz.underlying23 rfl ct ?_
  refine TW.move rfl rfl rfl ct ?_
  refine TW.nil (KW.pick [0, 2, 3, 6, 7, 8] [(0, _, _), (2, _, _), (3, _, _), (6, _, _), (7, _, _), (8, _, _)] rfl (KW.then_ ?_))
  refine CW.block ?_
  refine CW.loopS (fun x : Nat × Value => [(3, none, x.2), (6, none, .slice A l.length cap), (7, none, .int .i64 (l.length : Int)), (8, none, .int .i64 (x.1 : Int))])
    (fun x W => x.1 ≤ l.length ∧ Below w.heap.size w W ∧ OwnS W 3 1 x.2 (needsOf (l.take x.1)).length ((needsOf (l.take x.1)).map (Value.int .i64)) ∧ ∀ g, x.2.ownBlock = some g → w.heap.size ≤ g) (fun x => l.length - x.1) (0, .slice none 0 0) [3, 6, 7, 8] ⟨Nat.zero_le _, Below.refl _ _, OwnS.nil _ _ _, fun g hg => by simp [Value.ownBlock] at hg⟩ rfl ?_
  rintro ⟨k, ov⟩ W ⟨hk, hB, hO, hob⟩
  dsimp only at hk hO hob
  have hlk := hlen k
  refine CW.seq (CW.region ?_)
  refine TW.lss rfl rfl rfl ct rfl ct ?_
  refine TW.nil (KW.pick [3, 6, 7, 8, 9] [(3, _, _), (6, _, _), (7, _, _), (8, _, _), (9, _, _)] rfl (KW.then_ ?_))
  refine CW.seq ?_
  refine CW.condP rfl (fun hlt => ?_) (fun hge => ?_)
  · obtain ⟨e, he, hem⟩ := getx (l := l) (k := k) (by omega)
    have hne' := hne e hem
    have hlW := se_step hl hB
    obtain ⟨ad, rfl⟩ := hlW.addr (by omega)
    obtain ⟨nv, hcells, i1, i2, i3, hneeds⟩ := SE.get hlW he
    obtain ⟨C, ncap, rfl, _⟩ := hneeds.form
    refine CW.skip (KW.then_ (CW.seq (CW.block (CW.seq (CW.region ?_)))))
    refine TW.indexAddr rfl rfl Tryz.underlying23 sz43 rfl ct rfl ct (fun _ => by (try dsimp only); omega) ?_
    refine TW.loadS _ rfl rfl Tryz.underlying43 sz43 rfl ct (fun _ => hcells) rfl ?_
    refine TW.newVar rfl zc43 rfl sz43 rfl rfl ?_
    rintro g1 w1 f1
    refine TW.nil (KW.pick [3, 5, 6, 7, 8] [(3, _, _), (5, _, _), (6, _, _), (7, _, _), (8, _, _)] rfl (KW.then_ ?_))
    refine CW.region ?_
    refine TW.move rfl rfl rfl ct ?_
    refine TW.fieldAddr rfl rfl fo43_3 rfl ct ?_
    have hn1 := hneeds.below f1.below
    have hnews : ∀ (j : Nat) (u : Value), (e.needs.map (Value.int .i64))[j]? = some u → ∃ ad' : Addr, C = some ad' ∧ w1.cell? (ad'.add j) = some u := by
      intro j u hu
      simp only [List.getElem?_map] at hu
      obtain ⟨z, hz, rfl⟩ := Option.map_eq_some_iff.1 hu
      obtain ⟨ad', h1, h2, _⟩ := hn1.int hz
      exact ⟨ad', h1, by rw [Nat.mul_one] at h2; exact h2⟩
    refine TW.load rfl rfl one24 rfl ct (fun _ => f1.blk.fld rfl) ?_
    refine TW.append (e.needs.map (Value.int .i64)) rfl rfl go24 rfl (hO.below f1.below) rfl (by simp) hnews (ints_one _) (by omega) (by omega) ?_
    rintro ov' w2 o2 hg2 hn2
    refine TW.assign rfl rfl rfl ct ?_
    refine TW.nil (KW.pick [3, 5, 6, 7, 8] [(3, _, _), (5, _, _), (6, _, _), (7, _, _), (8, _, _)] rfl (KW.blockN (KW.then_ ?_)))
    refine CW.region ?_
    refine TW.add rfl rfl rfl ct rfl ct (fun _ => by (try dsimp only); omega) ?_
    refine TW.move rfl rfl rfl ct ?_
    refine TW.nil (KW.pick [3, 5, 6, 7, 8] [(3, _, _), (5, _, _), (6, _, _), (7, _, _), (8, _, _)] rfl ?_)
    have hB1 := hB.step f1.below
    have htk : needsOf (l.take (k + 1)) = needsOf (l.take k) ++ e.needs := by
      rw [List.take_add_one, he]
      simp [needsOf]
    refine KW.round (k + 1, ov') [3, 6, 7, 8] rfl ⟨by show k + 1 ≤ l.length; omega, hB1.grown hg2 hB1.size hob, ?_, fun g hg => ?_⟩ (by show l.length - (k + 1) < l.length - k; omega)
    · show OwnS w2 _ 1 ov' (needsOf (l.take (k + 1))).length ((needsOf (l.take (k + 1))).map (Value.int .i64))
      rw [htk]
      simpa using o2
    · rcases hn2 with h | h
      · exact hob g (by rw [← h]; exact hg)
      · rw [h] at hg; cases hg; exact hB1.size
  have hke : k = l.length := by omega
  subst hke
  rw [List.take_length] at hO hlk
  refine CW.exit (KW.thenX (KW.thenX (KW.blockX (KW.then_ (CW.seq (CW.region ?_))))))
  refine TW.move rfl rfl rfl ct ?_
  refine TW.call0 (cap := []) rfl rfl en62 rfl (Args.cons rfl ct Args.nil) (sort_c hO (by omega)) ?_
  rintro y w2 ⟨hg2, hO2⟩
  have hB2 := hB.grown hg2 hB.size hob
  have hO2' : OwnS w2 3 1 ov ((needsOf l).mergeSort fun x y => decide (x ≤ y)).length (((needsOf l).mergeSort fun x y => decide (x ≤ y)).map (Value.int .i64)) := by rw [List.length_mergeSort]; exact hO2
  refine TW.nil (KW.pick [3, 6, 7, 8] [(3, _, _), (6, _, _), (7, _, _), (8, _, _)] rfl (KW.then_ ?_))
  refine CW.seq (CW.region ?_)
  refine TW.move rfl rfl rfl ct ?_
  refine TW.call0 (cap := []) rfl rfl en63 rfl (Args.cons rfl ct Args.nil) (compact_c hO2' (by rw [List.length_mergeSort]; omega)) ?_
  rintro u3 w3 ⟨hg3, hO3, ho3⟩
  refine TW.assign rfl rfl rfl ct ?_
  refine TW.nil (KW.pick [2, 3, 6, 7, 8] [(2, _, _), (3, _, _), (6, _, _), (7, _, _), (8, _, _)] rfl (KW.then_ ?_))
  refine CW.ret ?_
  rw [sorted_recs] at hO3
  refine ret1 Tryz.results35 rfl (⟨hB2.grown hg3 hB2.size hob, hO3, fun g hg => hob g (by rw [← ho3]; exact hg)⟩)
end Go.Proofs.YtmhfeehkpndadaaGreat
