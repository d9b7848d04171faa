/- Serial numbers as texts: plain. -/
import Derived.Test.YthldjchogdefjaaDoorD
import Derived.Lib.Repeat
namespace Go.Proofs.YthldjchogdefjaaDoor
open Go.PF Go.RowKit

/-- the last k digits of n -/
def pad : Nat → Nat → List UInt8
  | 0, _ => []
  | k + 1, n => pad k (n / 10) ++ [UInt8.ofNat (48 + n % 10)]
theorem pad_len : ∀ k n, (pad k n).length = k
  | 0, _ => rfl
  | k + 1, n => by simp [pad, pad_len k]
/-- one digit more, ahead -/
theorem pad_more : ∀ k n, pad (k + 1) n = UInt8.ofNat (48 + n / 10 ^ k % 10) :: pad k n
  | 0, n => by simp [pad]
  | k + 1, n => by
    rw [pad, pad_more k (n / 10)]
    simp only [pad, List.cons_append, List.cons.injEq, and_true]
    rw [Nat.div_div_eq_div_mul, ← Nat.pow_succ']
theorem pad_rep : ∀ (k n : Nat), Lib.nDigits n ≤ k → Lib.repeatL [48] (k - Lib.nDigits n) ++ Lib.decDigits n = pad k n
  | 0, n, h => by have := Lib.nDigits_pos n; omega
  | k + 1, n, h => by
    by_cases hn : n < 10
    · rw [Lib.nDigits_small hn, Lib.decDigits, dif_pos hn, pad, Nat.mod_eq_of_lt hn]
      congr 1
      have h0 : n / 10 = 0 := by omega
      rw [h0]
      show Lib.repeatL [48] k = pad k 0
      clear hn h h0
      induction k with
      | zero => rfl
      | succ k ih =>
        rw [pad, Nat.zero_div, ← ih, Lib.repeatL_add [48] k 1]
        rfl
    · rw [Lib.nDigits_big hn, Lib.decDigits, dif_neg hn, pad, ← pad_rep k (n / 10) (by rw [Lib.nDigits_big hn] at h; omega), ← List.append_assoc]
      congr 2
      congr 1
      omega
theorem nDigits_le8 {n : Nat} (h : n < 100000000) : Lib.nDigits n ≤ 8 := by
  have key : ∀ k n, n < 10 ^ (k + 1) → Lib.nDigits n ≤ k + 1 := by
    intro k
    induction k with
    | zero => intro n hn; rw [Lib.nDigits_small (by simpa using hn)]; omega
    | succ k ih =>
      intro n hn
      by_cases h10 : n < 10
      · rw [Lib.nDigits_small h10]; omega
      · rw [Lib.nDigits_big h10]
        have := ih (n / 10) (by rw [Nat.pow_succ] at hn; omega)
        omega
  exact key 7 n (by simpa using h)

def padB (n : Nat) : ByteArray := ⟨(pad 8 n).toArray⟩
theorem bt_mk (l : List UInt8) (i : Nat) : bt ⟨l.toArray⟩ i = ((l.getD i 0).toNat : Int) := by simp [bt, List.getD_eq_getElem?_getD]
theorem u8_digit {d : Nat} (h : d < 10) : (UInt8.ofNat (48 + d)).toNat = 48 + d := by
  simp; omega
theorem pad_dig : ∀ (k n i : Nat), i < k → ((pad k n).getD i 0).toNat = 48 + n / 10 ^ (k - 1 - i) % 10
  | 0, n, i, h => by omega
  | k + 1, n, i, h => by
    rw [pad_more]
    cases i with
    | zero =>
      simp only [List.getD_cons_zero]
      rw [u8_digit (Nat.mod_lt _ (by omega))]
      simp
    | succ i =>
      simp only [List.getD_cons_succ]
      rw [pad_dig k n i (by omega)]
      congr 4
      omega
theorem padB_size (n : Nat) : (padB n).size = 8 := by
  show (pad 8 n).toArray.size = 8
  simp [pad_len]
theorem padB_at (n i : Nat) (h : i < 8) : bt (padB n) i = 48 + ((n / 10 ^ (7 - i) % 10 : Nat) : Int) := by
  unfold padB
  rw [bt_mk, pad_dig 8 n i h]
  have : 8 - 1 - i = 7 - i := by omega
  rw [this]
  omega
theorem padB_eight (n : Nat) : Eight (padB n) := by
  refine ⟨padB_size n, fun i hi => ?_⟩
  rw [padB_at n i hi]
  have := Nat.mod_lt (n / 10 ^ (7 - i)) (show 10 > 0 by omega)
  constructor <;> omega
theorem check_pad (n : Nat) : checkS (padB n) = (chk (wsum (padB n) 8), 0) := by
  unfold checkS; rw [if_pos (padB_eight n)]

def sval (s : ByteArray) : Nat → Int
  | 0 => 0
  | k + 1 => sval s k * 10 + (bt s k - 48)
theorem sval_bound (s : ByteArray) : ∀ k, k ≤ 8 → (∀ i, i < k → Dig (bt s i)) → 0 ≤ sval s k ∧ sval s k < 10 ^ k
  | 0, _, _ => by simp [sval]
  | k + 1, hk, h => by
    have ih := sval_bound s k (by omega) (fun i hi => h i (by omega))
    have hd := h k (by omega)
    simp only [sval]
    rw [Int.pow_succ]
    unfold Dig at hd
    omega

def idOf (kind : ByteArray) (n : Nat) (op : ByteArray) : ByteArray := kind ++ padB n ++ charB (chk (wsum (padB n) 8)) ++ op
def MakeOK (kind : ByteArray) (n : Int) (op : ByteArray) : Prop := Pair kind ∧ Pair op ∧ 0 ≤ n ∧ n ≤ 99999999
open Classical in
noncomputable def makeS (kind : ByteArray) (n : Int) (op : ByteArray) : ByteArray × Int := if MakeOK kind n op then (idOf kind n.toNat op, 0) else (ByteArray.empty, 1)
open Classical in
noncomputable def serialS (s : ByteArray) : Int × Int := if ¬ Shape s then (0, 1) else if ¬ Val s then (0, 10) else (sval (s.extract 2 10) 8, 0)
theorem size_mk (l : List UInt8) : (ByteArray.mk l.toArray).size = l.length := by show l.toArray.size = _; simp
theorem append_mk (a b : List UInt8) : (ByteArray.mk a.toArray) ++ (ByteArray.mk b.toArray) = ByteArray.mk (a ++ b).toArray := by
  apply ByteArray.ext
  simp [ByteArray.data_append]
end Go.Proofs.YthldjchogdefjaaDoor
