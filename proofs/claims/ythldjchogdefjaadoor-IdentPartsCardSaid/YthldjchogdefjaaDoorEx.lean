/- The head's examples: plain. -/
import Derived.Test.YthldjchogdefjaaDoorMth
namespace Go.Proofs.YthldjchogdefjaaDoor
open Go.PF Go.RowKit

def svalAt (s : ByteArray) (p : Nat) : Nat → Int
  | 0 => 0
  | k + 1 => svalAt s p k * 10 + (bt s (p + k) - 48)
theorem sval_at {s : ByteArray} (hs : s.size = 13) : ∀ k, k ≤ 8 → sval (s.extract 2 10) k = svalAt s 2 k
  | 0, _ => rfl
  | k + 1, hk => by
    simp only [sval, svalAt]
    rw [sval_at hs k (by omega), bt_extract s 2 10 k (by omega) (by omega)]

open Classical in
noncomputable def mis (s : ByteArray) : List ByteArray := if Shape s then misS s else []
theorem mem_mis {s t : ByteArray} : t ∈ mis s ↔ Shape s ∧ t ∈ cands s ∧ Val t := by
  unfold mis
  split
  · rename_i h
    rw [(misS_perm s).mem_iff]
    unfold found
    rw [List.mem_filter]
    exact ⟨fun ⟨a, b⟩ => ⟨h, a, dec_iff.1 b⟩, fun ⟨_, a, b⟩ => ⟨a, dec_pos b⟩⟩
  · rename_i h
    simp [h]

def exOK : ByteArray := ⟨#[82, 82, 52, 55, 51, 49, 50, 52, 56, 50, 57, 65, 65]⟩
def exBad : ByteArray := ⟨#[82, 82, 52, 55, 51, 49, 50, 52, 56, 50, 56, 65, 65]⟩
def exLow : ByteArray := ⟨#[114, 82, 52, 55, 51, 49, 50, 52, 56, 50, 57, 65, 65]⟩
theorem c13 {p : Nat → Prop} (h0 : p 0) (h1 : p 1) (h2 : p 2) (h3 : p 3) (h4 : p 4) (h5 : p 5) (h6 : p 6) (h7 : p 7) (h8 : p 8) (h9 : p 9) (h10 : p 10) (h11 : p 11) (h12 : p 12) : ∀ i, i < 13 → p i := by
  intro i hi
  match i, hi with
  | 0, _ => exact h0
  | 1, _ => exact h1
  | 2, _ => exact h2
  | 3, _ => exact h3
  | 4, _ => exact h4
  | 5, _ => exact h5
  | 6, _ => exact h6
  | 7, _ => exact h7
  | 8, _ => exact h8
  | 9, _ => exact h9
  | 10, _ => exact h10
  | 11, _ => exact h11
  | 12, _ => exact h12
def shB (s : ByteArray) : Bool := (List.range 13).all fun i => if i < 2 ∨ 10 < i then decide (Cap (bt s i)) else decide (Dig (bt s i))
theorem shape_shB {s : ByteArray} (hs : s.size = 13) (h : shB s = true) : Shape s := by
  unfold shB at h
  rw [List.all_eq_true] at h
  refine shape_to hs fun i hi => ?_
  have := h i (by simpa using hi)
  by_cases hl : i < 2 ∨ 10 < i
  · rw [if_pos hl] at this; exact ⟨fun _ => of_decide_eq_true this, fun h => absurd hl h⟩
  · rw [if_neg hl] at this; exact ⟨fun h => absurd h hl, fun _ => of_decide_eq_true this⟩
theorem shOK : Shape exOK := shape_shB rfl (by decide)
theorem shBad : Shape exBad := shape_shB rfl (by decide)
theorem shLow : ¬ Shape exLow := fun h => absurd (h.caps 0 (by omega)) (by decide)
theorem vOK : Val exOK := val_iff.2 ⟨shOK, by decide⟩
theorem vBad : ¬ Val exBad := fun h => absurd (val_iff.1 h).2 (by decide)
theorem eight_of {s : ByteArray} (hs : s.size = 8) (h : (List.range 8).all (fun i => decide (Dig (bt s i))) = true) : Eight s := by
  rw [List.all_eq_true] at h
  exact ⟨hs, fun i hi => of_decide_eq_true (h i (by simpa using hi))⟩
theorem k1 : checkS ⟨#[52, 55, 51, 49, 50, 52, 56, 50]⟩ = (9, 0) := by
  unfold checkS
  rw [if_pos (eight_of rfl (by decide))]
  decide
theorem k2 : checkS ⟨#[48, 48, 48, 48, 48, 48, 48, 48]⟩ = (5, 0) := by
  unfold checkS
  rw [if_pos (eight_of rfl (by decide))]
  decide
theorem k3 : checkS ⟨#[52, 55, 51, 49, 50, 52, 56]⟩ = (0, 1) := by
  unfold checkS
  rw [if_neg (fun h => absurd h.1 (by decide))]
theorem pad8 : pad 8 47312482 = [52, 55, 51, 49, 50, 52, 56, 50] := by decide
theorem k4 : makeS ⟨#[82, 82]⟩ 47312482 ⟨#[65, 65]⟩ = (exOK, 0) := by
  unfold makeS
  rw [if_pos ⟨⟨rfl, by decide, by decide⟩, ⟨rfl, by decide, by decide⟩, by decide, by decide⟩]
  have e : (47312482 : Int).toNat = 47312482 := rfl
  have hp : padB 47312482 = ByteArray.mk [52, 55, 51, 49, 50, 52, 56, 50].toArray := by unfold padB; rw [pad8]
  have hc : charB (chk (wsum (ByteArray.mk [52, 55, 51, 49, 50, 52, 56, 50].toArray) 8)) = ByteArray.mk [57].toArray := by
    have : chk (wsum (ByteArray.mk [52, 55, 51, 49, 50, 52, 56, 50].toArray) 8) = 9 := by decide
    rw [this]; rfl
  rw [e]
  unfold idOf
  rw [hp, hc]
  have h1 := append_mk [82, 82] [52, 55, 51, 49, 50, 52, 56, 50]
  have h2 := append_mk ([82, 82] ++ [52, 55, 51, 49, 50, 52, 56, 50]) [57]
  have h3 := append_mk (([82, 82] ++ [52, 55, 51, 49, 50, 52, 56, 50]) ++ [57]) [65, 65]
  show (ByteArray.mk [82, 82].toArray ++ _ ++ _ ++ ByteArray.mk [65, 65].toArray, (0 : Int)) = _
  rw [h1, h2, h3]
  rfl
theorem k5 : serialS exOK = (47312482, 0) := by
  unfold serialS
  rw [if_neg (by simpa using shOK), if_neg (by simpa using vOK), sval_at shOK.size 8 (by omega)]
  decide
theorem k6 : serialS exBad = (0, 10) := by
  unfold serialS
  rw [if_neg (by simpa using shBad), if_pos vBad]
theorem k7 : serialS exLow = (0, 1) := by
  unfold serialS
  rw [if_pos shLow]
theorem k8 : mis exOK = [] := by
  cases h : mis exOK with
  | nil => rfl
  | cons t l =>
    exfalso
    have ht : t ∈ mis exOK := by rw [h]; simp
    obtain ⟨_, hc, hv⟩ := mem_mis.1 ht
    obtain ⟨i, d, hi, hd, hne, rfl⟩ := mem_cands.1 hc
    have := hit_five vOK hi hd (fun e => hne (by have := (nbr_self (s := exOK) rfl (by omega) (by omega)).1 e; omega)) hv
    exact absurd this.2.1 (by decide)
theorem k9 : exOK ∈ mis exBad := by
  refine mem_mis.2 ⟨shBad, mem_cands.2 ⟨8, 9, by omega, by omega, by decide, ?_⟩, vOK⟩
  refine ext_bt (by rw [nbr_size (s := exBad) rfl (by omega)]; rfl) fun i hi => ?_
  have hi : i < 13 := hi
  rw [nbr_at (s := exBad) rfl (by omega) (by omega) hi]
  revert i
  exact fun i _ hi => c13 (p := fun i => bt exOK i = if i = 2 + 8 then ((48 + 9 : Nat) : Int) else bt exBad i) (by decide) (by decide) (by decide) (by decide) (by decide) (by decide) (by decide) (by decide) (by decide) (by decide) (by decide) (by decide) (by decide) i hi
end Go.Proofs.YthldjchogdefjaaDoor
