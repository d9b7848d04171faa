/- The list of what a text can be misread as: plain. -/
import Derived.Test.YthldjchogdefjaaDoorN
namespace Go.Proofs.YthldjchogdefjaaDoor
open Go.PF Go.RowKit

theorem nbr_inj {s : ByteArray} (hs : s.size = 13) {p b p' b' : Nat} (hp : p < 13) (hp' : p' < 13) (hb : b < 256) (hb' : b' < 256) (h1 : bt s p ≠ (b : Int)) (h : nbr s p b = nbr s p' b') : p = p' ∧ b = b' := by
  have e := nbr_at hs hp hb hp
  rw [h, nbr_at hs hp' hb' hp, if_pos rfl] at e
  split at e
  · rename_i hpp; exact ⟨hpp, by omega⟩
  · exact absurd e h1
theorem cands_nodup {s : ByteArray} (hs : s.size = 13) : (cands s).Nodup := by
  have hAt : ∀ i, i < 9 → ∀ e, e ≤ 10 → (candsAt s i e).Nodup ∧ ∀ t ∈ candsAt s i e, ∃ d : Nat, d < e ∧ bt s (2 + i) ≠ 48 + (d : Int) ∧ t = nbr s (2 + i) (48 + d) := by
    intro i hi e
    induction e with
    | zero => intro _; simp [candsAt]
    | succ e ih =>
      intro he
      obtain ⟨h1, h2⟩ := ih (by omega)
      rw [candsAt]
      have hm : ∀ t ∈ at1 s i e, bt s (2 + i) ≠ 48 + (e : Int) ∧ t = nbr s (2 + i) (48 + e) := by
        intro t ht
        unfold at1 at ht
        split at ht
        · cases ht
        · rename_i hne; exact ⟨hne, by simpa using ht⟩
      refine ⟨?_, fun t ht => ?_⟩
      · rw [List.nodup_append]
        refine ⟨h1, by unfold at1; split <;> simp, fun a ha b hb e1 => ?_⟩
        subst e1
        obtain ⟨d, hd, hne, rfl⟩ := h2 a ha
        obtain ⟨hne', e2⟩ := hm _ hb
        have := (nbr_inj hs (by omega) (by omega) (by omega) (by omega) (by omega) e2).2
        omega
      · rcases List.mem_append.1 ht with h | h
        · obtain ⟨d, hd, q⟩ := h2 t h; exact ⟨d, by omega, q⟩
        · exact ⟨e, by omega, hm t h⟩
  have hTo : ∀ j, j ≤ 9 → (candsTo s j).Nodup ∧ ∀ t ∈ candsTo s j, ∃ i d : Nat, i < j ∧ d < 10 ∧ bt s (2 + i) ≠ 48 + (d : Int) ∧ t = nbr s (2 + i) (48 + d) := by
    intro j
    induction j with
    | zero => intro _; simp [candsTo]
    | succ j ih =>
      intro hj
      obtain ⟨h1, h2⟩ := ih (by omega)
      obtain ⟨h3, h4⟩ := hAt j (by omega) 10 (by omega)
      rw [candsTo]
      refine ⟨?_, fun t ht => ?_⟩
      · rw [List.nodup_append]
        refine ⟨h1, h3, fun a ha b hb e1 => ?_⟩
        subst e1
        obtain ⟨i, d, hi, hd, hne, rfl⟩ := h2 a ha
        obtain ⟨d', hd', hne', e2⟩ := h4 _ hb
        have := (nbr_inj hs (by omega) (by omega) (by omega) (by omega) (by omega) e2).1
        omega
      · rcases List.mem_append.1 ht with h | h
        · obtain ⟨i, d, hi, q⟩ := h2 t h; exact ⟨i, d, by omega, q⟩
        · obtain ⟨d, q⟩ := h4 t h; exact ⟨j, d, by omega, q⟩
  exact (hTo 9 (by omega)).1
theorem mis_nodup {s : ByteArray} (hsh : Shape s) : (mis s).Nodup := by
  unfold mis
  rw [if_pos hsh]
  exact (misS_perm s).nodup_iff.2 ((cands_nodup hsh.size).sublist List.filter_sublist)
theorem mis_lt {s : ByteArray} (hsh : Shape s) {i : Nat} {x y : ByteArray} (hx : (mis s)[i]? = some x) (hy : (mis s)[i + 1]? = some y) : ltB x y = true := by
  have hsrt : (mis s).Pairwise leB := by unfold mis; rw [if_pos hsh]; exact misS_sorted s
  obtain ⟨h1, rfl⟩ := List.getElem?_eq_some_iff.1 hx
  obtain ⟨h2, rfl⟩ := List.getElem?_eq_some_iff.1 hy
  have hle := List.pairwise_iff_getElem.1 hsrt i (i + 1) h1 h2 (by omega)
  have hne := List.pairwise_iff_getElem.1 (mis_nodup hsh) i (i + 1) h1 h2 (by omega)
  rw [ltB_eq]
  refine decide_eq_true ?_
  refine Classical.byContradiction fun h => hne ?_
  exact leB_antisymm hle (List.not_lt.1 h)
/-- how many places differ -/
def diffs (s t : ByteArray) : Nat → Nat
  | 0 => 0
  | k + 1 => diffs s t k + if bt t k ≠ bt s k then 1 else 0
theorem diffs_le (s t : ByteArray) : ∀ k, diffs s t k ≤ k
  | 0 => Nat.le_refl _
  | k + 1 => by have := diffs_le s t k; simp only [diffs]; split <;> omega
theorem nbr_diffs {s : ByteArray} (hs : s.size = 13) {p b : Nat} (hp : p < 13) (hb : b < 256) (hne : bt s p ≠ (b : Int)) : ∀ k, k ≤ 13 → diffs s (nbr s p b) k = if p < k then 1 else 0
  | 0, _ => by simp [diffs]
  | k + 1, hk => by
    simp only [diffs]
    rw [nbr_diffs hs hp hb hne k (by omega), nbr_at hs hp hb (by omega)]
    by_cases h : k = p
    · subst h
      rw [if_pos rfl, if_neg (by omega), if_pos (fun e => hne e.symm), if_pos (by omega)]
    · rw [if_neg h]
      simp
      by_cases h2 : p < k
      · rw [if_pos h2, if_pos (by omega)]
      · rw [if_neg h2, if_neg (by omega)]
theorem mis_back {s t : ByteArray} (hv : Val s) (ht : t ∈ mis s) : s ∈ mis t := by
  obtain ⟨hsh, hc, hvt⟩ := mem_mis.1 ht
  obtain ⟨i, d, hi, hd, hne, rfl⟩ := mem_cands.1 hc
  have hs := hsh.size
  have hdg := hsh.digs (2 + i) (by omega) (by omega)
  have hts : (nbr s (2 + i) (48 + d)).size = 13 := nbr_size hs (by omega)
  have hat : bt (nbr s (2 + i) (48 + d)) (2 + i) = ((48 + d : Nat) : Int) := by rw [nbr_at hs (by omega) (by omega) (by omega), if_pos rfl]
  obtain ⟨e, he⟩ : ∃ e : Nat, bt s (2 + i) = 48 + (e : Int) := ⟨(bt s (2 + i) - 48).toNat, by omega⟩
  refine mem_mis.2 ⟨hvt.1, mem_cands.2 ⟨i, e, hi, by omega, by rw [hat]; omega, ?_⟩, hv⟩
  refine ext_bt (by rw [hs, nbr_size hts (by omega)]) fun k hk => ?_
  rw [hs] at hk
  rw [nbr_at hts (by omega) (by omega) hk, nbr_at hs (by omega) (by omega) hk]
  by_cases h : k = 2 + i
  · subst h; rw [if_pos rfl, he]; omega
  · rw [if_neg h, if_neg h]
theorem extract_eq {s t : ByteArray} {a b : Nat} (hs : b ≤ s.size) (ht : b ≤ t.size) (h : ∀ i, a ≤ i → i < b → bt t i = bt s i) : t.extract a b = s.extract a b := by
  refine ext_bt (by rw [size_extract' t a b ht, size_extract' s a b hs]) fun i hi => ?_
  rw [size_extract' t a b ht] at hi
  rw [bt_extract t a b i (by omega) ht, bt_extract s a b i (by omega) hs]
  exact h (a + i) (by omega) (by omega)
theorem nbr_letters {s : ByteArray} (hs : s.size = 13) {i d : Nat} (hi : i < 9) (hd : d < 10) : (nbr s (2 + i) (48 + d)).extract 0 2 = s.extract 0 2 ∧ (nbr s (2 + i) (48 + d)).extract 11 (nbr s (2 + i) (48 + d)).size = s.extract 11 s.size := by
  have hts : (nbr s (2 + i) (48 + d)).size = 13 := nbr_size hs (by omega)
  refine ⟨extract_eq (by omega) (by omega) fun k _ hk => ?_, ?_⟩
  · rw [nbr_at hs (by omega) (by omega) (by omega), if_neg (by omega)]
  · rw [hts, hs]
    refine extract_eq (by omega) (by omega) fun k hk1 hk => ?_
    rw [nbr_at hs (by omega) (by omega) (by omega), if_neg (by omega)]
end Go.Proofs.YthldjchogdefjaaDoor
