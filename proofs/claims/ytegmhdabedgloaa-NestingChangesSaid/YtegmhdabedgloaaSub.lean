/- What is in a box: the depth first walk, sorted. -/
import Derived.Test.YtegmhdabedgloaaC
namespace Go.Proofs.Ytegmhdabedgloaa
open Go.PF Go.RowKit

def child (l : List Box) (o i : Nat) : Bool := match l[i]? with | some b => decide (b.parent = (o : Int)) | none => false

def subs (l : List Box) : Nat → Nat → List Nat
  | 0, _ => []
  | n + 1, o => (List.range l.length).flatMap fun i => if child l o i then i :: subs l n i else []
def subsTo (l : List Box) (n o k : Nat) : List Nat := (List.range k).flatMap fun i => if child l o i then i :: subs l n i else []

theorem subs_succ (l : List Box) (n o : Nat) : subs l (n + 1) o = subsTo l n o l.length := rfl
theorem subsTo_succ (l : List Box) (n o k : Nat) : subsTo l n o (k + 1) = subsTo l n o k ++ if child l o k then k :: subs l n k else [] := by
  simp [subsTo, List.range_succ, List.flatMap_append]
theorem subsTo_zero (l : List Box) (n o : Nat) : subsTo l n o 0 = [] := rfl
theorem subsTo_le (l : List Box) (n o : Nat) {k m : Nat} (h : k ≤ m) : (subsTo l n o k).length ≤ (subsTo l n o m).length := by
  induction h with
  | refl => exact Nat.le_refl _
  | step _ ih => rw [subsTo_succ]; simp; omega

theorem out_kind {l : List Box} (hv : Valid l) : ∀ (m : Nat) {i c : Nat} {b q : Box}, (outside l i).length ≤ m → l[i]? = some b → c ∈ outside l i → l[c]? = some q → b.kind < q.kind
  | 0, i, c, b, q, hm, hb, hc, hq => by
    have : outside l i = [] := List.eq_nil_of_length_eq_zero (by omega)
    rw [this] at hc; cases hc
  | m + 1, i, c, b, q, hm, hb, hc, hq => by
    have hok := hv.each i b hb
    rw [outside_eq hv hb] at hc hm
    split at hc
    · cases hc
    · rename_i hp
      rw [if_neg hp] at hm
      obtain ⟨p, h1, h2, _⟩ := hok.up (by omega)
      simp only [List.mem_cons] at hc
      rcases hc with rfl | hc
      · rw [h1] at hq; cases hq; exact h2
      · have := out_kind hv m (by simpa using hm) h1 hc hq
        omega
theorem out_lt {l : List Box} (hv : Valid l) {i c : Nat} {b q : Box} (hb : l[i]? = some b) (hc : c ∈ outside l i) (hq : l[c]? = some q) : b.kind < q.kind := out_kind hv _ (Nat.le_refl _) hb hc hq

theorem out_trans {l : List Box} (hv : Valid l) : ∀ (m : Nat) {i c d : Nat} {b : Box}, (outside l i).length ≤ m → l[i]? = some b → c ∈ outside l i → d ∈ outside l c → d ∈ outside l i
  | 0, i, c, d, b, hm, hb, hc, hd => by
    have : outside l i = [] := List.eq_nil_of_length_eq_zero (by omega)
    rw [this] at hc; cases hc
  | m + 1, i, c, d, b, hm, hb, hc, hd => by
    have hok := hv.each i b hb
    rw [outside_eq hv hb] at hc hm ⊢
    split at hc
    · cases hc
    · rename_i hp
      rw [if_neg hp] at hm
      rw [if_neg hp]
      obtain ⟨p, h1, h2, _⟩ := hok.up (by omega)
      simp only [List.mem_cons] at hc ⊢
      right
      rcases hc with rfl | hc
      · exact hd
      · exact out_trans hv m (by simpa using hm) h1 hc hd

theorem out_last {l : List Box} (hv : Valid l) : ∀ (m : Nat) {i o : Nat} {b : Box}, (outside l i).length ≤ m → l[i]? = some b → o ∈ outside l i → ∃ c, child l o c = true ∧ c < l.length ∧ (i = c ∨ c ∈ outside l i)
  | 0, i, o, b, hm, hb, hc => by
    have : outside l i = [] := List.eq_nil_of_length_eq_zero (by omega)
    rw [this] at hc; cases hc
  | m + 1, i, o, b, hm, hb, hc => by
    have hok := hv.each i b hb
    have he := outside_eq hv hb
    rw [he] at hc hm
    split at hc
    · cases hc
    · rename_i hp
      rw [if_neg hp] at hm
      rw [if_neg hp] at he
      obtain ⟨p, h1, h2, _⟩ := hok.up (by omega)
      simp only [List.mem_cons] at hc
      rcases hc with rfl | hc
      · exact ⟨i, by simp [child, hb]; omega, (List.getElem?_eq_some_iff.1 hb).1, .inl rfl⟩
      · obtain ⟨c, h3, h4, h5⟩ := out_last hv m (by simpa using hm) h1 hc
        refine ⟨c, h3, h4, .inr ?_⟩
        rw [he]
        rcases h5 with rfl | h5
        · simp
        · simp [h5]

theorem child_out {l : List Box} (hv : Valid l) {o c : Nat} (h : child l o c = true) : outside l c = o :: outside l o ∧ ∃ b q, l[c]? = some b ∧ l[o]? = some q ∧ b.kind < q.kind := by
  unfold child at h
  split at h
  · rename_i b hb
    simp at h
    have hok := hv.each c b hb
    obtain ⟨q, hq, hlt, _⟩ := hok.up (by omega)
    rw [h, Int.toNat_natCast] at hq
    refine ⟨?_, b, q, hb, hq, hlt⟩
    rw [outside_eq hv hb, if_neg (by omega), h, Int.toNat_natCast]
  · cases h

theorem mem_subs {l : List Box} (hv : Valid l) : ∀ (n : Nat) {o i : Nat} {q : Box}, l[o]? = some q → q.kind < n → (i ∈ subs l n o ↔ i < l.length ∧ o ∈ outside l i)
  | 0, o, i, q, hq, hk => by have := (hv.each o q hq).k1; omega
  | n + 1, o, i, q, hq, hk => by
    simp only [subs, List.mem_flatMap, List.mem_range]
    constructor
    · rintro ⟨c, hc, hi⟩
      split at hi
      · rename_i hch
        obtain ⟨h1, b, q', hb, hq', hlt⟩ := child_out hv hch
        rw [hq] at hq'; cases hq'
        simp only [List.mem_cons] at hi
        rcases hi with rfl | hi
        · exact ⟨hc, by rw [h1]; simp⟩
        · obtain ⟨h2, h3⟩ := (mem_subs hv n hb (by omega)).1 hi
          exact ⟨h2, out_trans hv _ (Nat.le_refl _) (List.getElem?_eq_getElem h2) h3 (by rw [h1]; simp)⟩
      · cases hi
    · rintro ⟨hi, ho⟩
      obtain ⟨c, h1, h2, h3⟩ := out_last hv _ (Nat.le_refl _) (List.getElem?_eq_getElem hi) ho
      refine ⟨c, h2, ?_⟩
      rw [if_pos h1]
      obtain ⟨_, b, q', hb, hq', hlt⟩ := child_out hv h1
      rw [hq] at hq'; cases hq'
      simp only [List.mem_cons]
      rcases h3 with h3 | h3
      · exact .inl h3
      · exact .inr ((mem_subs hv n hb (by omega)).2 ⟨hi, h3⟩)

theorem out_comp {l : List Box} (hv : Valid l) : ∀ (m : Nat) {z i j : Nat} {b : Box}, (outside l z).length ≤ m → l[z]? = some b → (z = i ∨ i ∈ outside l z) → (z = j ∨ j ∈ outside l z) → i = j ∨ i ∈ outside l j ∨ j ∈ outside l i
  | m, z, i, j, b, hm, hb, .inl h, .inl h' => .inl (h.symm.trans h')
  | m, z, i, j, b, hm, hb, .inl h, .inr h' => by subst h; exact .inr (.inr h')
  | m, z, i, j, b, hm, hb, .inr h, .inl h' => by subst h'; exact .inr (.inl h)
  | 0, z, i, j, b, hm, hb, .inr h, .inr h' => by
    have : outside l z = [] := List.eq_nil_of_length_eq_zero (by omega)
    rw [this] at h; cases h
  | m + 1, z, i, j, b, hm, hb, .inr h, .inr h' => by
    have hok := hv.each z b hb
    rw [outside_eq hv hb] at h h' hm
    split at h
    · cases h
    · rename_i hp
      rw [if_neg hp] at hm h'
      obtain ⟨p, h1, h2, _⟩ := hok.up (by omega)
      simp only [List.mem_cons] at h h'
      exact out_comp hv m (by simpa using hm) h1 (h.imp Eq.symm id) (h'.imp Eq.symm id)

theorem child_apart {l : List Box} (hv : Valid l) {o i j : Nat} (hi : child l o i = true) (hj : child l o j = true) : ¬ i ∈ outside l j := by
  intro h
  obtain ⟨h1, b, q, hb, hq, hlt⟩ := child_out hv hi
  obtain ⟨h2, b', q', hb', hq', hlt'⟩ := child_out hv hj
  rw [hq] at hq'; cases hq'
  rw [h2] at h
  simp only [List.mem_cons] at h
  rcases h with rfl | h
  · rw [hq] at hb; cases hb; omega
  · have := out_lt hv hq h hb; omega

theorem subs_nodup {l : List Box} (hv : Valid l) : ∀ (n : Nat) {o : Nat} {q : Box}, l[o]? = some q → q.kind < n → (subs l n o).Nodup
  | 0, o, q, hq, hk => by have := (hv.each o q hq).k1; omega
  | n + 1, o, q, hq, hk => by
    simp only [subs]
    unfold List.Nodup
    rw [List.pairwise_flatMap]
    have hin : ∀ {c x : Nat}, (x ∈ if child l o c = true then c :: subs l n c else []) → child l o c = true ∧ (x = c ∨ (x < l.length ∧ c ∈ outside l x)) := by
      intro c x hx
      split at hx
      · rename_i hch
        obtain ⟨_, b, q', hb, hq', hlt⟩ := child_out hv hch
        rw [hq] at hq'; cases hq'
        simp only [List.mem_cons] at hx
        exact ⟨hch, hx.imp id fun h => (mem_subs hv n hb (by omega)).1 h⟩
      · cases hx
    constructor
    · intro c hc
      split
      · rename_i hch
        obtain ⟨h1, b, q', hb, hq', hlt⟩ := child_out hv hch
        rw [hq] at hq'; cases hq'
        refine List.Pairwise.cons ?_ (subs_nodup hv n hb (by omega))
        intro x hx he
        subst he
        have := ((mem_subs hv n hb (by omega)).1 hx).2
        have := out_lt hv hb this hb
        omega
      · exact List.Pairwise.nil
    · refine List.Pairwise.imp_of_mem (R := fun a b => a < b) ?_ List.pairwise_lt_range
      intro a b ha hb hlt x hx y hy he
      subst he
      obtain ⟨ha1, ha2⟩ := hin hx
      obtain ⟨hb1, hb2⟩ := hin hy
      have hxl : x < l.length := by
        rcases ha2 with rfl | h
        · simpa using ha
        · exact h.1
      rcases out_comp hv _ (Nat.le_refl _) (List.getElem?_eq_getElem hxl) (ha2.imp id (·.2)) (hb2.imp id (·.2)) with h | h | h
      · omega
      · exact child_apart hv ha1 hb1 h
      · exact child_apart hv hb1 ha1 h

theorem subs_sorted {l : List Box} (hv : Valid l) {o : Nat} (ho : o < l.length) : ((subs l 4 o).map fun (k : Nat) => (k : Int)).mergeSort (fun x y => decide (x ≤ y)) = (inside l o).map fun (k : Nat) => (k : Int) := by
  obtain ⟨q, hq⟩ : ∃ q, l[o]? = some q := ⟨l[o], List.getElem?_eq_getElem ho⟩
  have hk : q.kind < (4 : Nat) := by have := (hv.each o q hq).k2; omega
  have hin : (inside l o).Nodup := List.Nodup.sublist List.filter_sublist List.nodup_range
  have hp : (subs l 4 o).Perm (inside l o) := by
    rw [List.perm_ext_iff_of_nodup (subs_nodup hv 4 hq hk) hin]
    intro i
    rw [mem_subs hv 4 hq hk]
    simp [inside]
  have hp2 : ((subs l 4 o).map fun (k : Nat) => (k : Int)).Perm ((inside l o).map fun (k : Nat) => (k : Int)) := hp.map _
  refine List.Perm.eq_of_pairwise (le := fun x y : Int => x ≤ y) (fun a b _ _ h1 h2 => by omega) ?_ ?_ ((List.mergeSort_perm _ _).trans hp2)
  · have := List.pairwise_mergeSort (le := fun x y : Int => decide (x ≤ y)) (fun a b c h1 h2 => by simp at *; omega) (fun a b => by simp; omega) ((subs l 4 o).map fun (k : Nat) => (k : Int))
    exact this.imp fun h => by simpa using h
  · rw [List.pairwise_map]
    exact (List.Pairwise.filter _ List.pairwise_lt_range).imp fun h => by omega

theorem subs_len {l : List Box} (hv : Valid l) {o : Nat} (ho : o < l.length) : (subs l 4 o).length ≤ 200 := by
  have h := congrArg List.length (subs_sorted hv ho)
  rw [List.length_mergeSort] at h
  simp at h
  rw [h]
  have : (inside l o).length ≤ (List.range l.length).length := List.length_filter_le _ _
  have := hv.few
  simp at *; omega
end Go.Proofs.Ytegmhdabedgloaa
