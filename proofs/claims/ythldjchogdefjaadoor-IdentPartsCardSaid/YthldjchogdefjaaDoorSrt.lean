/- Sorted lists of texts: plain. -/
import Derived.Test.YthldjchogdefjaaDoorH
namespace Go.Proofs.YthldjchogdefjaaDoor
open Go.PF Go.RowKit

noncomputable def fins (l : List ByteArray) : List ByteArray := l.foldl insS []
theorem fins_snoc (l : List ByteArray) (t : ByteArray) : fins (l ++ [t]) = insS (fins l) t := by simp [fins]
theorem insS_perm (l : List ByteArray) (s : ByteArray) : (insS l s).Perm (s :: l) := by
  unfold insS
  refine List.perm_middle.trans ?_
  rw [List.takeWhile_append_dropWhile]
theorem fins_perm (l : List ByteArray) : (fins l).Perm l := by
  have key : ∀ (l m : List ByteArray), (l.foldl insS m).Perm (m ++ l) := by
    intro l
    induction l with
    | nil => intro m; simp
    | cons a l ih =>
      intro m
      rw [List.foldl_cons]
      refine (ih _).trans ?_
      refine ((insS_perm m a).append_right l).trans ?_
      rw [List.cons_append]
      exact List.perm_middle.symm
  have := key l []
  rw [List.nil_append] at this
  exact this
theorem fins_len (l : List ByteArray) : (fins l).length = l.length := (fins_perm l).length_eq
theorem insS_len (l : List ByteArray) (s : ByteArray) : (insS l s).length = l.length + 1 := (insS_perm l s).length_eq

theorem ltB_eq (a b : ByteArray) : ltB a b = decide (lst a < lst b) := by
  unfold ltB lst
  rw [ByteArray.toList_eq, ByteArray.toList_eq]
  exact bytesLess_eq _ _
abbrev leB (a b : ByteArray) : Prop := lst a ≤ lst b
theorem leB_trans {a b c : ByteArray} (h : leB a b) (k : leB b c) : leB a c := List.le_trans h k
theorem leB_total (a b : ByteArray) : leB a b ∨ leB b a := List.le_total _ _
theorem leB_antisymm {a b : ByteArray} (h : leB a b) (k : leB b a) : a = b := by
  have := List.le_antisymm h k
  rw [← mkB_lst a, this, mkB_lst]
theorem takeWhile_all {α : Type} {p : α → Bool} : ∀ (l : List α), ∀ x ∈ l.takeWhile p, p x = true
  | [], x, h => by simp at h
  | a :: l, x, h => by
    rw [List.takeWhile_cons] at h
    split at h
    · rename_i ha
      simp at h
      rcases h with rfl | h
      · exact ha
      · exact takeWhile_all l x h
    · simp at h
theorem insS_sorted {l : List ByteArray} {s : ByteArray} (h : l.Pairwise leB) : (insS l s).Pairwise leB := by
  have hsplit : l = l.takeWhile (fun t => ltB t s) ++ l.dropWhile (fun t => ltB t s) := List.takeWhile_append_dropWhile.symm
  unfold insS
  generalize hT : l.takeWhile (fun t => ltB t s) = T at *
  generalize hD : l.dropWhile (fun t => ltB t s) = D at *
  have hTs : ∀ x ∈ T, lst x < lst s := by
    intro x hx
    rw [← hT] at hx
    have := takeWhile_all l x hx
    rw [ltB_eq] at this
    exact of_decide_eq_true this
  rw [hsplit] at h
  rw [List.pairwise_append] at h ⊢
  obtain ⟨h1, h2, h3⟩ := h
  have hDs : ∀ x ∈ D, leB s x := by
    cases hDc : D with
    | nil => simp
    | cons d D' =>
      have hd : ltB d s = false := by
        have := List.head?_dropWhile_not (fun t => ltB t s) l
        rw [hD, hDc] at this
        simpa using this
      rw [ltB_eq] at hd
      have hsd : leB s d := List.not_lt.1 (of_decide_eq_false hd)
      intro x hx
      rw [hDc] at h2
      rw [List.pairwise_cons] at h2
      rcases List.mem_cons.1 hx with rfl | hx
      · exact hsd
      · exact leB_trans hsd (h2.1 x hx)
  refine ⟨h1, List.pairwise_cons.2 ⟨hDs, h2⟩, fun a ha b hb => ?_⟩
  rcases List.mem_cons.1 hb with rfl | hb
  · exact List.le_of_lt (hTs a ha)
  · exact h3 a ha b hb
theorem fins_sorted (l : List ByteArray) : (fins l).Pairwise leB := by
  have key : ∀ (l m : List ByteArray), m.Pairwise leB → (l.foldl insS m).Pairwise leB := by
    intro l
    induction l with
    | nil => intro m h; exact h
    | cons a l ih => intro m h; exact ih _ (insS_sorted h)
  exact key l [] List.Pairwise.nil
theorem misS_perm (s : ByteArray) : (misS s).Perm (found s) := by
  unfold misS
  refine ((List.mergeSort_perm _ _).map mkB).trans ?_
  rw [List.map_map]
  have : (found s).map (mkB ∘ lst) = found s := by
    conv => rhs; rw [← List.map_id (found s)]
    exact List.map_congr_left fun t _ => mkB_lst t
  rw [this]
theorem misS_sorted (s : ByteArray) : (misS s).Pairwise leB := by
  unfold misS
  rw [List.pairwise_map]
  refine List.Pairwise.imp ?_ (List.pairwise_mergeSort (le := fun x y => decide (x ≤ y)) (fun a b c h k => by
    simp at h k ⊢; exact List.le_trans h k) (fun a b => by simp; exact List.le_total a b) _)
  intro a b h
  show lst (mkB a) ≤ lst (mkB b)
  rw [lst_mkB, lst_mkB]
  exact of_decide_eq_true h
theorem fins_found (s : ByteArray) : fins (found s) = misS s :=
  List.Perm.eq_of_pairwise (le := leB) (fun a b _ _ h k => leB_antisymm h k) (fins_sorted _) (misS_sorted s) ((fins_perm _).trans (misS_perm s).symm)
end Go.Proofs.YthldjchogdefjaaDoor
