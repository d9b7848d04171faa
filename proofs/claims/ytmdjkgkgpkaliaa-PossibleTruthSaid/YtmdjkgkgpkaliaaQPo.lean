/- Plain laws of the worlds: the order of the events, fewer distances. -/
import Derived.Test.YtmdjkgkgpkaliaaQOe
set_option linter.unusedSimpArgs false
set_option linter.unusedVariables false
namespace Go.Proofs.Ytmdjkgkgpkaliaa
open Go.PF Go.RowKit Go.Ord

def revE (e : Ev) : Ev := { e with needs := e.needs.reverse }
def backS (l : List Ev) : List Ev := (l.map revE).reverse
theorem poss_same {d : Dist} {f : Ev → Ev} (hf : ∀ e, (f e).office = e.office ∧ (f e).low = e.low ∧ (f e).high = e.high) {evs : List Ev} (h : Poss d evs) : Poss d (evs.map f) := by
  obtain ⟨l, rfl, h1⟩ := h
  refine ⟨l.map fun x => (f x.1, x.2), by simp, ⟨fun x hx => ?_, ?_⟩⟩
  · obtain ⟨y, hy, rfl⟩ := List.mem_map.1 hx
    have := h1.each y hy
    obtain ⟨_, h3, h4⟩ := hf y.1
    simp only [h3, h4]
    exact this
  · rw [List.pairwise_map]
    refine h1.two.imp fun {a b} hab => ?_
    unfold Aft at *
    dsimp only
    rw [(hf a.1).1, (hf b.1).1]
    exact hab
theorem gone_rev (S : List Int) (e : Ev) : gone S (revE e) = gone S e := by simp [gone, revE]
theorem rev_rev (e : Ev) : revE (revE e) = e := by simp [revE]
theorem rest_back (l : List Ev) (S : List Int) : restS (backS l) S = backS (restS l S) := by
  unfold restS backS
  rw [List.filter_reverse, List.filter_map]
  congr 2
  exact List.filter_congr fun e _ => by simp [gone_rev]
theorem poss_back {d : Dist} {l : List Ev} : Poss d (backS l) ↔ Poss d l := by
  constructor
  · intro h
    have h1 : Poss d (l.map revE) := h.perm (List.reverse_perm _)
    have h2 := poss_same (f := revE) (fun e => ⟨rfl, rfl, rfl⟩) h1
    simpa [Function.comp_def, rev_rev] using h2
  · intro h
    exact (poss_same (f := revE) (fun e => ⟨rfl, rfl, rfl⟩) h).perm (List.reverse_perm _).symm
theorem mem_back {l : List Ev} {e : Ev} : e ∈ backS l ↔ ∃ x ∈ l, revE x = e := by simp [backS]
theorem recs_back (l : List Ev) : recsS (backS l) = recsS l := by
  refine inc_ext (recsS_inc _) (recsS_inc _) fun x => ?_
  rw [mem_recsS, mem_recsS]
  constructor
  · rintro ⟨e, he, hx⟩
    obtain ⟨y, hy, rfl⟩ := mem_back.1 he
    exact ⟨y, hy, by simpa [revE] using hx⟩
  · rintro ⟨e, he, hx⟩
    exact ⟨revE e, mem_back.2 ⟨e, he, rfl⟩, by simpa [revE] using hx⟩
theorem WfP.back {d : Dist} {l : List Ev} (h : WfP d l) : WfP d (backS l) := by
  refine ⟨h.wd, by simpa [backS] using h.few, fun e he => ?_, fun e he r hr => ?_⟩
  · obtain ⟨y, hy, rfl⟩ := mem_back.1 he
    exact ⟨(h.each y hy).o1, (h.each y hy).o2⟩
  · obtain ⟨y, hy, rfl⟩ := mem_back.1 he
    exact h.pos y hy r (by simpa [revE] using hr)
theorem WOK.back {d : Dist} {l : List Ev} {most : Int} (h : WOK d l most) : WOK d (backS l) most := ⟨h.wf.back, h.m0, h.m3, by rw [recs_back]; exact h.rl⟩
theorem WOK.back_eq {d : Dist} {l : List Ev} {most : Int} (h : WOK d l most) : worldsS d (backS l) most = worldsS d l most := by
  rw [h.eq, h.back.eq, recs_back]
  exact List.filter_congr fun S _ => by rw [rest_back, dec_congr poss_back]
theorem WOK.back_err {d : Dist} {l : List Ev} {most : Int} (h : WOK d l most) : worldsE d (backS l) most = worldsE d l most := by
  rw [h.err, h.back.err, h.back_eq]

/-- a distance fewer -/
def cutD (d : Dist) (i k : Nat) : Dist := if i = k then d else d.set i ((d.getD i []).set k (-1))
theorem at2_cut {d : Dist} {i k a b : Nat} (h : at2 (cutD d i k) a b ≠ -1) : at2 (cutD d i k) a b = at2 d a b := by
  unfold cutD at *
  split
  · rfl
  · rename_i hik
    rw [if_neg hik] at h
    unfold at2 at *
    by_cases hia : i = a
    · subst hia
      by_cases hil : i < d.length
      · have e : (d.set i ((d.getD i []).set k (-1))).getD i [] = (d.getD i []).set k (-1) := by simp [List.getD_eq_getElem?_getD, hil]
        rw [e] at h ⊢
        by_cases hkb : k = b
        · subst hkb
          exfalso
          apply h
          by_cases hkl : k < (d.getD i []).length
          · simp [List.getD_eq_getElem?_getD] at hkl ⊢
            simp [hkl]
          · rw [List.getD_eq_getElem?_getD, List.getElem?_eq_none (by simp at hkl ⊢; omega)]
            rfl
        · simp [List.getD_eq_getElem?_getD, List.getElem?_set_ne hkb]
      · rw [List.set_eq_of_length_le (by omega)]
    · simp [List.getD_eq_getElem?_getD, List.getElem?_set_ne hia]
theorem poss_cut {d : Dist} {i k : Nat} {l : List Ev} (h : Poss (cutD d i k) l) : Poss d l := by
  obtain ⟨x, hx, h1, h2⟩ := h
  have aft : ∀ a b, Aft (cutD d i k) a b → Aft d a b := fun a b hab => by
    unfold Aft at *
    rw [at2_cut hab.1] at hab
    exact hab
  exact ⟨x, hx, h1, h2.imp fun hab => hab.imp (aft _ _) (aft _ _)⟩
theorem WOK.cut {d : Dist} {i k : Nat} {l : List Ev} {most : Int} (h : WOK d l most) (hw : WfP (cutD d i k) l) : WOK (cutD d i k) l most := ⟨hw, h.m0, h.m3, h.rl⟩
theorem WOK.cut_mem {d : Dist} {i k : Nat} {l : List Ev} {most : Int} (h : WOK d l most) (hw : WfP (cutD d i k) l) {b : List Int} (hb : b ∈ worldsS (cutD d i k) l most) : b ∈ worldsS d l most := by
  obtain ⟨q1, q2, q3⟩ := (h.cut hw).mem.1 hb
  exact h.mem.2 ⟨q1, q2, poss_cut q3⟩
end Go.Proofs.Ytmdjkgkgpkaliaa
