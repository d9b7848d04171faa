/- The example of the laws' head: plain. -/
import Derived.Test.YtegmhdabedgloaaPlc
namespace Go.Proofs.Ytegmhdabedgloaa
open Go.PF Go.RowKit

def okB (l : List Box) (b : Box) : Bool :=
  decide (1 ≤ b.label.data.size) && decide (b.label.data.size ≤ 20) && decide (0 ≤ b.kind) && decide (b.kind ≤ 3) && decide (0 ≤ b.place) && decide (b.place ≤ 11) && decide (-1 ≤ b.parent) && decide (b.parent < l.length) &&
  !(b.closed && decide (b.kind = 0)) && (decide (b.parent < 0) || match l[b.parent.toNat]? with | some q => decide (b.kind < q.kind) && decide (q.place = b.place) | none => false)
def validB (l : List Box) : Bool := decide (l.length ≤ 200) && l.all (okB l) && (List.range l.length).all fun i => (List.range l.length).all fun j => match l[i]?, l[j]? with
  | some b, some c => !decide (b.label.data.toList = c.label.data.toList) || decide (i = j)
  | _, _ => true
theorem okB_ok {l : List Box} {b : Box} (h : okB l b = true) : BoxOK l b := by
  unfold okB at h
  simp only [Bool.and_eq_true, decide_eq_true_eq] at h
  obtain ⟨⟨⟨⟨⟨⟨⟨⟨⟨h1, h2⟩, h3⟩, h4⟩, h5⟩, h6⟩, h7⟩, h8⟩, h9⟩, h10⟩ := h
  refine ⟨h1, h2, h3, h4, h5, h6, h7, h8, fun h => ?_, fun h => ?_⟩
  · simp [h.1, h.2] at h9
  · rw [Bool.or_eq_true] at h10
    rcases h10 with h10 | h10
    · simp at h10; omega
    · split at h10
      · rename_i q hq
        simp at h10
        exact ⟨q, hq, h10⟩
      · cases h10
theorem validB_ok {l : List Box} (h : validB l = true) : Valid l := by
  unfold validB at h
  simp only [Bool.and_eq_true, decide_eq_true_eq, List.all_eq_true, List.mem_range] at h
  obtain ⟨⟨h1, h2⟩, h3⟩ := h
  refine ⟨h1, fun i b hb => okB_ok (h2 b (List.mem_of_getElem? hb)), fun i j b c hb hc he => ?_⟩
  have := h3 i (List.getElem?_eq_some_iff.1 hb).1 j (List.getElem?_eq_some_iff.1 hc).1
  rw [hb, hc] at this
  rw [ByteArray.toList_eq, ByteArray.toList_eq] at he
  simp [he] at this
  exact this

def exBox (c : UInt8) (kind parent place : Int) (closed : Bool) : Box := ⟨⟨#[c]⟩, kind, parent, place, closed⟩
def ex0 : List Box := [exBox 105 0 (-1) 0 false, exBox 98 1 (-1) 0 false, exBox 118 3 (-1) 0 false]
def exA : List Box := [exBox 105 0 1 0 false, exBox 98 1 (-1) 0 false, exBox 118 3 (-1) 0 false]
def exB : List Box := [exBox 105 0 1 0 false, exBox 98 1 2 0 false, exBox 118 3 (-1) 0 false]
def exC : List Box := [exBox 105 0 1 0 false, exBox 98 1 2 0 false, exBox 118 3 (-1) 0 true]
def exD : List Box := [exBox 105 0 1 5 false, exBox 98 1 2 5 false, exBox 118 3 (-1) 5 true]
def exX : List Box := [exBox 120 0 0 0 false]

theorem v0 : Valid ex0 := validB_ok (by decide)
theorem vA : Valid exA := validB_ok (by decide)
theorem vB : Valid exB := validB_ok (by decide)
theorem vC : Valid exC := validB_ok (by decide)
theorem vD : Valid exD := validB_ok (by decide)
theorem vX : ¬ Valid exX := fun h => by
  obtain ⟨q, hq, hlt, _⟩ := (h.each 0 (exBox 120 0 0 0 false) rfl).up (by decide)
  have : q = exBox 120 0 0 0 false := (Option.some.inj hq).symm
  subst this
  exact absurd hlt (by decide)

theorem has_of {l : List Box} (hv : Valid l) {i : Int} (h0 : 0 ≤ i) (h1 : i < l.length) : BHas l i := ⟨hv, h0, h1⟩

theorem p1 : putS ex0 0 1 = (exA, 0) := by
  unfold putS
  rw [if_neg (by simp only [Classical.not_not]; exact ⟨has_of v0 (by decide) (by decide), has_of v0 (by decide) (by decide)⟩)]
  rfl
theorem p2 : putS exA 1 2 = (exB, 0) := by
  unfold putS
  rw [if_neg (by simp only [Classical.not_not]; exact ⟨has_of vA (by decide) (by decide), has_of vA (by decide) (by decide)⟩)]
  rfl
theorem p3 : closeS exB 2 = (exC, 0) := by
  unfold closeS
  rw [if_neg (by simp only [Classical.not_not]; exact has_of vB (by decide) (by decide))]
  rfl
theorem p4 : takeS exC 0 = ([], 150) := by
  unfold takeS
  rw [if_neg (by simp only [Classical.not_not]; exact has_of vC (by decide) (by decide))]
  rfl
theorem p5 : putS ex0 2 1 = ([], 150) := by
  unfold putS
  rw [if_neg (by simp only [Classical.not_not]; exact ⟨has_of v0 (by decide) (by decide), has_of v0 (by decide) (by decide)⟩)]
  rfl
theorem p6 : moveS exA 0 1 = ([], 150) := by
  unfold moveS
  rw [if_neg (by simp only [Classical.not_not]; exact ⟨has_of vA (by decide) (by decide), by decide, by decide⟩)]
  rfl
theorem p7 : moveS exC 2 5 = (exD, 0) := by
  unfold moveS
  rw [if_neg (by simp only [Classical.not_not]; exact ⟨has_of vC (by decide) (by decide), by decide, by decide⟩)]
  rfl
theorem p8 : putS ex0 0 3 = ([], 1) := by
  unfold putS
  rw [if_pos (fun h => absurd h.2.2.2 (by decide))]
theorem p9 : putS exB 0 2 = ([], 4) := by
  unfold putS
  rw [if_neg (by simp only [Classical.not_not]; exact ⟨has_of vB (by decide) (by decide), has_of vB (by decide) (by decide)⟩)]
  rfl
theorem p10 : rootI exB 0 = 2 := by
  unfold rootI
  rw [if_pos (has_of vB (by decide) (by decide))]
  rfl
theorem p11 : insideI exB 2 = [0, 1] := by
  unfold insideI
  rw [if_pos (has_of vB (by decide) (by decide))]
  decide
theorem p12 : rootI ex0 3 = -1 := by
  unfold rootI
  rw [if_neg (fun h => absurd h.2.2 (by decide))]
end Go.Proofs.Ytegmhdabedgloaa
