/- Boxes in boxes: plain definitions, no program in sight. -/
import Derived.Test.YtegmhdabedgloaaOwn
namespace Go.Proofs.Ytegmhdabedgloaa
open Go.PF Go.RowKit

noncomputable def dec (p : Prop) : Bool := @decide p (Classical.propDecidable p)
theorem dec_iff {p : Prop} : dec p = true ↔ p := @decide_eq_true_iff p (Classical.propDecidable p)
theorem dec_pos {p : Prop} (h : p) : dec p = true := dec_iff.2 h
theorem dec_neg {p : Prop} (h : ¬ p) : dec p = false := by
  cases hd : dec p with
  | false => rfl
  | true => exact absurd (dec_iff.1 hd) h
theorem dec_congr {p q : Prop} (h : p ↔ q) : dec p = dec q := by rw [show p = q from propext h]
theorem dec_eq_decide {p : Prop} [Decidable p] : dec p = decide p := by
  by_cases h : p
  · rw [dec_pos h]; simp [h]
  · rw [dec_neg h]; simp [h]

structure Box where
  label : ByteArray
  kind : Int
  parent : Int
  place : Int
  closed : Bool

def boxCells (b : Box) : List Value := [.string b.label, .int .i64 b.kind, .int .i64 b.parent, .int .i64 b.place, .bool b.closed]

def boxT : Ty Box where
  n := 5
  rep := fun _ _ cs b => cs = boxCells b ∧ b.label.size ≤ 9223372036854775807 ∧ I64 b.kind ∧ I64 b.parent ∧ I64 b.place
  len := fun _ _ _ _ h => by rw [h.1]; rfl
  mono := fun _ _ _ _ _ _ h => h
  wider := fun _ _ _ _ _ _ h => h

/-- The cells of a box in a slice of boxes. -/
theorem box_at {F : Nat → Prop} {w : World} {A : Option Addr} {n cap : Nat} {l : List Box} (h : SL boxT F w (.slice A n cap) l) {i : Nat} {b : Box} (hb : l[i]? = some b) :
    ∃ ad, A = some ad ∧ F ad.block ∧ (∀ j v, (boxCells b)[j]? = some v → w.cell? ((ad.add (i * 5)).add j) = some v) ∧ b.label.size ≤ 9223372036854775807 ∧ I64 b.kind ∧ I64 b.parent ∧ I64 b.place := by
  obtain ⟨A', cap', hv, _, _, h3⟩ := h
  simp only [Value.slice.injEq] at hv
  obtain ⟨rfl, _, rfl⟩ := hv
  obtain ⟨ad, cs, ha, hF, hc, hr⟩ := h3 i b hb
  obtain ⟨rfl, h4⟩ := hr
  exact ⟨ad, ha, hF, hc, h4⟩

theorem box_cell {F : Nat → Prop} {w : World} {ad : Addr} {n cap : Nat} {l : List Box} (h : SL boxT F w (.slice (some ad) n cap) l) {i j : Nat} {b : Box} {v : Value} (hb : l[i]? = some b) (hj : (boxCells b)[j]? = some v) : w.cell? ((ad.add (i * 5)).add j) = some v := by
  obtain ⟨ad', ha, _, hc, _⟩ := box_at h hb
  simp only [Option.some.injEq] at ha
  subst ha
  exact hc j v hj

/-- What is asked of one box. -/
structure BoxOK (l : List Box) (b : Box) : Prop where
  l1 : 1 ≤ b.label.size
  l2 : b.label.size ≤ 20
  k1 : 0 ≤ b.kind
  k2 : b.kind ≤ 3
  p1 : 0 ≤ b.place
  p2 : b.place ≤ 11
  q1 : -1 ≤ b.parent
  q2 : b.parent < l.length
  cl : ¬ (b.closed = true ∧ b.kind = 0)
  up : 0 ≤ b.parent → ∃ q, l[b.parent.toNat]? = some q ∧ b.kind < q.kind ∧ q.place = b.place

structure Valid (l : List Box) : Prop where
  few : l.length ≤ 200
  each : ∀ (i : Nat) (b : Box), l[i]? = some b → BoxOK l b
  apart : ∀ (i j : Nat) (b c : Box), l[i]? = some b → l[j]? = some c → b.label.toList = c.label.toList → i = j

/-- The boxes from p on outwards, at most n. -/
def ups (l : List Box) : Nat → Int → List Nat
  | 0, _ => []
  | n + 1, p => if p < 0 then [] else match l[p.toNat]? with
    | none => []
    | some q => p.toNat :: ups l n q.parent

def outside (l : List Box) (i : Nat) : List Nat := match l[i]? with
  | none => []
  | some b => ups l 4 b.parent

def inside (l : List Box) (b : Nat) : List Nat := (List.range l.length).filter fun i => (outside l i).contains b

def locked (l : List Box) (i : Nat) : Bool := (outside l i).any fun p => match l[p]? with | some q => q.closed | none => false

def root (l : List Box) (i : Nat) : Nat := (outside l i).getLastD i


def BHas (l : List Box) (i : Int) : Prop := Valid l ∧ 0 ≤ i ∧ i < l.length

theorem eqV_box (b c : Box) : eqVs (boxCells b) (boxCells c) = dec (b.label.toList = c.label.toList ∧ b.kind = c.kind ∧ b.parent = c.parent ∧ b.place = c.place ∧ b.closed = c.closed) := by
  simp only [boxCells, eqVs, eqV]
  by_cases h : b.label.toList = c.label.toList ∧ b.kind = c.kind ∧ b.parent = c.parent ∧ b.place = c.place ∧ b.closed = c.closed
  · rw [dec_pos h]; simp [h]
  · rw [dec_neg h]
    rw [Bool.eq_false_iff]
    intro hh
    simp at hh
    exact h hh

theorem toList_inj {a b : ByteArray} (h : a.toList = b.toList) : a = b := by
  have : (a == b) = true := by rw [beq_toListBytes]; simpa using h
  rw [ByteArray.toList_eq, ByteArray.toList_eq] at h
  cases a with
  | mk x => cases b with
    | mk y => simp at h; rw [h]

theorem box_ext {b c : Box} (h : b.label.toList = c.label.toList ∧ b.kind = c.kind ∧ b.parent = c.parent ∧ b.place = c.place ∧ b.closed = c.closed) : b = c := by
  obtain ⟨h1, h2, h3, h4, h5⟩ := h
  have := toList_inj h1
  cases b; cases c; simp_all

/-- Of a valid list: the walk outwards. -/
theorem ups_kind {l : List Box} (hv : Valid l) : ∀ (n : Nat) (p : Int) (b : Box), (0 ≤ p → ∃ q, l[p.toNat]? = some q ∧ b.kind < q.kind) → b.kind + n ≥ 4 → -1 ≤ p → p < l.length → ∀ m, n ≤ m → ups l m p = ups l n p
  | 0, p, b, hq, hk, h1, h2, m, hm => by
    cases m with
    | zero => rfl
    | succ m =>
      by_cases hp : p < 0
      · simp [ups, hp]
      · obtain ⟨q, hq1, hq2⟩ := hq (by omega)
        have := (hv.each _ q hq1).k2
        omega
  | n + 1, p, b, hq, hk, h1, h2, 0, hm => by omega
  | n + 1, p, b, hq, hk, h1, h2, m + 1, hm => by
    by_cases hp : p < 0
    · simp [ups, hp]
    · obtain ⟨q, hq1, hq2⟩ := hq (by omega)
      have hok := hv.each _ q hq1
      simp only [ups, hp, if_false, hq1]
      rw [ups_kind hv n q.parent q (fun h => by obtain ⟨q', a, b, _⟩ := hok.up h; exact ⟨q', a, b⟩) (by omega) hok.q1 hok.q2 m (by omega)]

theorem ups_step {l : List Box} (hv : Valid l) {i : Nat} {b : Box} (hb : l[i]? = some b) (m : Nat) (hm : 4 ≤ m) : ups l m b.parent = ups l 4 b.parent := by
  have hok := hv.each i b hb
  exact ups_kind hv 4 b.parent b (fun h => by obtain ⟨q', a, c, _⟩ := hok.up h; exact ⟨q', a, c⟩) (by have := hok.k1; omega) hok.q1 hok.q2 m hm

theorem ups_len (l : List Box) : ∀ (n : Nat) (p : Int), (ups l n p).length ≤ n
  | 0, p => by simp [ups]
  | n + 1, p => by
    simp only [ups]
    split
    · simp
    · split
      · simp
      · simp; exact ups_len l n _

theorem ups_mem (l : List Box) : ∀ (n : Nat) (p : Int) (k : Nat), k ∈ ups l n p → k < l.length
  | 0, p, k, h => by simp [ups] at h
  | n + 1, p, k, h => by
    simp only [ups] at h
    split at h
    · simp at h
    · split at h
      · simp at h
      · rename_i q hq
        simp at h
        rcases h with h | h
        · rw [h]; exact (List.getElem?_eq_some_iff.1 hq).1
        · exact ups_mem l n _ k h

/-- What is outside of a box: its parent, then what is outside of that. -/
theorem outside_eq {l : List Box} (hv : Valid l) {i : Nat} {b : Box} (hb : l[i]? = some b) : outside l i = if b.parent < 0 then [] else b.parent.toNat :: outside l b.parent.toNat := by
  unfold outside
  rw [hb]
  simp only
  by_cases hp : b.parent < 0
  · simp [ups, hp]
  · have hok := hv.each i b hb
    obtain ⟨q, hq, _⟩ := hok.up (by omega)
    rw [← ups_step hv hb 5 (by omega)]
    simp only [ups, hp, if_false, hq]

open Classical in
noncomputable def rootI (l : List Box) (i : Int) : Int := if BHas l i then (root l i.toNat : Int) else -1
open Classical in
noncomputable def insideI (l : List Box) (i : Int) : List Nat := if BHas l i then inside l i.toNat else []


def BoxR (b : Box) : Prop := b.label.size ≤ 9223372036854775807 ∧ I64 b.kind ∧ I64 b.parent ∧ I64 b.place

theorem sl_boxR {F : Nat → Prop} {w : World} {v : Value} {l : List Box} (h : SL boxT F w v l) : ∀ b ∈ l, BoxR b := by
  intro b hb
  obtain ⟨i, hi, he⟩ := List.getElem_of_mem hb
  obtain ⟨A, cap, rfl, _⟩ := id h
  obtain ⟨_, _, _, _, h1, h2, h3, h4⟩ := box_at h (i := i) (b := b) (by rw [List.getElem?_eq_getElem hi, he])
  exact ⟨h1, h2, h3, h4⟩

theorem own_boxes {F : Nat → Prop} {w : World} {e : TypeId} {v : Value} {l : List Box} (h : OwnS w e 5 v l.length (l.flatMap boxCells)) (hr : ∀ b ∈ l, BoxR b) (hF : ∀ g, v.ownBlock = some g → F g) (hn : l.length ≤ 9223372036854775807) : SL boxT F w v l :=
  OwnS.toSL (T := boxT) boxCells (fun x hx => ⟨rfl, hr x hx⟩) h hF hn

theorem boxes_len (l : List Box) : ∀ x ∈ l, (boxCells x).length = 5 := fun _ _ => rfl

theorem boxes_one (l : List Box) : ∀ u ∈ l.flatMap boxCells, u.oneCell' = true := by
  intro u hu
  rw [List.mem_flatMap] at hu
  obtain ⟨b, _, hb⟩ := hu
  simp [boxCells] at hb
  rcases hb with rfl | rfl | rfl | rfl | rfl <;> rfl

open Classical in
noncomputable def putS (l : List Box) (box into : Int) : List Box × Int :=
  if ¬ (BHas l box ∧ BHas l into) then ([], 1) else
  match l[box.toNat]?, l[into.toNat]? with
  | some b, some c => if 0 ≤ b.parent then ([], 4) else if c.kind ≤ b.kind ∨ c.place ≠ b.place ∨ c.closed = true ∨ locked l into.toNat = true then ([], 150) else (l.set box.toNat { b with parent := into }, 0)
  | _, _ => ([], 1)
open Classical in
noncomputable def takeS (l : List Box) (box : Int) : List Box × Int :=
  if ¬ BHas l box then ([], 1) else
  match l[box.toNat]? with
  | some b => if b.parent < 0 then ([], 3) else if locked l box.toNat = true then ([], 150) else (l.set box.toNat { b with parent := -1 }, 0)
  | none => ([], 1)
open Classical in
noncomputable def closeS (l : List Box) (box : Int) : List Box × Int :=
  if ¬ BHas l box then ([], 1) else
  match l[box.toNat]? with
  | some b => if b.kind = 0 ∨ locked l box.toNat = true then ([], 150) else if b.closed = true then ([], 4) else (l.set box.toNat { b with closed := true }, 0)
  | none => ([], 1)
open Classical in
noncomputable def reopenS (l : List Box) (box : Int) : List Box × Int :=
  if ¬ BHas l box then ([], 1) else
  match l[box.toNat]? with
  | some b => if b.kind = 0 ∨ locked l box.toNat = true then ([], 150) else if b.closed = false then ([], 3) else (l.set box.toNat { b with closed := false }, 0)
  | none => ([], 1)

/-- the first k boxes that are in box, or are it, at the place -/
def moved (l : List Box) (box : Nat) (place : Int) (k : Nat) : List Box := l.mapIdx fun i b => if i < k ∧ root l i = box then { b with place := place } else b
open Classical in
noncomputable def moveS (l : List Box) (box place : Int) : List Box × Int :=
  if ¬ (BHas l box ∧ 0 ≤ place ∧ place ≤ 11) then ([], 1) else
  match l[box.toNat]? with
  | some b => if 0 ≤ b.parent then ([], 150) else (moved l box.toNat place l.length, 0)
  | none => ([], 1)

/-- What a change returns. -/
def ResB (w : World) (r : List Box × Int) (u : Value) (w' : World) : Prop := ∃ v, u = .tuple #[v, .int .i64 r.2] ∧ SL boxT (fun k => w.heap.size ≤ k) w' v r.1 ∧ Below w.heap.size w w'

theorem ResB.err {w w' : World} {r : List Box × Int} {e : Int} (hr : r = ([], e)) (hb : Below w.heap.size w w') : ResB w r (.tuple #[.slice none 0 0, .int .i64 e]) w' := by
  subst hr
  exact ⟨_, rfl, SL.nil _ _ _, hb⟩

def Few (l : List Box) : Prop := l.length ≤ 30 ∧ ∀ (i : Nat) (b : Box), l[i]? = some b → b.label.size ≤ 40

theorem moved_len (l : List Box) (box : Nat) (place : Int) (k : Nat) : (moved l box place k).length = l.length := by simp [moved]
theorem moved_get (l : List Box) (box : Nat) (place : Int) (k i : Nat) (b : Box) (hb : l[i]? = some b) : (moved l box place k)[i]? = some (if i < k ∧ root l i = box then { b with place := place } else b) := by
  simp [moved, hb]
theorem moved_zero (l : List Box) (box : Nat) (place : Int) : moved l box place 0 = l := by
  apply List.ext_getElem?
  intro i
  cases h : l[i]? with
  | none => simp [moved, h]
  | some b => rw [moved_get l box place 0 i b h]; simp
theorem moved_yes (l : List Box) (box : Nat) (place : Int) (k : Nat) (b : Box) (hb : l[k]? = some b) (hr : root l k = box) : moved l box place (k + 1) = (moved l box place k).set k { b with place := place } := by
  apply List.ext_getElem?
  intro i
  have hk : k < l.length := (List.getElem?_eq_some_iff.1 hb).1
  rw [List.getElem?_set]
  by_cases hik : k = i
  · subst hik
    rw [moved_get l box place (k + 1) k b hb]
    simp [hr, moved_len, hk]
  · rw [if_neg hik]
    cases h : l[i]? with
    | none => simp [moved, h]
    | some c =>
      rw [moved_get l box place _ i c h, moved_get l box place _ i c h]
      by_cases h1 : i < k
      · simp [h1, show i < k + 1 by omega]
      · simp [h1, show ¬ i < k + 1 by omega]
theorem moved_no (l : List Box) (box : Nat) (place : Int) (k : Nat) (hr : root l k ≠ box) : moved l box place (k + 1) = moved l box place k := by
  apply List.ext_getElem?
  intro i
  cases h : l[i]? with
  | none => simp [moved, h]
  | some c =>
    rw [moved_get l box place _ i c h, moved_get l box place _ i c h]
    by_cases hik : i = k
    · subst hik; simp [hr]
    · by_cases h1 : i < k
      · simp [h1, show i < k + 1 by omega]
      · simp [h1, show ¬ i < k + 1 by omega]
theorem moved_R (l : List Box) (box : Nat) (place : Int) (k : Nat) (hp : 0 ≤ place ∧ place ≤ 11) (h : ∀ b ∈ l, BoxR b) : ∀ b ∈ moved l box place k, BoxR b := by
  intro b hb
  obtain ⟨i, hi, he⟩ := List.getElem_of_mem hb
  have hil : i < l.length := by rw [moved_len] at hi; exact hi
  have hg := moved_get l box place k i l[i] (List.getElem?_eq_getElem hil)
  rw [List.getElem?_eq_getElem hi, he] at hg
  simp only [Option.some.injEq] at hg
  have hR := h l[i] (List.getElem_mem hil)
  rw [hg]
  split
  · exact ⟨hR.1, hR.2.1, hR.2.2.1, ⟨by show (-9223372036854775808 : Int) ≤ place; omega, by show place ≤ 9223372036854775807; omega⟩⟩
  · exact hR

end Go.Proofs.Ytegmhdabedgloaa
