/- Data in memory: which cells stand for which Lean value. -/
import Derived.Test.YthldjchogdefjaaDoorOps
namespace Go.PF
open Go.RowKit

/-- Cells of F's blocks have not turned from w to w'. -/
def Kept (F : Nat → Prop) (w w' : World) : Prop := ∀ (p : Addr) (v : Value), F p.block → w.cell? p = some v → w'.cell? p = some v

theorem Kept.of_below {F : Nat → Prop} {w w' : World} (h : Below w.heap.size w w') : Kept F w w' := fun p _ _ hc => (h.cell (block_lt_of_cell hc)).trans hc
theorem Kept.of_blocks {F : Nat → Prop} {w w' : World} (h : ∀ b, F b → b < w.heap.size → w'.heap[b]? = w.heap[b]?) : Kept F w w' := fun p _ hp hc => (World.cell?_of_block (w := w) (h p.block hp (block_lt_of_cell hc))).trans hc
theorem Kept.cell {F : Nat → Prop} {w w' : World} (h : Kept F w w') {p : Addr} {v : Value} (hp : F p.block) (hc : w.cell? p = some v) : w'.cell? p = some v := h p v hp hc

theorem add_block (a : Addr) (n : Nat) : (a.add n).block = a.block := by unfold Addr.add; split <;> rfl

/-- A Go type whose values are read as Lean's α: how many cells, and which cells stand for which value (F: the blocks that it may name). -/
structure Ty (α : Type) where
  n : Nat
  rep : (Nat → Prop) → World → List Value → α → Prop
  len : ∀ F w cs x, rep F w cs x → cs.length = n
  mono : ∀ F w w' cs x, Kept F w w' → rep F w cs x → rep F w' cs x
  wider : ∀ (F F' : Nat → Prop) w cs x, (∀ b, F b → F' b) → rep F w cs x → rep F' w cs x

def I64 (x : Int) : Prop := -9223372036854775808 ≤ x ∧ x ≤ 9223372036854775807

def intT : Ty Int where
  n := 1
  rep := fun _ _ cs x => cs = [.int .i64 x] ∧ I64 x
  len := fun _ _ _ _ h => by rw [h.1]; rfl
  mono := fun _ _ _ _ _ _ h => h
  wider := fun _ _ _ _ _ _ h => h

def boolT : Ty Bool where
  n := 1
  rep := fun _ _ cs x => cs = [.bool x]
  len := fun _ _ _ _ h => by rw [h]; rfl
  mono := fun _ _ _ _ _ _ h => h
  wider := fun _ _ _ _ _ _ h => h

def strT : Ty ByteArray where
  n := 1
  rep := fun _ _ cs x => cs = [.string x] ∧ x.size ≤ 9223372036854775807
  len := fun _ _ _ _ h => by rw [h.1]; rfl
  mono := fun _ _ _ _ _ _ h => h
  wider := fun _ _ _ _ _ _ h => h

variable {α : Type}

/-- A slice value that reads as the list l. -/
def SL (T : Ty α) (F : Nat → Prop) (w : World) (v : Value) (l : List α) : Prop :=
  ∃ A cap, v = .slice A l.length cap ∧ l.length ≤ cap ∧ l.length ≤ 9223372036854775807 ∧
    ∀ i x, l[i]? = some x → ∃ ad cs, A = some ad ∧ F ad.block ∧ (∀ j u, cs[j]? = some u → w.cell? ((ad.add (i * T.n)).add j) = some u) ∧ T.rep F w cs x

theorem SL.mono {T : Ty α} {F : Nat → Prop} {w w' : World} {v : Value} {l : List α} (h : SL T F w v l) (hk : Kept F w w') : SL T F w' v l := by
  obtain ⟨A, cap, hv, h1, h2, h3⟩ := h
  refine ⟨A, cap, hv, h1, h2, fun i x hx => ?_⟩
  obtain ⟨ad, cs, ha, hF, hc, hr⟩ := h3 i x hx
  exact ⟨ad, cs, ha, hF, fun j u hu => hk.cell (by rw [add_block, add_block]; exact hF) (hc j u hu), T.mono _ _ _ _ _ hk hr⟩

theorem SL.below {T : Ty α} {F : Nat → Prop} {w w' : World} {v : Value} {l : List α} (h : SL T F w v l) (hb : Below w.heap.size w w') : SL T F w' v l := h.mono (.of_below hb)

theorem SL.wider {T : Ty α} {F F' : Nat → Prop} {w : World} {v : Value} {l : List α} (h : SL T F w v l) (hF : ∀ b, F b → F' b) : SL T F' w v l := by
  obtain ⟨A, cap, hv, h1, h2, h3⟩ := h
  refine ⟨A, cap, hv, h1, h2, fun i x hx => ?_⟩
  obtain ⟨ad, cs, ha, hb, hc, hr⟩ := h3 i x hx
  exact ⟨ad, cs, ha, hF _ hb, hc, T.wider _ _ _ _ _ hF hr⟩

theorem SL.nil (T : Ty α) (F : Nat → Prop) (w : World) : SL T F w (.slice none 0 0) [] := ⟨none, 0, rfl, Nat.le_refl _, by simp, fun i x h => by simp at h⟩

def sliceT (T : Ty α) : Ty (List α) where
  n := 1
  rep := fun F w cs l => ∃ v, cs = [v] ∧ SL T F w v l
  len := fun _ _ _ _ h => by obtain ⟨v, h, _⟩ := h; rw [h]; rfl
  mono := fun _ _ _ _ _ hk h => by obtain ⟨v, h, hs⟩ := h; exact ⟨v, h, hs.mono hk⟩
  wider := fun _ _ _ _ _ hF h => by obtain ⟨v, h, hs⟩ := h; exact ⟨v, h, hs.wider hF⟩

/-- An int of a slice of ints. -/
theorem SL.int {F : Nat → Prop} {w : World} {A : Option Addr} {n cap : Nat} {l : List Int} (h : SL intT F w (.slice A n cap) l) {i : Nat} {x : Int} (hx : l[i]? = some x) :
    ∃ ad, A = some ad ∧ w.cell? (ad.add (i * 1)) = some (.int .i64 x) ∧ I64 x := by
  obtain ⟨A', cap', hv, _, _, h3⟩ := h
  simp only [Value.slice.injEq] at hv
  obtain ⟨rfl, _, rfl⟩ := hv
  obtain ⟨ad, cs, ha, _, hc, hr, hi⟩ := h3 i x hx
  exact ⟨ad, ha, by have := hc 0 (.int .i64 x) (by rw [hr]; rfl); simpa [intT, Addr.add] using this, hi⟩

theorem SL.len {T : Ty α} {F : Nat → Prop} {w : World} {A : Option Addr} {n cap : Nat} {l : List α} (h : SL T F w (.slice A n cap) l) : n = l.length ∧ l.length ≤ cap ∧ l.length ≤ 9223372036854775807 := by
  obtain ⟨A', cap', hv, h1, h2, _⟩ := h
  simp only [Value.slice.injEq] at hv
  obtain ⟨rfl, rfl, rfl⟩ := hv
  exact ⟨rfl, h1, h2⟩

end Go.PF
