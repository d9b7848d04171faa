/- Texts joined: Xe Lb MapG Plus PrL Spr Drn Dsure MapR Ints. -/
import Derived.Test.YthjcgmjcpmodlaaDoorQC
import Derived.Test.YthjcgmjcpmodlaaDoorQFacts
import Derived.Shelf.Strings.FuncGrows
import Derived.Maps.RangeRun
set_option linter.unusedSimpArgs false
set_option linter.unusedVariables false

/- Plain: the events that follow, as a list that can be computed. -/
namespace Go.Ord
open Go.PF Go.RowKit
def inB (a : ByteArray) (l : List ByteArray) : Bool := l.any fun b => decide (b = a)
theorem inB_iff {a : ByteArray} {l : List ByteArray} : inB a l = true ↔ a ∈ l := by
  unfold inB
  rw [List.any_eq_true]
  constructor
  · rintro ⟨b, h1, h2⟩
    have := of_decide_eq_true h2
    subst this
    exact h1
  · exact fun h => ⟨a, h, decide_eq_true rfl⟩
def extL (vb : Rc → Bool) (l : List Sc) (r : List Rc) : Nat → List Nat → ByteArray → List Ev
  | 0, c, a => (List.range r.length).flatMap fun i => match (r[i]? : Option Rc) with
    | none => []
    | some x => if vb x = true ∧ x.label = a then [evOf l x (recI (c ++ [i]))] else []
  | d + 1, c, a => (List.range r.length).flatMap fun i => match (r[i]? : Option Rc) with
    | none => []
    | some x => (if vb x = true ∧ x.label = a then [evOf l x (recI (c ++ [i]))] else []) ++ (if vb x = true ∧ inB a x.cont = true ∧ i ∉ c then extL vb l r d (c ++ [i]) x.label else [])
theorem mem_extL {vb : Rc → Bool} {l : List Sc} {r : List Rc} {lab : ByteArray} (hvb : ∀ (i : Nat) (x : Rc), r[i]? = some x → (vb x = true ↔ Val l x)) : ∀ (d : Nat) (c : List Nat) (a : ByteArray), Chn l r lab c a → 3 - c.length = d → ∀ e, e ∈ extL vb l r d c a ↔ Ext l r lab c e
  | 0, c, a, h, hd, e => by
    unfold extL
    rw [ext_step h, List.mem_flatMap]
    constructor
    · rintro ⟨i, hi, he⟩
      have hi' := List.mem_range.1 hi
      rw [List.getElem?_eq_getElem hi'] at he
      dsimp only at he
      split at he
      · rename_i hc
        rw [List.mem_singleton] at he
        have hx := List.getElem?_eq_getElem hi'
        exact .inl ⟨i, _, hx, (hvb i _ hx).1 hc.1, hc.2, he⟩
      · cases he
    · rintro (⟨i, x, h2, h3, h4, h5⟩ | ⟨m, x, h2, h3, h4, h5, h6, _⟩)
      · have hi' := (List.getElem?_eq_some_iff.1 h2).1
        refine ⟨i, List.mem_range.2 hi', ?_⟩
        rw [h2]
        dsimp only
        rw [if_pos ⟨(hvb i x h2).2 h3, h4⟩, h5]
        exact List.mem_singleton.2 rfl
      · omega
  | d + 1, c, a, h, hd, e => by
    unfold extL
    rw [ext_step h, List.mem_flatMap]
    constructor
    · rintro ⟨i, hi, he⟩
      have hi' := List.mem_range.1 hi
      have hx := List.getElem?_eq_getElem hi'
      rw [hx] at he
      dsimp only at he
      rcases List.mem_append.1 he with he | he
      · split at he
        · rename_i hc
          rw [List.mem_singleton] at he
          exact .inl ⟨i, _, hx, (hvb i _ hx).1 hc.1, hc.2, he⟩
        · cases he
      · split at he
        · rename_i hc
          have hv := (hvb i _ hx).1 hc.1
          have hc3 : c.length < 3 := by omega
          have hch := h.snoc hx hv (inB_iff.1 hc.2.1) hc.2.2 hc3
          exact .inr ⟨i, _, hx, hv, inB_iff.1 hc.2.1, hc.2.2, hc3, (mem_extL hvb d _ _ hch (by simp; omega) e).1 he⟩
        · cases he
    · rintro (⟨i, x, h2, h3, h4, h5⟩ | ⟨m, x, h2, h3, h4, h5, h6, h7⟩)
      · have hi' := (List.getElem?_eq_some_iff.1 h2).1
        refine ⟨i, List.mem_range.2 hi', ?_⟩
        rw [h2]
        dsimp only
        rw [if_pos ⟨(hvb i x h2).2 h3, h4⟩, h5]
        simp
      · have hi' := (List.getElem?_eq_some_iff.1 h2).1
        refine ⟨m, List.mem_range.2 hi', ?_⟩
        rw [h2]
        dsimp only
        refine List.mem_append.2 (.inr ?_)
        rw [if_pos ⟨(hvb m x h2).2 h3, inB_iff.2 h4, h5⟩]
        exact (mem_extL hvb d _ _ (h.snoc h2 h3 h4 h5 h6) (by simp; omega) e).2 h7
theorem mem_ext0 {vb : Rc → Bool} {l : List Sc} {r : List Rc} {lab : ByteArray} (hvb : ∀ (i : Nat) (x : Rc), r[i]? = some x → (vb x = true ↔ Val l x)) (e : Ev) : e ∈ extL vb l r 3 [] lab ↔ Fol l r lab e := by
  rw [fol_iff]
  exact mem_extL hvb 3 [] lab .nil rfl e

/-! ### the chapter's example -/
def sc0 : List Sc := [⟨0, 0, 5⟩, ⟨1, 1, 0⟩]
def bA : ByteArray := ⟨#[65]⟩
def bB : ByteArray := ⟨#[66]⟩
def bD : ByteArray := ⟨#[68]⟩
def bC : ByteArray := ⟨#[67, 48, 46, 49, 54, 48]⟩
def rc0 : List Rc := [⟨0, 0, 1, 100, bA, []⟩, ⟨0, 1, 2, 160, bC, [bA, bB]⟩, ⟨1, 0, 1, 220, bC, []⟩, ⟨1, 1, 1, 230, bB, []⟩]
theorem labA : isLab bA := ⟨by decide, by decide, fun i hi => by
  have : i < 1 := hi
  obtain rfl : i = 0 := by omega
  unfold okB; decide⟩
theorem labB : isLab bB := ⟨by decide, by decide, fun i hi => by
  have : i < 1 := hi
  obtain rfl : i = 0 := by omega
  unfold okB; decide⟩
theorem labC : isLab bC := ⟨by decide, by decide, fun i hi => by
  have : i < 6 := hi
  obtain rfl | rfl | rfl | rfl | rfl | rfl : i = 0 ∨ i = 1 ∨ i = 2 ∨ i = 3 ∨ i = 4 ∨ i = 5 := by omega
  all_goals (unfold okB; decide)⟩
theorem val0 : ∀ x ∈ rc0, Val sc0 x := fun x hx => by
  have hs0 : ScOK ⟨0, 0, 5⟩ := ⟨by decide, by decide, by decide, by decide⟩
  have hs1 : ScOK ⟨1, 1, 0⟩ := ⟨by decide, by decide, by decide, by decide⟩
  simp [rc0] at hx
  rcases hx with rfl | rfl | rfl | rfl
  · exact ⟨by decide, ⟨by decide, by decide, by decide, by decide, by decide, by decide, labA, .inl ⟨rfl, rfl⟩⟩, _, rfl, hs0⟩
  · refine ⟨by decide, ⟨by decide, by decide, by decide, by decide, by decide, by decide, labC, .inr ⟨rfl, by decide, fun c hc => ?_, by decide⟩⟩, _, rfl, hs0⟩
    simp at hc
    rcases hc with rfl | rfl
    · exact ⟨labA, by decide⟩
    · exact ⟨labB, by decide⟩
  · exact ⟨by decide, ⟨by decide, by decide, by decide, by decide, by decide, by decide, labC, .inl ⟨rfl, rfl⟩⟩, _, rfl, hs1⟩
  · exact ⟨by decide, ⟨by decide, by decide, by decide, by decide, by decide, by decide, labB, .inl ⟨rfl, rfl⟩⟩, _, rfl, hs1⟩
theorem all0 : ∀ (i : Nat) (x : Rc), rc0[i]? = some x → ((fun _ => true : Rc → Bool) x = true ↔ Val sc0 x) := fun i x h => ⟨fun _ => val0 x (List.mem_of_getElem? h), fun _ => rfl⟩
def eX : Ev := ⟨0, 95, 105, [0]⟩
def eY : Ev := ⟨0, 155, 165, [1]⟩
def eZ : Ev := ⟨1, 220, 220, [1, 2]⟩
def eW : Ev := ⟨1, 220, 220, [2]⟩
theorem extA : canon (extL (fun _ => true) sc0 rc0 3 [] bA) = [eX, eY, eZ] := by kernel_rfl
theorem extC : canon (extL (fun _ => true) sc0 rc0 3 [] bC) = [eY, eW] := by kernel_rfl
theorem extD : canon (extL (fun _ => true) sc0 rc0 3 [] bD) = [] := by kernel_rfl
end Go.Ord

/- Plain: a text whose decoded runes are all of a kind of ASCII is one whose bytes are. -/
namespace Go.Ord
def othR (r : Nat) : Bool := decide ((r < 65 ∨ 90 < r) ∧ (r < 48 ∨ 57 < r) ∧ r ≠ 46)
theorem othR_iff {r : Nat} : othR r = false ↔ okB r := by
  unfold othR okB
  rw [decide_eq_false_iff_not]
  omega
theorem get_byteAt {s : ByteArray} {i : Nat} (h : i < s.size) : (s.get! i).toNat = byteAt s i := by
  unfold byteAt ByteArray.get!
  have h' : i < s.data.size := h
  simp only [Array.getD]
  rw [dif_pos h', getElem!_pos s.data i h']
  rfl
theorem decode_low {s : ByteArray} {i : Nat} (h : byteAt s i < 128) (hi : i < s.size) : Utf8.decode s i = (byteAt s i, 1) := by
  unfold Utf8.decode
  have : (s.get! (i + 0)).toNat = byteAt s i := get_byteAt hi
  simp only [this]
  rw [if_pos h]
theorem decode_high {s : ByteArray} {i : Nat} (h : ¬ byteAt s i < 128) (hi : i < s.size) : 128 ≤ (Utf8.decode s i).1 := by
  unfold Utf8.decode
  have : (s.get! (i + 0)).toNat = byteAt s i := get_byteAt hi
  simp only [this]
  rw [if_neg h]
  split
  · split
    · rename_i h1 h2; simpa using h2
    · show 128 ≤ Utf8.runeError; decide
  · split
    · split
      · rename_i h1 h2; simp at h2 ⊢; omega
      · show 128 ≤ Utf8.runeError; decide
    · split
      · split
        · rename_i h1 h2; simp at h2 ⊢; omega
        · show 128 ≤ Utf8.runeError; decide
      · show 128 ≤ Utf8.runeError; decide
theorem idx_lab (s : ByteArray) : ∀ (f pos : Nat), s.size ≤ pos + f → (Lib.idxFuncFrom othR true s f pos = -1 ↔ ∀ i, pos ≤ i → i < s.size → okB (byteAt s i))
  | 0, pos, h => by
    unfold Lib.idxFuncFrom
    exact ⟨fun _ i h1 h2 => by omega, fun _ => rfl⟩
  | f + 1, pos, h => by
    unfold Lib.idxFuncFrom
    by_cases hp : pos < s.size
    · rw [if_pos hp]
      by_cases hl : byteAt s pos < 128
      · rw [decode_low hl hp]
        dsimp only
        by_cases ho : othR (byteAt s pos) = true
        · rw [if_pos ho]
          constructor
          · intro h1; omega
          · intro h1
            have := othR_iff.2 (h1 pos (Nat.le_refl _) hp)
            rw [this] at ho
            cases ho
        · rw [if_neg ho, idx_lab s f (pos + 1) (by omega)]
          have hok : okB (byteAt s pos) := othR_iff.1 (by simpa using ho)
          constructor
          · intro h1 i h2 h3
            by_cases e : i = pos
            · subst e; exact hok
            · exact h1 i (by omega) h3
          · intro h1 i h2 h3
            exact h1 i (by omega) h3
      · have hh := decode_high hl hp
        have ho : othR (Utf8.decode s pos).1 = true := by
          unfold othR
          exact decide_eq_true (by omega)
        rw [if_pos ho]
        constructor
        · intro h1; omega
        · intro h1
          have := h1 pos (Nat.le_refl _) hp
          unfold okB at this
          omega
    · rw [if_neg hp]
      exact ⟨fun _ i h1 h2 => by omega, fun _ => rfl⟩
theorem lab_idx (s : ByteArray) : decide (0 ≤ Lib.idxFunc othR true s) = !Go.PF.dec (∀ i, i < s.size → okB (byteAt s i)) := by
  have h := idx_lab s s.size 0 (by omega)
  by_cases hq : ∀ i, i < s.size → okB (byteAt s i)
  · rw [Go.PF.dec_pos hq]
    unfold Lib.idxFunc
    rw [h.2 fun i _ hi => hq i hi]
    rfl
  · rw [Go.PF.dec_neg hq]
    have hne : Lib.idxFuncFrom othR true s s.size 0 ≠ -1 := fun e => hq fun i hi => h.1 e i (Nat.zero_le _) hi
    rcases Lib.idxFuncFrom_range othR true s s.size 0 with h1 | h1
    · exact absurd h1 hne
    · unfold Lib.idxFunc
      rw [decide_eq_true (by omega)]
      rfl
end Go.Ord

/- Maps whose keys may be structs: a map as a function. -/
namespace Go.PF
open Go.RowKit

/-- A key's type: how its values stand for κ's. -/
structure GKey (P : Program) (kt : TypeId) (κ : Type) where
  enc : κ → Value
  find : ∀ (w : World) (k : κ) (m : List (κ × Value)) (es : List MapEntry), es.map (fun e => (e.key, e.val)) = m.map (fun p => (enc p.1, p.2)) →
    ∃ r, (Instr.findKey kt (enc k) es).run P w = .ok r w ∧ (r = none → ∀ p ∈ m, p.1 ≠ k) ∧ ∀ j u, r = some (j, u) → m[j]? = some (k, u)
  bits : ∀ a, Instr.sameBits 10000 (enc a) (enc a) = true
  ok : ∀ (e : Bool) (a : κ) (w : World), (Instr.checkKey e 10000 kt (enc a)).run P w = .ok () w
  inj : ∀ a b, enc a = enc b → a = b

theorem run_findAsking {P : Program} {kt : TypeId} {κ : Type} {enc : κ → Value} {eqb : κ → κ → Bool} (hiff : ∀ a b, eqb a b = true ↔ a = b) (heq : ∀ (a b : κ) (w : World), (Op.equal kt (enc a) (enc b)).run P w = .ok (eqb a b) w) (w : World) (k : κ) : ∀ (m : List (κ × Value)) (es : List MapEntry) (i : Nat), es.map (fun e => (e.key, e.val)) = m.map (fun p => (enc p.1, p.2)) →
    ∃ r, (Instr.findAsking kt (enc k) es i).run P w = .ok r w ∧ (r = none → ∀ p ∈ m, p.1 ≠ k) ∧ ∀ j u, r = some (j, u) → i ≤ j ∧ m[j - i]? = some (k, u)
  | [], es, i, h => by
    have : es = [] := by simpa using h
    subst this
    exact ⟨none, by simp [Instr.findAsking], (fun _ p hp => by cases hp), (fun j u h => by cases h)⟩
  | (k', v') :: m, [], i, h => by simp at h
  | (k', v') :: m, e :: es, i, h => by
    simp only [List.map_cons, List.cons.injEq, Prod.mk.injEq] at h
    obtain ⟨⟨h1, h2⟩, h3⟩ := h
    cases hb : eqb k k' with
    | true =>
      have hk : k = k' := (hiff _ _).1 hb
      refine ⟨some (i, v'), by simp [Instr.findAsking, h1, heq, hb, h2], (fun h => by cases h), fun j u hj => ?_⟩
      simp only [Option.some.injEq, Prod.mk.injEq] at hj
      obtain ⟨rfl, rfl⟩ := hj
      exact ⟨Nat.le_refl _, by simp [hk]⟩
    | false =>
      obtain ⟨r, hr, hn, hs⟩ := run_findAsking hiff heq w k m es (i + 1) h3
      refine ⟨r, by simp [Instr.findAsking, h1, heq, hb, hr], fun h p hp => ?_, fun j u hj => ?_⟩
      · rcases List.mem_cons.1 hp with rfl | hp
        · intro e
          have e : k' = k := e
          rw [(hiff k k').2 e.symm] at hb
          cases hb
        · exact hn h p hp
      · obtain ⟨h4, h5⟩ := hs j u hj
        refine ⟨by omega, ?_⟩
        rw [show j - i = (j - (i + 1)) + 1 by omega]
        simpa using h5

/-- keys that are compared by asking -/
def askKey (P : Program) (kt : TypeId) {κ : Type} (enc : κ → Value) (eqb : κ → κ → Bool) (kd : TypeDesc) (und : P.underlying kt = some kd) (hiff : ∀ a b, eqb a b = true ↔ a = b) (heq : ∀ (a b : κ) (w : World), (Op.equal kt (enc a) (enc b)).run P w = .ok (eqb a b) w)
    (ask : ∀ a b, Instr.sameNow kd (enc a) (enc b) = none) (bits : ∀ a, Instr.sameBits 10000 (enc a) (enc a) = true) (ok : ∀ (e : Bool) (a : κ) (w : World), (Instr.checkKey e 10000 kt (enc a)).run P w = .ok () w) (inj : ∀ a b, enc a = enc b → a = b) : GKey P kt κ where
  enc := enc
  find := fun w k m es h => by
    cases es with
    | nil =>
      have : m = [] := by simpa using h.symm
      subst this
      exact ⟨none, by simp [Instr.findKey, run_underlying und, Instr.findNow], (fun _ p hp => by cases hp), (fun j u h => by cases h)⟩
    | cons e es =>
      obtain ⟨r, hr, hn, hs⟩ := run_findAsking hiff heq w k m (e :: es) 0 h
      have hf : Instr.findNow kd (enc k) (e :: es) 0 = none := by
        cases m with
        | nil => simp at h
        | cons p m =>
          simp only [List.map_cons, List.cons.injEq, Prod.mk.injEq] at h
          simp only [Instr.findNow]
          rw [h.1.1, ask]
      exact ⟨r, by simp [Instr.findKey, run_underlying und, hf, hr], hn, fun j u hj => by have := (hs j u hj).2; simpa using this⟩
  bits := bits
  ok := ok
  inj := inj

/-- keys that are compared at once -/
def nowKey {P : Program} {kt : TypeId} {κ : Type} (K : Key P kt κ) (hiff : ∀ a b, K.eqb a b = true ↔ a = b) : GKey P kt κ where
  enc := K.enc
  find := fun w k m es h => by
    obtain ⟨r, hr, hg, hn, hs⟩ := findNow_map K k m es 0 h
    refine ⟨r, by simp [Instr.findKey, run_underlying K.und, hr], fun h0 p hp e => ?_, fun j u hj => ?_⟩
    · have := hn h0 p hp
      rw [(hiff _ _).2 e.symm] at this
      cases this
    · subst hj
      obtain ⟨j', h1, h2, h3, h4⟩ := hs j u rfl
      have e1 : j = j' := by omega
      subst e1
      have h5 := (hiff _ _).1 (h3 h2)
      rw [List.getElem?_eq_getElem h2]
      have key : ∀ (m : List (κ × Value)) (es : List MapEntry) (i j : Nat) (u : Value), es.map (fun e => (e.key, e.val)) = m.map (fun p => (K.enc p.1, p.2)) → Instr.findNow K.kd (K.enc k) es i = some (some (j, u)) → i ≤ j ∧ ∃ p, m[j - i]? = some p ∧ p.2 = u := by
        intro m
        induction m with
        | nil => intro es i j u h hf; have : es = [] := by simpa using h
                 subst this; simp [Instr.findNow] at hf
        | cons p m ih =>
          intro es i j u h hf
          cases es with
          | nil => simp at h
          | cons e es =>
            simp only [List.map_cons, List.cons.injEq, Prod.mk.injEq] at h
            obtain ⟨⟨h1, h2⟩, h3⟩ := h
            simp only [Instr.findNow] at hf
            rw [h1, K.same] at hf
            cases hb : K.eqb k p.1 with
            | true =>
              rw [hb] at hf
              simp only [Option.some.injEq, Prod.mk.injEq] at hf
              obtain ⟨rfl, rfl⟩ := hf
              exact ⟨Nat.le_refl _, p, by simp, h2.symm⟩
            | false =>
              rw [hb] at hf
              obtain ⟨h6, q, h7, h8⟩ := ih es (i + 1) j u h3 hf
              refine ⟨by omega, q, ?_, h8⟩
              rw [show j - i = (j - (i + 1)) + 1 by omega]
              simpa using h7
      obtain ⟨_, p, h6, h7⟩ := key m es 0 j u h hr
      rw [Nat.sub_zero, List.getElem?_eq_getElem h2] at h6
      simp only [Option.some.injEq] at h6
      have : m[j] = (m[j].1, m[j].2) := rfl
      rw [this, ← h5, h6, h7]
  bits := fun a => K.bits a a ((hiff a a).2 rfl)
  ok := K.ok
  inj := fun a b h => by
    have h1 := K.same a b
    rw [← h, K.same a a] at h1
    simp only [Option.some.injEq] at h1
    exact (hiff a b).1 (by rw [← h1]; exact (hiff a a).2 rfl)

section
variable {P : Program} {r : Option Nat} {Q : Exit → Act → World → Prop} {N : Nat} {ds : List Deferred} {ops rest : List Oper} {E : Env} {D : DE} {w : World} {G : Option Bool} {Fin : DE → Prop} {md : Mode}
variable {d : Option Tmp} {ty : TypeId} {pos : String} {af : Array Edge} {gu : Option (Nat × Bool)}
variable {x y z : Operand} {cx cy cz : Option Bool} {ρ : Operand → Value} {κ : Type} {kt : TypeId}

/-- Block b is a map with these entries. -/
structure MapL (K : GKey P kt κ) (w : World) (b : Nat) (m : List (κ × Value)) : Prop where
  is : ∃ es clock, w.heap[b]? = some (.map es clock) ∧ es.toList.map (fun e => (e.key, e.val)) = m.map (fun p => (K.enc p.1, p.2)) ∧ (es.toList.map (·.born)).Nodup ∧ ∀ e ∈ es.toList, e.born < clock
  once : m.Pairwise fun p q => p.1 ≠ q.1
theorem MapL.lt {K : GKey P kt κ} {b : Nat} {m : List (κ × Value)} (h : MapL K w b m) : b < w.heap.size := by
  obtain ⟨⟨es, cl, hh, _⟩, _⟩ := h; exact (Array.getElem?_eq_some_iff.1 hh).1
theorem MapL.kept {K : GKey P kt κ} {b : Nat} {m : List (κ × Value)} {w' : World} (h : MapL K w b m) (hk : w'.heap[b]? = w.heap[b]?) : MapL K w' b m := by
  obtain ⟨⟨es, cl, hh, hm⟩, h2⟩ := h; exact ⟨⟨es, cl, hk.trans hh, hm⟩, h2⟩
theorem MapL.below {K : GKey P kt κ} {b : Nat} {m : List (κ × Value)} {w' : World} (h : MapL K w b m) (hb : Below w.heap.size w w') : MapL K w' b m := h.kept (hb.block b h.lt)
theorem MapL.but {K : GKey P kt κ} {b g : Nat} {m : List (κ × Value)} {w' : World} (h : MapL K w b m) (hb : But g w w') (hg : b ≠ g) : MapL K w' b m := h.kept (hb.block b h.lt (fun e => hg (by cases e; rfl)))

theorem TW.makeMapL {t : TypeId} (K : GKey P kt κ) (hg : gu = none) (hd : okDst N d = true)
    (next : ∀ b w', b = w.heap.size → w'.heap.size = b + 1 → Below w.heap.size w w' → MapL K w' b [] → TW P r Q N ds ops rest (ins E d none (.map (some b))) w') : TW P r Q N ds ops (⟨d, .makeMap t none, ty, pos, af, gu⟩ :: rest) E w :=
  TW.eff (v := .map (some w.heap.size)) (w' := w.alloc (.map #[] 0)) hg hd rfl (fun a ha => by simp [execOp, Instr.makeMap])
    (next _ _ rfl (by simp) ((Below.refl _ _).alloc (Nat.le_refl _) _) ⟨⟨#[], 0, heap_alloc_new w _, rfl, by simp, by simp⟩, List.Pairwise.nil⟩)

/-- what lookup finds -/
def Found (m : List (κ × Value)) (k : κ) : Option Value → Prop
  | none => ∀ p ∈ m, p.1 ≠ k
  | some v => (k, v) ∈ m
theorem run_lookupL (K : GKey P kt κ) {t et : TypeId} (ht : P.underlying t = some (.map kt et)) {zv : Value} (hz : (P.info? et).bind (·.zero) = some zv) {b : Nat} {m : List (κ × Value)} (hm : MapL K w b m) (k : κ) (ok : Bool) :
    ∃ o, Found m k o ∧ (Instr.lookup t (.map (some b)) (K.enc k) ok).run P w = .ok (if ok then .tuple #[o.getD zv, .bool o.isSome] else o.getD zv) w := by
  obtain ⟨⟨es, cl, hh, he, _⟩, _⟩ := hm
  obtain ⟨rr, hr, hn, hs⟩ := K.find w k m es.toList he
  cases hi : P.info? et with
  | none => simp [hi] at hz
  | some i =>
    simp [hi] at hz
    have hobj : (getObj b).run P w = .ok (.map es cl) w := by simp [getObj, Sem.run, hh]
    cases rr with
    | none =>
      refine ⟨none, hn rfl, ?_⟩
      cases ok <;> simp [Instr.lookup, run_underlying ht, hobj, K.ok, hr, zeroValue, typeInfo, hi, hz]
    | some p =>
      obtain ⟨j, u⟩ := p
      refine ⟨some u, List.mem_of_getElem? (hs j u rfl), ?_⟩
      cases ok <;> simp [Instr.lookup, run_underlying ht, hobj, K.ok, hr]

theorem TW.lookupL (K : GKey P kt κ) {t et : TypeId} {zv : Value} {b : Nat} {m : List (κ × Value)} (k : κ) {ok : Bool} (hg : gu = none) (hd : okDst N d = true) (ht : P.underlying t = some (.map kt et)) (hz : (P.info? et).bind (·.zero) = some zv)
    (hx : ev E x = some (none, .map (some b))) (hy : ev E y = some (none, K.enc k)) (hm : MapL K w b m)
    (next : ∀ o, Found m k o → TW P r Q N ds ops rest (ins E d none (if ok then .tuple #[o.getD zv, .bool o.isSome] else o.getD zv)) w) : TW P r Q N ds ops (⟨d, .lookup t x y ok, ty, pos, af, gu⟩ :: rest) E w := by
  obtain ⟨o, ho, hrun⟩ := run_lookupL K ht hz hm k ok
  subst hg
  exact TW.val (G := none) rfl hd rfl (fun _ a ha => by simp only [execOp]; rw [ha.eval hx trivial, ha.eval hy trivial]; simp [hrun]) (next o ho)

theorem TW.lookup1 (K : GKey P kt κ) {t et : TypeId} {zv : Value} {b : Nat} {m : List (κ × Value)} (k : κ) (hg : gu = none) (hd : okDst N d = true) (ht : P.underlying t = some (.map kt et)) (hz : (P.info? et).bind (·.zero) = some zv)
    (hx : ev E x = some (none, .map (some b))) (hy : ev E y = some (none, K.enc k)) (hm : MapL K w b m)
    (next : ∀ v, ((k, v) ∈ m ∨ ((∀ p ∈ m, p.1 ≠ k) ∧ v = zv)) → TW P r Q N ds ops rest (ins E d none v) w) : TW P r Q N ds ops (⟨d, .lookup t x y false, ty, pos, af, gu⟩ :: rest) E w :=
  TW.lookupL K k hg hd ht hz hx hy hm fun o ho => by
    cases o with
    | none => exact next zv (.inr ⟨ho, rfl⟩)
    | some v => exact next v (.inl ho)
open Classical in
/-- the map with another entry -/
noncomputable def lput (m : List (κ × Value)) (k : κ) (v : Value) : List (κ × Value) := if ∃ p ∈ m, p.1 = k then m.map fun p => if p.1 = k then (k, v) else p else m ++ [(k, v)]

theorem mem_lput {m : List (κ × Value)} {k : κ} {v : Value} {p : κ × Value} : p ∈ lput m k v ↔ p = (k, v) ∨ (p ∈ m ∧ p.1 ≠ k) := by
  unfold lput
  split
  · rename_i h
    rw [List.mem_map]
    constructor
    · rintro ⟨q, hq, rfl⟩
      split
      · exact .inl rfl
      · rename_i hne; exact .inr ⟨hq, hne⟩
    · rintro (rfl | ⟨hp, hne⟩)
      · obtain ⟨q, hq, he⟩ := h
        exact ⟨q, hq, by rw [if_pos he]⟩
      · exact ⟨p, hp, by rw [if_neg hne]⟩
  · rename_i h
    rw [List.mem_append, List.mem_singleton]
    constructor
    · rintro (hp | rfl)
      · exact .inr ⟨hp, fun e => h ⟨p, hp, e⟩⟩
      · exact .inl rfl
    · rintro (rfl | ⟨hp, _⟩)
      · exact .inr rfl
      · exact .inl hp

theorem lput_once {m : List (κ × Value)} (h : m.Pairwise fun p q => p.1 ≠ q.1) (k : κ) (v : Value) : (lput m k v).Pairwise fun p q => p.1 ≠ q.1 := by
  unfold lput
  split
  · rw [List.pairwise_map]
    refine h.imp fun {a b} hab => ?_
    split <;> split
    · rename_i h1 h2; exact absurd (h1.trans h2.symm) hab
    · rename_i h1 h2; exact fun e => h2 e.symm
    · rename_i h1 h2; exact h1
    · exact hab
  · rename_i hno
    rw [List.pairwise_append]
    refine ⟨h, List.pairwise_singleton _ _, fun a ha b hb => ?_⟩
    rw [List.mem_singleton] at hb
    subst hb
    exact fun e => hno ⟨a, ha, e⟩

theorem run_mapUpdateL (K : GKey P kt κ) {t et : TypeId} (ht : P.underlying t = some (.map kt et)) {b : Nat} {m : List (κ × Value)} (hm : MapL K w b m) (k : κ) (vz : Value) :
    ∃ w', (Instr.mapUpdate t (.map (some b)) (K.enc k) vz).run P w = .ok () w' ∧ w'.heap.size = w.heap.size ∧ But b w w' ∧ MapL K w' b (lput m k vz) := by
  obtain ⟨⟨es, cl, hh, he, hbn, hbc⟩, hon⟩ := id hm
  obtain ⟨rr, hr, hnone, hsome⟩ := K.find w k m es.toList he
  have hlt : b < w.heap.size := hm.lt
  have hobj : (getObj b).run P w = .ok (.map es cl) w := by simp [getObj, Sem.run, hh]
  have hset : ∀ o, (setObj b o).run P w = .ok () { w with heap := w.heap.setIfInBounds b o } := fun o => by simp [setObj, Sem.run, hh]
  have fin : ∀ (es' : Array MapEntry) (cl' : Nat), (Instr.mapUpdate t (.map (some b)) (K.enc k) vz).run P w = .ok () { w with heap := w.heap.setIfInBounds b (.map es' cl') } →
      es'.toList.map (fun e => (e.key, e.val)) = (lput m k vz).map (fun p => (K.enc p.1, p.2)) → (es'.toList.map (·.born)).Nodup → (∀ e ∈ es'.toList, e.born < cl') → ∃ w', (Instr.mapUpdate t (.map (some b)) (K.enc k) vz).run P w = .ok () w' ∧ w'.heap.size = w.heap.size ∧ But b w w' ∧ MapL K w' b (lput m k vz) := by
    intro es' cl' hrun hes hn' hc'
    refine ⟨_, hrun, by simp, ⟨rfl, rfl, rfl, by simp, fun i hi hne => ?_⟩, ⟨es', cl', by simp [hlt], hes, hn', hc'⟩, lput_once hon k vz⟩
    have : b ≠ i := fun e => hne (by rw [e])
    simp [Array.getElem?_setIfInBounds_ne this]
  cases rr with
  | none =>
    have hno : ¬ ∃ p ∈ m, p.1 = k := fun ⟨p, hp, e⟩ => hnone rfl p hp e
    refine fin (es.push { key := K.enc k, val := vz, born := cl }) (cl + 1) ?_ ?_ ?_ ?_
    · simp [Instr.mapUpdate, run_underlying ht, hobj, K.ok, hr, hset]
    · unfold lput; rw [if_neg hno]; simp [he]
    · rw [Array.toList_push, List.map_append]
      refine List.nodup_append.2 ⟨hbn, by simp, fun a ha b hb e => ?_⟩
      simp at hb
      rw [List.mem_map] at ha
      obtain ⟨x, hx, rfl⟩ := ha
      have := hbc x hx
      omega
    · intro e he'
      rw [Array.toList_push, List.mem_append, List.mem_singleton] at he'
      rcases he' with h | rfl
      · have := hbc e h; omega
      · show cl < cl + 1; omega
  | some p =>
    obtain ⟨j, u⟩ := p
    have hj := hsome j u rfl
    have hjm : j < m.length := (List.getElem?_eq_some_iff.1 hj).1
    have hlen : es.toList.length = m.length := by have := congrArg List.length he; simpa using this
    have hje : j < es.size := by simpa using (show j < es.toList.length by omega)
    have hkey : es[j].key = K.enc k := by
      have := congrArg (fun l => l[j]?) he
      simp only [List.getElem?_map, hj, Array.getElem?_toList] at this
      simp [hje] at this
      exact this.1
    have hborn : (es.modify j fun e => { e with key := K.enc k, val := vz }).toList.map (·.born) = es.toList.map (·.born) := by
      apply List.ext_getElem?
      intro i
      simp only [List.getElem?_map, Array.getElem?_toList, Array.getElem?_modify]
      split
      · cases es[i]? <;> rfl
      · rfl
    refine fin (es.modify j fun e => { e with key := K.enc k, val := vz }) cl ?_ ?_ (by rw [hborn]; exact hbn) (fun e he' => ?_)
    rotate_left 2
    · have h1 : e.born ∈ (es.modify j fun e => { e with key := K.enc k, val := vz }).toList.map (·.born) := List.mem_map.2 ⟨e, he', rfl⟩
      rw [hborn, List.mem_map] at h1
      obtain ⟨x, hx, hxe⟩ := h1
      rw [← hxe]
      exact hbc x hx
    · simp only [Instr.mapUpdate]
      simp [run_underlying ht, hobj, K.ok, hr, Instr.keyThatStays, hje, hkey, K.bits k, hset]
    · unfold lput
      rw [if_pos ⟨(k, u), List.mem_of_getElem? hj, rfl⟩]
      apply List.ext_getElem?
      intro i
      have hi := congrArg (fun l => l[i]?) he
      simp only [List.getElem?_map] at hi
      simp only [List.getElem?_map, Array.getElem?_toList, Array.getElem?_modify]
      by_cases hij : j = i
      · subst hij
        simp [hje, hj]
      · rw [if_neg hij]
        rcases Nat.lt_or_ge i m.length with hlt' | hge
        · have hmi : m[i]? = some m[i] := List.getElem?_eq_getElem hlt'
          have hne : m[i].1 ≠ k := by
            have hp := List.pairwise_iff_getElem.1 hon
            have hkj : m[j].1 = k := by
              have := List.getElem?_eq_getElem hjm
              rw [hj] at this
              simp only [Option.some.injEq] at this
              rw [← this]
            rcases Nat.lt_or_ge i j with h | h
            · have := hp i j hlt' hjm h; rw [hkj] at this; exact this
            · have := hp j i hjm hlt' (by omega); rw [hkj] at this; exact fun e => this e.symm
          rw [hmi] at hi ⊢
          simp only [Option.map_some, if_neg hne] at hi ⊢
          simpa using hi
        · have hes : es[i]? = none := by
            have : es.size ≤ i := by
              have : es.toList.length ≤ i := by omega
              simpa using this
            simp [this]
          rw [List.getElem?_eq_none hge, hes]
          rfl

theorem TW.mapUpdateL (K : GKey P kt κ) {t et : TypeId} {b : Nat} {m : List (κ × Value)} (k : κ) {vz : Value} (hg : gu = none) (ht : P.underlying t = some (.map kt et))
    (hx : ev E x = some (none, .map (some b))) (hy : ev E y = some (none, K.enc k)) (hz : ev E z = some (none, vz)) (hm : MapL K w b m)
    (next : ∀ w', w'.heap.size = w.heap.size → But b w w' → MapL K w' b (lput m k vz) → TW P r Q N ds ops rest E w') : TW P r Q N ds ops (⟨none, .mapUpdate t x y z, ty, pos, af, gu⟩ :: rest) E w := by
  obtain ⟨w', hrun, h1, h2, h3⟩ := run_mapUpdateL K ht hm k vz
  exact TW.eff0 hg rfl rfl (fun a ha => by simp only [execOp]; rw [ha.eval hx trivial, ha.eval hy trivial, ha.eval hz trivial]; simp [hrun]) (next w' h1 h2 h3)
theorem TW.insertL (K : GKey P kt κ) {t et : TypeId} {b : Nat} {m : List (κ × Value)} (k : κ) {vz : Value} (hg : gu = none) (ht : P.underlying t = some (.map kt et))
    (hx : ev E x = some (none, .map (some b))) (hy : ev E y = some (none, K.enc k)) (hz : ev E z = some (none, vz)) (hm : MapL K w b m)
    (next : ∀ w', w'.heap.size = w.heap.size → But b w w' → MapL K w' b (lput m k vz) → TW P r Q N ds ops rest E w') : TW P r Q N ds ops (⟨none, .insert t x y z, ty, pos, af, gu⟩ :: rest) E w := by
  obtain ⟨w', hrun, h1, h2, h3⟩ := run_mapUpdateL K ht hm k vz
  exact TW.eff0 hg rfl rfl (fun a ha => by simp only [execOp]; rw [ha.eval hx trivial, ha.eval hy trivial, ha.eval hz trivial]; simp [hrun]) (next w' h1 h2 h3)
end
end Go.PF

/- Drawn regions: moves may be done first; operations that look at no memory may be taken first. -/
namespace Go.PF
open Go.RowKit

section
variable {P : Program} {Q : Exit → Act → World → Prop} {N : Nat} {ds : List Deferred} {ops : List Oper}

/-- A panic's post does not hang on the slots. -/
def PanQ (Q : Exit → Act → World → Prop) : Prop := ∀ c a d v w, Q (.panic c) (Act.put a d v) w → Q (.panic c) a w

theorem free_of_lex (hlex : lexOK ops = true) {i : Nat} {oi : Oper} (hi : ops[i]? = some oi) {listed : Array Bool} (hdeps : ∀ e ∈ oi.after, Region.binds .any e = true → listed.getD e.on false = true) :
    ∀ j oj, ops[j]? = some oj → j ≠ i → listed.getD j true = false → (∀ e ∈ oj.after, Region.binds .any e = true → e.on ≠ i) → oi.apart ops.toArray oj = true := by
  intro j oj hj hne hun hno
  have hunf : listed.getD j false = true → False := fun h => by
    rcases Nat.lt_or_ge j listed.size with h' | h'
    · simp [h'] at hun h; rw [hun] at h; cases h
    · simp [Array.getElem?_eq_none h'] at h
  have h1 := fun d hd => (lexOK_spec hlex hj hi).2 d hd
  have h2 := fun d hd => (lexOK_spec hlex hi hj).2 d hd
  unfold Oper.apart
  rw [Bool.and_eq_true]
  constructor
  · cases hd : oi.dst with
    | none => rfl
    | some d =>
      obtain ⟨q1, q2⟩ := h1 d hd
      simp only [Bool.and_eq_true]
      constructor
      · cases hc : (oj.looksAt ops.toArray).contains d with
        | false => rfl
        | true =>
          exfalso
          have hm : d ∈ oj.looksAt ops.toArray := by simpa using hc
          obtain ⟨q3, q4⟩ := q2 hm
          rcases Nat.lt_or_ge i j with h | h
          · obtain ⟨e, he, hb, hon⟩ := q3 h
            exact hno e he hb hon
          · rcases q4 h with h5 | ⟨e, he, hb, hon⟩
            · exact hne h5.symm
            · exact hunf (hon ▸ hdeps e he hb)
      · rcases q1 with q1 | q1
        · exact absurd q1.symm hne
        · simpa using q1
  · cases hd : oj.dst with
    | none => rfl
    | some d =>
      obtain ⟨q1, q2⟩ := h2 d hd
      cases hc : (oi.looksAt ops.toArray).contains d with
      | false => simp only [hc, Bool.not_false]
      | true =>
        exfalso
        have hm : d ∈ oi.looksAt ops.toArray := by simpa using hc
        obtain ⟨q3, q4⟩ := q2 hm
        rcases Nat.lt_or_ge j i with h | h
        · obtain ⟨e, he, hb, hon⟩ := q3 h
          exact hunf (hon ▸ hdeps e he hb)
        · rcases q4 h with h5 | ⟨e, he, hb, hon⟩
          · exact hne h5
          · exact hno e he hb hon

def isMove : Op → Bool
  | .move _ => true
  | .assign _ => true
  | _ => false
def plusO (ks : List Nat) (t i : Nat) (o : Oper) : Oper := match Nat.ble t i with
  | true => ⟨o.dst, o.op, o.type, o.pos, o.after ++ (ks.map fun k => (⟨k, .data⟩ : Edge)).toArray, o.guard⟩
  | false => o
def plusL (ks : List Nat) (t : Nat) : Nat → List Oper → List Oper
  | _, [] => []
  | i, o :: os => plusO ks t i o :: plusL ks t (i + 1) os
def plus (ks : List Nat) (t : Nat) (ops : List Oper) : List Oper := plusL ks t 0 ops
theorem plusL_get (ks : List Nat) (t : Nat) : ∀ (os : List Oper) (j i : Nat), (plusL ks t j os)[i]? = (os[i]?).map (plusO ks t (j + i))
  | [], j, i => by simp [plusL]
  | o :: os, j, 0 => by simp [plusL]
  | o :: os, j, i + 1 => by
    simp only [plusL, List.getElem?_cons_succ]
    rw [plusL_get ks t os (j + 1) i, show j + 1 + i = j + (i + 1) by omega]
theorem plus_get (ks : List Nat) (t : Nat) (ops : List Oper) (i : Nat) : (plus ks t ops)[i]? = (ops[i]?).map (plusO ks t i) := by
  unfold plus; rw [plusL_get, Nat.zero_add]
theorem plusO_dst (ks : List Nat) (t i : Nat) (o : Oper) : (plusO ks t i o).dst = o.dst := by unfold plusO; split <;> rfl
theorem plusO_guard (ks : List Nat) (t i : Nat) (o : Oper) : (plusO ks t i o).guard = o.guard := by unfold plusO; split <;> rfl
theorem plusO_op (ks : List Nat) (t i : Nat) (o : Oper) : (plusO ks t i o).op = o.op := by unfold plusO; split <;> rfl
theorem plusO_after {ks : List Nat} {t i : Nat} {o : Oper} {e : Edge} (h : e ∈ (plusO ks t i o).after) : e ∈ o.after ∨ (t ≤ i ∧ ∃ k ∈ ks, e = ⟨k, .data⟩) := by
  unfold plusO at h
  split at h
  · rename_i hb
    have h : e ∈ o.after ++ (ks.map fun k => (⟨k, .data⟩ : Edge)).toArray := h
    rw [Array.mem_append] at h
    rcases h with h | h
    · exact .inl h
    · right
      refine ⟨Nat.le_of_ble_eq_true hb, ?_⟩
      simp only [List.mem_toArray, List.mem_map] at h
      obtain ⟨k, hk, rfl⟩ := h
      exact ⟨k, hk, rfl⟩
  · exact .inl h
theorem plusO_more {ks : List Nat} {t i : Nat} {o : Oper} {e : Edge} (h : e ∈ o.after) : e ∈ (plusO ks t i o).after := by
  unfold plusO
  split
  · show e ∈ o.after ++ _
    exact Array.mem_append.2 (.inl h)
  · exact h
theorem plus_yielded (ks : List Nat) (t : Nat) (ops : List Oper) (a : Array Value) (j : Nat) : yielded (plus ks t ops).toArray a j = yielded ops.toArray a j := by
  rw [yielded_eq, yielded_eq, plus_get]
  cases ops[j]? with
  | none => rfl
  | some o => simp [plusO_dst]
theorem plus_wanted (ks : List Nat) (t i : Nat) (ops : List Oper) (o : Oper) (a : Array Value) : Region.wanted (plusO ks t i o) (yielded (plus ks t ops).toArray a) = Region.wanted o (yielded ops.toArray a) := by
  have : yielded (plus ks t ops).toArray a = yielded ops.toArray a := by funext j; exact plus_yielded ks t ops a j
  rw [this]
  unfold Region.wanted
  rw [plusO_guard]
theorem plus_wpIn {F : Fence} {n : Nat} {ks : List Nat} {t i : Nat} {o : Oper} {a : Act} {w : World} {K : Act → World → Prop} : (plusO ks t i o).wpIn F n P a w K Q ↔ o.wpIn F n P a w K Q := by
  unfold plusO
  split
  · exact Iff.rfl
  · exact Iff.rfl
theorem plus_wpOp {F : Fence} {n : Nat} {ks : List Nat} {t i : Nat} {a : Act} {w : World} {K : Act → World → Prop} : wpOpIn F n P (plus ks t ops).toArray Q i K a w ↔ wpOpIn F n P ops.toArray Q i K a w := by
  unfold wpOpIn
  simp only [List.getElem?_toArray, plus_get]
  cases ops[i]? with
  | none => exact Iff.rfl
  | some o =>
    simp only [Option.map_some, plus_wanted, plusO_dst]
    split
    · exact plus_wpIn
    · unfold plusO
      split <;> exact Iff.rfl

def moveOK (ks : List Nat) (t : Nat) (ops : List Oper) (k : Nat) : Bool := Nat.blt k t && match ops[k]? with
  | some o => isMove o.op && o.guard.isNone && o.after.all fun e => !Region.binds .any e || hasN ks e.on || ((masks ops).drop t).all fun m => m.testBit e.on
  | none => false
def plusOK (ks : List Nat) (t : Nat) (ops : List Oper) : Bool := lexOK ops && Region.noSelect ops.toArray && ks.all (moveOK ks t ops)

theorem any_plus {ks : List Nat} {t : Nat} (hok : plusOK ks t ops = true) (hQ : PanQ Q) :
    ∀ (fuel : Nat) (listed : Array Bool) (a : Act) (w : World), (∀ k o, ops[k]? = some o → listed.getD k false = true → ∀ e ∈ o.after, Region.binds .any e = true → listed.getD e.on false = true) →
      wpAnyIn (FR none) 0 P .any (plus ks t ops).toArray Q fuel listed a w → wpAnyIn (FR none) 0 P .any ops.toArray Q fuel listed a w := by
  unfold plusOK at hok
  simp only [Bool.and_eq_true] at hok
  obtain ⟨⟨hlex, hsel⟩, hks⟩ := hok
  have hback : ∀ k o, ops[k]? = some o → ∀ e ∈ o.after, Region.binds .any e = true → e.on < k := fun k o hk e he hb => (lexOK_spec hlex hk hk).1 e he hb
  have hkk : ∀ k ∈ ks, k < t ∧ ∃ o, ops[k]? = some o ∧ isMove o.op = true ∧ o.guard = none ∧ ∀ e ∈ o.after, Region.binds .any e = true → e.on ∈ ks ∨ ∀ i, t ≤ i → i < ops.length → Reach ops i e.on := by
    intro k hk
    have h := List.all_eq_true.1 hks k hk
    unfold moveOK at h
    simp only [Bool.and_eq_true] at h
    obtain ⟨h1, h2⟩ := h
    refine ⟨blt_iff.1 h1, ?_⟩
    cases ho : ops[k]? with
    | none => rw [ho] at h2; cases h2
    | some o =>
      rw [ho] at h2
      simp only [Bool.and_eq_true] at h2
      obtain ⟨⟨h3, h4⟩, h5⟩ := h2
      refine ⟨o, rfl, h3, by simpa using h4, fun e he hb => ?_⟩
      rw [Array.all_eq_true'] at h5
      have h6 := h5 e he
      rw [hb] at h6
      simp only [Bool.not_true, Bool.false_or, Bool.or_eq_true] at h6
      rcases h6 with h6 | h6
      · exact .inl (hasN_iff.1 h6)
      · right
        intro i hti hil
        have hlen : (masks ops).length = ops.length := by unfold masks; rw [masksGo_len]; simp
        have hm : (masks ops)[i]? = some (masks ops)[i] := List.getElem?_eq_getElem (by omega)
        have h7 := List.all_eq_true.1 h6 (masks ops)[i] (by
          rw [List.mem_iff_getElem?]
          exact ⟨i - t, by rw [List.getElem?_drop, show t + (i - t) = i by omega, hm]⟩)
        exact masks_reach (by rw [List.getD_eq_getElem?_getD, hm]; exact h7)
  have hget : ∀ i o, (plus ks t ops).toArray[i]? = some o → ∃ o0, ops[i]? = some o0 ∧ o = plusO ks t i o0 := by
    intro i o h
    rw [List.getElem?_toArray, plus_get] at h
    cases ho : ops[i]? with
    | none => rw [ho] at h; cases h
    | some o0 => rw [ho] at h; simp only [Option.map_some, Option.some.injEq] at h; exact ⟨o0, rfl, h.symm⟩
  have hclosed : ∀ {listed : Array Bool} {i : Nat}, (∀ k o, ops[k]? = some o → listed.getD k false = true → ∀ e ∈ o.after, Region.binds .any e = true → listed.getD e.on false = true) →
      (∀ o, ops[i]? = some o → ∀ e ∈ o.after, Region.binds .any e = true → listed.getD e.on false = true) → ∀ k o, ops[k]? = some o → (listed.setIfInBounds i true).getD k false = true → ∀ e ∈ o.after, Region.binds .any e = true → (listed.setIfInBounds i true).getD e.on false = true := by
    intro listed i hc hd k o hk hl e he hb
    refine getD_set_true ?_
    by_cases hik : i = k
    · subst hik; exact hd o hk e he hb
    · rw [getD_set_ne false hik] at hl; exact hc k o hk hl e he hb
  intro fuel
  induction fuel with
  | zero =>
    intro listed a w hc h
    refine ⟨?_, h.2⟩
    cases hr : Region.ready .any ops.toArray listed with
    | nil => rfl
    | cons i l =>
      exfalso
      -- some operation is ready in the fuller order too
      have hi : i ∈ Region.ready .any ops.toArray listed := by rw [hr]; simp
      have hex : ∃ j, j ∈ Region.ready .any (plus ks t ops).toArray listed := by
        have hun : ∃ j o, ops[j]? = some o ∧ listed.getD j true = false := by
          obtain ⟨h0, o, ho, _⟩ := mem_ready.1 hi
          exact ⟨i, o, by simpa using ho, h0⟩
        obtain ⟨j, o, hj, hun⟩ := hun
        induction j using Nat.strongRecOn generalizing o with
        | _ j ih =>
          by_cases hall : ∀ j' o', j' < j → ops[j']? = some o' → listed.getD j' true = true
          · refine ⟨j, mem_ready.2 ⟨hun, plusO ks t j o, by rw [List.getElem?_toArray, plus_get, hj]; rfl, fun e he hb => ?_⟩⟩
            have hon : e.on < j := by
              rcases plusO_after he with h1 | ⟨h1, k, hk, rfl⟩
              · exact hback j o hj e h1 hb
              · have := (hkk k hk).1; show k < j; omega
            have hjl := (List.getElem?_eq_some_iff.1 hj).1
            have hex : ops[e.on]? = some ops[e.on] := List.getElem?_eq_getElem (by omega)
            have h2 := hall e.on _ hon hex
            rcases Nat.lt_or_ge e.on listed.size with h' | h'
            · simp [h'] at h2 ⊢; exact h2
            · have hjs : listed.size ≤ j := by omega
              simp [Array.getElem?_eq_none hjs] at hun
          · rcases Classical.not_forall.1 hall with ⟨j', hn⟩
            rcases Classical.not_forall.1 hn with ⟨o', hn⟩
            rcases Classical.not_forall.1 hn with ⟨hlt, hn⟩
            rcases Classical.not_forall.1 hn with ⟨ho', hn⟩
            exact ih j' hlt o' ho' (by simpa using hn)
      obtain ⟨j, hj⟩ := hex
      rw [h.1] at hj
      cases hj
  | succ fuel ih =>
    intro listed a w hc h
    by_cases hk : ∃ k ∈ ks, k ∈ Region.ready .any (plus ks t ops).toArray listed
    · obtain ⟨k, hkm, hkr⟩ := hk
      obtain ⟨hkt, o, ho, hmv, hgu, _⟩ := hkk k hkm
      obtain ⟨hun, o', ho', hdeps⟩ := mem_ready.1 hkr
      have hdeps0 : ∀ e ∈ o.after, Region.binds .any e = true → listed.getD e.on false = true := by
        rw [List.getElem?_toArray, plus_get, ho] at ho'
        simp only [Option.map_some, Option.some.injEq] at ho'
        subst ho'
        exact fun e he hb => hdeps e (plusO_more he) hb
      have hkr0 : k ∈ Region.ready .any ops.toArray listed := mem_ready.2 ⟨hun, o, by simpa using ho, hdeps0⟩
      have h1 := plus_wpOp.1 (h.2 k hkr)
      -- what it yields
      obtain ⟨v, hv⟩ : ∃ v, ∀ w', (execOp a.eval o).run P w' = .ok (.value v) w' := by
        obtain ⟨dst, op, ty, pos, af, gu⟩ := o
        cases op <;> first | (simp [isMove] at hmv; done) | skip
        · exact ⟨_, fun w' => by simp only [execOp]; rfl⟩
        · exact ⟨_, fun w' => by simp only [execOp]; rfl⟩
      have hw : Region.wanted o (yielded ops.toArray a.tmps) = true := by unfold Region.wanted; rw [hgu]
      have hab : ∀ w', o.about P w' a.eval = none := by
        intro w'
        unfold Oper.about
        cases hop : o.op <;> first | rfl | (rw [hop] at hmv; simp [isMove] at hmv)
      have h2 : wpAnyIn (FR none) 0 P .any (plus ks t ops).toArray Q fuel (listed.setIfInBounds k true) (a.put o.dst v) w := by
        unfold wpOpIn at h1
        simp only [List.getElem?_toArray, ho, hw, if_true, Oper.wpIn] at h1
        have h1 := h1.2
        rw [Oper.semAt_none, hv w] at h1
        exact h1
      have h3 := ih _ _ _ (hclosed hc (fun o' ho' => by rw [ho] at ho'; cases ho'; exact hdeps0)) h2
      exact wpAnyIn_first rfl (by simpa using ho) (Region.noSelect_spec hsel) (fun c a w hq => hQ c a _ _ w hq) fuel listed a w
        (fun j oj hj => free_of_lex hlex ho hdeps0 j oj (by simpa using hj)) hkr0 ⟨.inl ⟨hw, hv⟩, hab⟩ h3
    · have hsame : ∀ i, i ∈ Region.ready .any ops.toArray listed → i ∈ Region.ready .any (plus ks t ops).toArray listed := by
        intro i hi
        obtain ⟨hun, o, ho, hdeps⟩ := mem_ready.1 hi
        have ho : ops[i]? = some o := by simpa using ho
        refine mem_ready.2 ⟨hun, plusO ks t i o, by rw [List.getElem?_toArray, plus_get, ho]; rfl, fun e he hb => ?_⟩
        rcases plusO_after he with h1 | ⟨hti, k, hkm, rfl⟩
        · exact hdeps e h1 hb
        · show listed.getD k false = true
          -- the least of the moves that is not done would be ready
          have hil := (List.getElem?_eq_some_iff.1 ho).1
          have hisz : i < listed.size := by
            rcases Nat.lt_or_ge i listed.size with h' | h'
            · exact h'
            · simp [Array.getElem?_eq_none h'] at hun
          induction k using Nat.strongRecOn with
          | _ k ihk =>
            cases hlk : listed.getD k false with
            | true => rfl
            | false =>
              exfalso
              obtain ⟨hkt, ok, hok, hmv, hgu, hda⟩ := hkk k hkm
              refine hk ⟨k, hkm, mem_ready.2 ⟨?_, plusO ks t k ok, by rw [List.getElem?_toArray, plus_get, hok]; rfl, fun e' he' hb' => ?_⟩⟩
              · have : k < listed.size := by omega
                simp [this] at hlk ⊢; exact hlk
              · rcases plusO_after he' with h1 | ⟨h1, _⟩
                · rcases hda e' h1 hb' with h2 | h2
                  · exact ihk e'.on (hback k ok hok e' h1 hb') h2 (by unfold plusO; rw [show Nat.ble t i = true from Nat.ble_eq_true_of_le hti]; exact Array.mem_append.2 (.inr (by simp; exact h2))) (by rfl)
                  · exact reach_listed hc hback (h2 i hti hil) (fun o'' ho'' => by rw [ho] at ho''; cases ho''; exact hdeps)
                · omega
      have hless : ∀ i, i ∈ Region.ready .any (plus ks t ops).toArray listed → i ∈ Region.ready .any ops.toArray listed := by
        intro i hi
        obtain ⟨hun, o, ho, hdeps⟩ := mem_ready.1 hi
        obtain ⟨o0, h0, rfl⟩ := hget i o ho
        exact mem_ready.2 ⟨hun, o0, by simpa using h0, fun e he hb => hdeps e (plusO_more he) hb⟩
      refine ⟨fun hr => h.1 ?_, fun i hi => ?_⟩
      · cases hr' : Region.ready .any (plus ks t ops).toArray listed with
        | nil => rfl
        | cons j l => have := hless j (by rw [hr']; simp); rw [hr] at this; cases this
      · have h1 := plus_wpOp.1 (h.2 i (hsame i hi))
        obtain ⟨hun, o, ho, hdeps⟩ := mem_ready.1 hi
        exact wpOpIn_mono (fun a' w' h2 => ih _ a' w' (hclosed hc (fun o' ho' => by rw [show ops[i]? = some o by simpa using ho] at ho'; cases ho'; exact hdeps)) h2) h1

/-- A drawn region whose moves ks are done ahead of the operations from t on. -/
theorem CW.drawPlus (ks : List Nat) (t : Nat) {id : Nat} {E : Env} {w : World} (hm : P.follows .mixedOrders = true) (hok : plusOK ks t ops = true) (hQ : PanQ Q) (h : ∀ W, Below w.heap.size w W → RW P none Q N ds (plus ks t ops) 0 E W) : CW P none Q N ds (.region id ops.toArray true) E w := by
  intro a ha
  refine wpIn_region_any hm ?_
  have e : ops.toArray.size = ops.length := by simp
  rw [e]
  have hl : (plus ks t ops).length = ops.length := by
    have : ∀ (os : List Oper) (j : Nat), (plusL ks t j os).length = os.length := by
      intro os
      induction os with
      | nil => intro j; rfl
      | cons o os ih => intro j; simp [plusL, ih]
    exact this ops 0
  refine any_plus hok hQ _ _ _ _ (fun k o hk hl => by have hkl := (List.getElem?_eq_some_iff.1 hk).1; simp [hkl] at hl) ?_
  exact h { w with drawn := w.drawn + 1 } ⟨rfl, rfl, rfl, Nat.le_refl _, fun _ _ => rfl⟩ a ha (Array.replicate ops.length false) _ (by simp [hl]) (fun k hk => by rw [hl] at hk; simp [hk]) (by omega)

/-- An operation that looks at no memory, though others need not wait for it. -/
theorem RW.pure {E : Env} {w : World} {s : Nat} {o : Oper} {v : Value} (hlex : lexOK ops = true) (hsel : Region.noSelect ops.toArray = true) (hQ : PanQ Q) (ho : ops[s]? = some o) (hd : okDst N o.dst = true) (hgu : o.guard = none) (hnc : ∀ c, o.op ≠ .call c)
    (hrun : ∀ a w, Fit N ds E a → (execOp a.eval o).run P w = .ok (.value v) w) (next : RW P none Q N ds ops (s + 1) (ins E o.dst none v) w) : RW P none Q N ds ops s E w := by
  have hsl : s < ops.length := (List.getElem?_eq_some_iff.1 ho).1
  intro a ha listed fuel hsz hls hfu
  obtain ⟨fuel, rfl⟩ : ∃ f, fuel = f + 1 := ⟨fuel - 1, by omega⟩
  have hdeps : ∀ e ∈ o.after, Region.binds .any e = true → listed.getD e.on false = true := by
    intro e he hb
    have := (lexOK_spec hlex ho ho).1 e he hb
    rw [hls e.on (by omega)]
    simp; omega
  have hun : listed.getD s true = false := by
    have h1 := hls s hsl
    have : s < listed.size := by omega
    simp [this] at h1 ⊢; exact h1
  have hr : s ∈ Region.ready .any ops.toArray listed := mem_ready.2 ⟨hun, o, by simpa using ho, hdeps⟩
  refine wpAnyIn_first (v := v) rfl (by simpa using ho) (Region.noSelect_spec hsel) (fun c a w hq => hQ c a _ _ w hq) fuel listed a w (fun j oj hj => free_of_lex hlex ho hdeps j oj (by simpa using hj)) hr
    ⟨.inl ⟨by unfold Region.wanted; rw [hgu], fun w' => hrun a w' ha⟩, fun w' => ?_⟩ ?_
  · unfold Oper.about
    split
    · rename_i c hc; exact absurd hc (hnc c)
    · rfl
  · refine next _ (ha.put hd (fun _ => rfl) (fun h => absurd trivial h)) _ _ (by simp [hsz]) (fun k hk => ?_) (by omega)
    by_cases hks : s = k
    · subst hks
      have : s < listed.size := by omega
      simp [this]
    · rw [getD_set_ne false hks, hls k hk]
      by_cases h1 : k < s
      · simp [h1]; omega
      · simp [h1]; omega
end
end Go.PF
namespace Go.PF
open Go.RowKit
theorem Sats.six {e1 e2 e3 e4 e5 e6 : Ent} {vs : List Value} {w : World} (h : Sats [e1, e2, e3, e4, e5, e6] vs w) : ∃ a b c d e f, vs = [a, b, c, d, e, f] ∧ e1.sat a w ∧ e2.sat b w ∧ e3.sat c w ∧ e4.sat d w ∧ e5.sat e w ∧ e6.sat f w := by
  match vs, h with
  | [a, b, c, d, e, f], ⟨h1, h2, h3, h4, h5, h6, _⟩ => exact ⟨a, b, c, d, e, f, rfl, h1, h2, h3, h4, h5, h6⟩
theorem Sats.seven {e1 e2 e3 e4 e5 e6 e7 : Ent} {vs : List Value} {w : World} (h : Sats [e1, e2, e3, e4, e5, e6, e7] vs w) : ∃ a b c d e f g, vs = [a, b, c, d, e, f, g] ∧ e1.sat a w ∧ e2.sat b w ∧ e3.sat c w ∧ e4.sat d w ∧ e5.sat e w ∧ e6.sat f w ∧ e7.sat g w := by
  match vs, h with
  | [a, b, c, d, e, f, g], ⟨h1, h2, h3, h4, h5, h6, h7, _⟩ => exact ⟨a, b, c, d, e, f, g, rfl, h1, h2, h3, h4, h5, h6, h7⟩
/-- a variable made somewhere in a drawn region -/
def Made (w0 : World) (t : TypeId) (cs : List Value) (v : Value) (w : World) : Prop := ∃ g, v = .pointer (some ⟨g, 0, none⟩) ∧ w0.heap.size ≤ g ∧ Blk w g t cs
theorem Made.mono (w0 : World) (t : TypeId) (cs : List Value) : Ent.mono (.pr (Made w0 t cs)) := fun _ _ _ hb ⟨g, hv, hg, hB⟩ => ⟨g, hv, hg, hB.next hb⟩
theorem DW.allocP {P : Program} {N : Nat} {ds : List Deferred} {ops rest : List Oper} {D : DE} {w : World} {Fin : DE → Prop} {d : Option Tmp} {ty : TypeId} {pos : String} {af : Array Edge} {t : TypeId} {cs : List Value} (hd : okDst N d = true) (hz : zeroCells P t = some cs)
    (next : DW P N ds .weak ops w Fin rest (dins D d none (.pr (Made w t cs)))) : DW P N ds .weak ops w Fin (⟨d, .alloc t, ty, pos, af, none⟩ :: rest) D := by
  refine DW.gen (G := none) rfl hd rfl (Made.mono w t cs) (fun hG a w' hb ha => ?_) next
  refine ⟨.pointer (some ⟨w'.heap.size, 0, none⟩), w'.alloc (.cells cs.toArray t), ?_, below_alloc w' _, w'.heap.size, rfl, hb.size, Blk.new w' t cs⟩
  unfold zeroCells at hz
  cases hi : P.info? t with
  | none => simp [hi] at hz
  | some i =>
    cases hzz : i.zero with
    | none => simp [hi, hzz] at hz
    | some zv =>
      simp [hi, hzz] at hz
      simp [execOp, Instr.alloc, zeroValue, typeInfo, hi, hzz, Go.newVar, newRow, ← hz]
end Go.PF
namespace Go.PF
open Go.RowKit
/-- the cell of an owned row of cells -/
theorem OwnS.cell1 {w : World} {e : TypeId} {n c g j : Nat} {xs : List Value} {u : Value} (h : OwnS w e 1 (.slice (some ⟨g, 0, none⟩) n c) n xs) (hj : xs[j]? = some u) : w.cell? (Addr.add ⟨g, 0, none⟩ j) = some u := by
  obtain ⟨A, cap, hv, _, _, hc⟩ := h.form
  obtain ⟨g', hA, hown', hcell, hfr⟩ := hc j u hj
  simp [Value.ownBlock] at hown'
  subst hown'
  rw [addr0]
  exact hcell
theorem OwnS.addr {w : World} {e : TypeId} {n c : Nat} {A : Option Addr} {xs : List Value} (h : OwnS w e 1 (.slice A n c) n xs) (hn : 0 < xs.length) : ∃ g, A = some ⟨g, 0, none⟩ := by
  obtain ⟨A', cap, hv, _, _, hc⟩ := h.form
  obtain ⟨g', hA, _⟩ := hc 0 xs[0] (List.getElem?_eq_getElem hn)
  simp only [Value.slice.injEq] at hv
  rw [hv.1, hA]
  exact ⟨g', rfl⟩
end Go.PF

/- Owned rows whose cells stand for data, read as lists; predicates handed over as functions. -/
namespace Go.PF
open Go.RowKit
variable {α : Type}

theorem flatP_at (n : Nat) : ∀ (ps : List (List Value × α)), (∀ p ∈ ps, p.1.length = n) → ∀ (i j : Nat) (p : List Value × α), ps[i]? = some p → j < n → (ps.flatMap (·.1))[i * n + j]? = p.1[j]? :=
  fun ps h i j p hp hj => flat_at (fun p : List Value × α => p.1) n ps h i j p hp hj

/-- An owned row read as a list: the cells of each element are at hand. -/
theorem OwnS.toSLp {T : Ty α} {F : Nat → Prop} {w : World} {e : TypeId} {v : Value} {n : Nat} (ps : List (List Value × α)) (hr : ∀ p ∈ ps, T.rep F w p.1 p.2) (h0 : 0 < T.n) (h : OwnS w e T.n v n (ps.flatMap (·.1))) (hn : n = ps.length) (hF : ∀ g, v.ownBlock = some g → F g) (hb : ps.length ≤ 9223372036854775807) : SL T F w v (ps.map (·.2)) := by
  subst hn
  have hlen : ∀ p ∈ ps, p.1.length = T.n := fun p hp => T.len _ _ _ _ (hr p hp)
  obtain ⟨A, cap, hv, h1, h2, h3⟩ := h.form
  refine ⟨A, cap, by simpa using hv, by simpa using h1, by simpa using hb, fun i x hx => ?_⟩
  have hi : i < ps.length := by have := (List.getElem?_eq_some_iff.1 hx).1; simpa using this
  have hpi : ps[i]? = some ps[i] := List.getElem?_eq_getElem hi
  have hx' : ps[i].2 = x := by simp [hpi] at hx; exact hx
  have hl := hlen _ (List.getElem_mem hi)
  obtain ⟨u0, hu0⟩ : ∃ u, ps[i].1[0]? = some u := ⟨ps[i].1[0]'(by omega), List.getElem?_eq_getElem (by omega)⟩
  have h00 := flatP_at T.n ps hlen i 0 _ hpi h0
  rw [hu0] at h00
  obtain ⟨g, hA, hown, _⟩ := h3 _ _ h00
  refine ⟨⟨g, 0, none⟩, ps[i].1, hA, hF g hown, fun j u hj => ?_, by rw [← hx']; exact hr _ (List.getElem_mem hi)⟩
  have hjn : j < T.n := by rw [← hl]; exact (List.getElem?_eq_some_iff.1 hj).1
  obtain ⟨g', hA', _, hc, _⟩ := h3 (i * T.n + j) u (by rw [flatP_at T.n ps hlen i j _ hpi hjn]; exact hj)
  rw [hA] at hA'
  simp only [Option.some.injEq, Addr.mk.injEq] at hA'
  obtain ⟨rfl, _, _⟩ := hA'
  rw [add_add, addr0]
  exact hc

/-- What is read lies in blocks that are there, and in those of F. -/
structure Ty.Nb {α : Type} (T : Ty α) : Prop where
  pos : 0 < T.n
  nb : ∀ F w cs x, T.rep F w cs x → T.rep (fun k => F k ∧ k < w.heap.size) w cs x
theorem Ty.Nb.now {T : Ty α} (h : T.Nb) : T.Now := ⟨h.pos, fun F w cs x hr => T.wider _ _ _ _ _ (fun _ hb => hb.2) (h.nb F w cs x hr)⟩
theorem intT_nb : Ty.Nb intT := ⟨by decide, fun _ _ _ _ h => h⟩
theorem SL.nb {T : Ty α} (hT : T.Nb) {F : Nat → Prop} {w : World} {v : Value} {l : List α} (h : SL T F w v l) : SL T (fun k => F k ∧ k < w.heap.size) w v l := by
  obtain ⟨A, cap, rfl, h1, h2, h3⟩ := h
  refine ⟨A, cap, rfl, h1, h2, fun i x hx => ?_⟩
  obtain ⟨ad, cs, ha, hF, hc, hr⟩ := h3 i x hx
  refine ⟨ad, cs, ha, ⟨hF, ?_⟩, hc, hT.nb _ _ _ _ hr⟩
  have hl := T.len _ _ _ _ hr
  have h0 : 0 < cs.length := by rw [hl]; exact hT.pos
  have := block_lt_of_cell (hc 0 cs[0] (List.getElem?_eq_getElem h0))
  rwa [add_block, add_block] at this
theorem sliceT_nb {T : Ty α} (hT : T.Nb) : Ty.Nb (sliceT T) := ⟨by show 0 < 1; decide, fun F w cs x ⟨v, h1, h2⟩ => ⟨v, h1, SL.nb hT h2⟩⟩

/-- the blocks of before, but the row's own -/
def RowF (w : World) (v : Value) (k : Nat) : Prop := k < w.heap.size ∧ v.ownBlock ≠ some k
/-- An owned row, made by the call: its elements stand for data that lies apart from it. -/
def RowL (T : Ty α) (w : World) (e : TypeId) (b : Nat) (v : Value) (ps : List (List Value × α)) : Prop := OwnS w e T.n v ps.length (ps.flatMap (·.1)) ∧ (∀ p ∈ ps, T.rep (RowF w v) w p.1 p.2) ∧ ∀ g, v.ownBlock = some g → b ≤ g
theorem RowL.nil (T : Ty α) (w : World) (e : TypeId) (b : Nat) : RowL T w e b (.slice none 0 0) [] := ⟨OwnS.nil _ _ _, (fun p hp => by cases hp), fun g h => by simp [Value.ownBlock] at h⟩
theorem RowL.big {T : Ty α} {w : World} {e : TypeId} {b : Nat} {v : Value} {ps : List (List Value × α)} (h : RowL T w e b v ps) : ps.length ≤ 9223372036854775807 := by
  rcases h.1.2 with ⟨rfl, h0⟩ | ⟨g, cap, cur, hv, hg, hh, ha, hb, hc, hd⟩
  · omega
  · simp only [maxLen] at hb
    omega
theorem RowL.sl {T : Ty α} (h0 : 0 < T.n) {w : World} {e : TypeId} {b : Nat} {v : Value} {ps : List (List Value × α)} (h : RowL T w e b v ps) : SL T (fun k => k < w.heap.size) w v (ps.map (·.2)) :=
  OwnS.toSLp ps (fun p hp => T.wider _ _ _ _ _ (fun _ hb => hb.1) (h.2.1 p hp)) h0 h.1 rfl (fun g hg => h.1.lt hg) h.big
theorem RowL.form {T : Ty α} {w : World} {e : TypeId} {b : Nat} {v : Value} {ps : List (List Value × α)} (h : RowL T w e b v ps) : ∃ A cap, v = .slice A ps.length cap := by
  obtain ⟨A, cap, hv, _⟩ := h.1.form
  exact ⟨A, cap, hv⟩
theorem RowL.step {T : Ty α} {w w' : World} {e : TypeId} {b : Nat} {v : Value} {ps : List (List Value × α)} (h : RowL T w e b v ps) (hb : Below w.heap.size w w') : RowL T w' e b v ps :=
  ⟨h.1.below hb, fun p hp => T.wider _ _ _ _ _ (fun k hk => ⟨Nat.lt_of_lt_of_le hk.1 hb.size, hk.2⟩) (T.mono _ _ _ _ _ (Kept.of_below hb) (h.2.1 p hp)), h.2.2⟩
theorem RowL.less {T : Ty α} {w : World} {e : TypeId} {b b' : Nat} {v : Value} {ps : List (List Value × α)} (h : RowL T w e b v ps) (hb : b' ≤ b) : RowL T w e b' v ps := ⟨h.1, h.2.1, fun g hg => Nat.le_trans hb (h.2.2 g hg)⟩
theorem RowL.app {T : Ty α} {w w' : World} {e : TypeId} {b : Nat} {v v' : Value} {ps : List (List Value × α)} {cs : List Value} {x : α} (h : RowL T w e b v ps) (hO : OwnS w' e T.n v' (ps.length + 1) (ps.flatMap (·.1) ++ cs)) (hg : w.grownBy w' v.ownBlock) (hn : v'.ownBlock = v.ownBlock ∨ v'.ownBlock = some w.heap.size)
    (hr : T.rep (RowF w v) w cs x) (hb : b ≤ w.heap.size) : RowL T w' e b v' (ps ++ [(cs, x)]) := by
  have hk : Kept (RowF w v) w w' := Kept.of_blocks fun k hk hlt => hg.block k hlt (fun e => hk.2 e.symm)
  have hw : ∀ k, RowF w v k → RowF w' v' k := fun k hk => ⟨Nat.lt_of_lt_of_le hk.1 hg.size, fun e => by
    rcases hn with h' | h'
    · exact hk.2 (by rw [← h']; exact e)
    · rw [h'] at e; cases e; exact absurd hk.1 (Nat.lt_irrefl _)⟩
  refine ⟨by rw [List.flatMap_append, List.length_append]; simpa using hO, fun p hp => ?_, fun q hq => ?_⟩
  · rcases List.mem_append.1 hp with hp | hp
    · exact T.wider _ _ _ _ _ hw (T.mono _ _ _ _ _ hk (h.2.1 p hp))
    · rw [List.mem_singleton] at hp
      subst hp
      exact T.wider _ _ _ _ _ hw (T.mono _ _ _ _ _ hk hr)
  · rcases hn with h' | h'
    · exact h.2.2 q (by rw [← h']; exact hq)
    · rw [h'] at hq; cases hq; exact hb

/-- a function value that answers p of a number, in whatever world that extends w -/
def PredI (P : Program) (w : World) (k : FuncId) (caps : List Value) (p : Int → Bool) : Prop := ∀ x w', Below w.heap.size w w' → Gives P k (.int .i64 x :: caps).toArray w' fun u w'' => Below w'.heap.size w' w'' ∧ u = .bool (p x)
theorem PredI.step {P : Program} {w w' : World} {k : FuncId} {caps : List Value} {p : Int → Bool} (h : PredI P w k caps p) (hb : Below w.heap.size w w') : PredI P w' k caps p := fun x w2 h2 => h x w2 (hb.step h2)
end Go.PF

/- The cells of a slice, one after another: what an append of a whole slice copies. -/
namespace Go.PF
open Go.RowKit
variable {α : Type}

theorem len_flat {β : Type} (f : β → List Value) (n : Nat) : ∀ (ps : List β), (∀ p ∈ ps, (f p).length = n) → (ps.flatMap f).length = ps.length * n
  | [], _ => by simp
  | p :: ps, h => by
    rw [List.flatMap_cons, List.length_append, len_flat f n ps (fun q hq => h q (List.mem_cons_of_mem _ hq)), h p (List.mem_cons_self ..), List.length_cons, Nat.add_mul]
    omega
theorem SL.flat {T : Ty α} (h0 : 0 < T.n) {F : Nat → Prop} {w : World} {A : Option Addr} {n cap : Nat} {l : List α} (h : SL T F w (.slice A n cap) l) :
    ∃ ps : List (List Value × α), ps.map (·.2) = l ∧ (∀ p ∈ ps, T.rep F w p.1 p.2) ∧ (ps.flatMap (·.1)).length = n * T.n ∧ ∀ j u, (ps.flatMap (·.1))[j]? = some u → ∃ ad, A = some ad ∧ w.cell? (ad.add j) = some u := by
  obtain ⟨A', cap', hv, h1, h2, h3⟩ := h
  simp only [Value.slice.injEq] at hv
  obtain ⟨rfl, rfl, rfl⟩ := hv
  have key : ∀ (k : Nat), k ≤ l.length → ∃ ps : List (List Value × α), ps.map (·.2) = l.take k ∧ (∀ p ∈ ps, T.rep F w p.1 p.2) ∧ ∀ i p, ps[i]? = some p → ∃ ad, A = some ad ∧ ∀ j u, p.1[j]? = some u → w.cell? ((ad.add (i * T.n)).add j) = some u := by
    intro k
    induction k with
    | zero => exact fun _ => ⟨[], by simp, (fun p hp => by cases hp), (fun i p hp => by simp at hp)⟩
    | succ k ih =>
      intro hk
      obtain ⟨ps, q1, q2, q3⟩ := ih (by omega)
      have hx : l[k]? = some l[k] := List.getElem?_eq_getElem (by omega)
      obtain ⟨ad, cs, ha, _, hc, hr⟩ := h3 k _ hx
      have hpl : ps.length = k := by have := congrArg List.length q1; simp at this; omega
      refine ⟨ps ++ [(cs, l[k])], by rw [List.map_append, q1, List.take_add_one, hx]; rfl, fun p hp => ?_, fun i p hp => ?_⟩
      · rcases List.mem_append.1 hp with hp | hp
        · exact q2 p hp
        · rw [List.mem_singleton] at hp; subst hp; exact hr
      · rcases Nat.lt_trichotomy i k with hi | hi | hi
        · rw [List.getElem?_append_left (by omega)] at hp
          exact q3 i p hp
        · rw [List.getElem?_append_right (by omega), hpl, hi] at hp
          simp at hp
          subst hp
          subst hi
          exact ⟨ad, ha, hc⟩
        · rw [List.getElem?_eq_none (by simp; omega)] at hp
          cases hp
  obtain ⟨ps, q1, q2, q3⟩ := key l.length (Nat.le_refl _)
  rw [List.take_length] at q1
  have hlen : ∀ p ∈ ps, p.1.length = T.n := fun p hp => T.len _ _ _ _ (q2 p hp)
  have hpl : ps.length = l.length := by rw [← q1]; simp
  have hfl : (ps.flatMap (·.1)).length = ps.length * T.n := by
    exact len_flat (fun p : List Value × α => p.1) T.n ps hlen
  refine ⟨ps, q1, q2, by rw [hfl, hpl], fun j u hj => ?_⟩
  have hjl : j < ps.length * T.n := by rw [← hfl]; exact (List.getElem?_eq_some_iff.1 hj).1
  have hd := Nat.div_add_mod' j T.n
  have hm := Nat.mod_lt j h0
  have hi : j / T.n < ps.length := (Nat.div_lt_iff_lt_mul h0).2 hjl
  have hp : ps[j / T.n]? = some ps[j / T.n] := List.getElem?_eq_getElem hi
  have hf := flatP_at T.n ps hlen (j / T.n) (j % T.n) _ hp hm
  rw [hd, hj] at hf
  obtain ⟨ad, ha, hc⟩ := q3 _ _ hp
  refine ⟨ad, ha, ?_⟩
  have := hc (j % T.n) u hf.symm
  rwa [add_add, hd] at this

theorem SL.takeS {T : Ty α} {F : Nat → Prop} {w : World} {A : Option Addr} {n c : Nat} {l : List α} (h : SL T F w (.slice A n c) l) {i : Nat} (hi : i ≤ l.length) : SL T F w (.slice A i c) (l.take i) := by
  obtain ⟨A', cap', hv, h1, h2, h3⟩ := h
  simp only [Value.slice.injEq] at hv
  obtain ⟨rfl, rfl, rfl⟩ := hv
  refine ⟨A, c, by simp [Nat.min_eq_left hi], by simp; omega, by simp; omega, fun k x hx => ?_⟩
  rw [List.getElem?_take] at hx
  split at hx
  · exact h3 k x hx
  · cases hx

/-- every cell of T's is one cell -/
def Ty.One (T : Ty α) : Prop := ∀ F w cs x, T.rep F w cs x → ∀ u ∈ cs, Value.oneCell' u = true
theorem intT_one : Ty.One intT := fun _ _ _ _ h u hu => by rw [h.1] at hu; simp at hu; subst hu; rfl
theorem boolT_one : Ty.One boolT := fun _ _ _ _ h u hu => by rw [h] at hu; simp at hu; subst hu; rfl
theorem sliceT_one (T : Ty α) : Ty.One (sliceT T) := fun _ _ _ _ ⟨_, h, A, cap, hv, _⟩ u hu => by rw [h] at hu; simp at hu; subst hu; rw [hv]; rfl
theorem one_flat {T : Ty α} (hT : T.One) {F : Nat → Prop} {w : World} {ps : List (List Value × α)} (h : ∀ p ∈ ps, T.rep F w p.1 p.2) : ∀ u ∈ ps.flatMap (·.1), Value.oneCell' u = true := fun u hu => by
  obtain ⟨p, hp, hup⟩ := List.mem_flatMap.1 hu
  exact hT _ _ _ _ (h p hp) u hup

/-- A row made by appending slices, read as the lists one after another: 'b': what is older has not turned. -/
theorem OwnS.toSLn {T : Ty α} (h0 : 0 < T.n) {w0 w : World} {e : TypeId} {v : Value} {n : Nat} {F : Nat → Prop} (hb : Below w0.heap.size w0 w) {ps : List (List Value × α)} (hr : ∀ p ∈ ps, T.rep F w0 p.1 p.2) (h : OwnS w e T.n v n (ps.flatMap (·.1))) (hn : n = ps.length) (hbig : ps.length ≤ 9223372036854775807) :
    SL T (fun k => F k ∨ v.ownBlock = some k) w v (ps.map (·.2)) :=
  OwnS.toSLp ps (fun p hp => T.wider _ _ _ _ _ (fun _ hk => .inl hk) (T.mono _ _ _ _ _ (Kept.of_below hb) (hr p hp))) h0 h hn (fun _ hg => .inr hg) hbig

theorem look_app : ∀ {E E' : Env} {i : Nat} {c : Option Bool} {v : Value}, look (E ++ E') i = some (c, v) → look E i = some (c, v) ∨ look E' i = some (c, v)
  | [], _, _, _, _, h => .inr h
  | (j, c0, v0) :: E, E', i, c, v, h => by
    simp only [List.cons_append, look] at h ⊢
    by_cases hi : j = i
    · subst hi
      rw [beq_self] at h ⊢
      exact .inl h
    · rw [beq_ne hi] at h ⊢
      exact look_app h
/-- The region's end: slots whose values are known, and slots of which something is known. -/
theorem DW.finX {N : Nat} {ds : List Deferred} {D : DE} {w : World} {K : Act → World → Prop} (ks : List Nat) (E : Env) (hE : dpick D ks = some E) (is : List Nat) {es : List Ent} (hp : dsel D is = some es) (h : ∀ vs w', Below w.heap.size w w' → Sats es vs w' → KW N ds K (E ++ zipE is vs) w') :
    ∀ a w', Below w.heap.size w w' → FitD N ds D a w' → K a w' :=
  fun a w' hb ha => h _ w' hb (ha.sel hp) a ⟨ha.size, ha.defers, fun i c v hl => (look_app hl).elim ((ha.pick hE).slots i c v) ((ha.zip is).slots i c v)⟩

/-! ### conditions that are known to hold -/
def sureC : Option Bool → Option Bool
  | some true => none
  | c => c
def sure : Env → Env
  | [] => []
  | (i, c, v) :: E => (i, sureC c, v) :: sure E
theorem sureC_iff (c : Option Bool) : Cnd (sureC c) ↔ Cnd c := by
  rcases c with _ | _ | _ <;> simp [sureC, Cnd]
theorem look_sure : ∀ {E : Env} {i : Nat} {c : Option Bool} {v : Value}, look (sure E) i = some (c, v) → ∃ c', look E i = some (c', v) ∧ sureC c' = c
  | [], _, _, _, h => by cases h
  | (j, c0, v0) :: E, i, c, v, h => by
    simp only [sure, look] at h ⊢
    by_cases hi : j = i
    · subst hi
      rw [beq_self] at h ⊢
      simp only [Option.some.injEq, Prod.mk.injEq] at h ⊢
      obtain ⟨h1, h2⟩ := h
      exact ⟨c0, ⟨rfl, h2⟩, h1⟩
    · rw [beq_ne hi] at h ⊢
      exact look_sure h
theorem Fit.sure {N : Nat} {ds : List Deferred} {E : Env} {a : Act} (h : Fit N ds E a) : Fit N ds (PF.sure E) a :=
  ⟨h.size, h.defers, fun i c v hl => by
    obtain ⟨c', h1, rfl⟩ := look_sure hl
    rw [sureC_iff]
    exact h.slots i c' v h1⟩
end Go.PF

/- The count of drawn answers never falls: operations, and rules that keep it in sight. -/
namespace Go.PF
open Go.RowKit

theorem viewStore_drawn {p : Program} {w : World} {at_ : Addr} {u : TypeId} {k : Addr} {v : Value} {b : Bool} {r : World × List Addr} (h : w.viewStore p at_ u k v b = .ok r) : r.1.drawn = w.drawn := by
  unfold World.viewStore at h
  simp only [bind, Except.bind, pure, Except.pure] at h
  repeat' split at h
  all_goals first
    | (cases h; done)
    | (simp only [Except.ok.injEq] at h; subst h; rfl)
    | (simp at h; done)
theorem farStore_drawn {p : Program} {w : World} {a : Addr} {v : Value} {b : Bool} {r : World × List Addr} (h : w.farStore p a v b = .ok r) : r.1.drawn = w.drawn := by
  unfold World.farStore at h
  split at h
  · split at h
    · rename_i hr
      simp only [Except.ok.injEq] at h
      subst h
      exact viewStore_drawn hr
    · cases h
  · cases h
theorem ask_drawn {α : Type} (x : Ask α) : ∀ w : World, w.drawn ≤ (w.ask x).2.drawn := by
  induction x with
  | done a => intro w; exact Nat.le_refl _
  | ask what range k ih =>
    intro w
    unfold World.ask
    dsimp only
    split
    · exact ih _ w
    · exact Nat.le_trans (Nat.le_succ _) (ih _ { w with drawn := w.drawn + 1 })
theorem sys_drawn (w : World) (c : Sys) : w.drawn ≤ (w.sys c).2.drawn := by
  unfold World.sys
  have h := ask_drawn (Kernel.perform c w.os) w
  split
  · exact Nat.le_refl _
  · rename_i r os w' heq hne
    rw [hne] at h
    exact h
theorem run_drawn {α : Type} {p : Program} (s : Sem α) : ∀ {w w' : World} {v : α}, s.run p w = .ok v w' → w.drawn ≤ w'.drawn := by
  induction s with
  | pure a => intro w w' v h; simp [Sem.run] at h; rw [h.2]; exact Nat.le_refl _
  | load m a k ih =>
    intro w w' v h
    unfold Sem.run at h
    split at h
    · exact ih _ h
    · split at h
      · exact ih _ h
      · cases h
  | store m a u k ih =>
    intro w w' v h
    cases u with
    | agg c => simp [Sem.run] at h
    | tuple c => simp [Sem.run] at h
    | _ =>
      simp only [Sem.run] at h
      split at h
      · split at h
        · cases h
        · have h2 := ih h
          exact h2
      · split at h
        · rename_i hf
          have h1 := farStore_drawn hf
          have h2 := ih h
          dsimp only at h1
          omega
        · cases h
  | new o k ih => intro w w' v h; exact ih _ (w := { w with heap := w.heap.push o }) h
  | shape r k ih => intro w w' v h; exact ih _ h
  | freeze a n k ih =>
    intro w w' v h
    have h1 := ih (w := w.freeze a n) h
    have h2 : (w.freeze a n).drawn = w.drawn := by unfold World.freeze; split <;> rfl
    omega
  | frozen a k ih => intro w w' v h; exact ih _ h
  | getObj r k ih =>
    intro w w' v h
    unfold Sem.run at h
    split at h
    · cases h
    · exact ih _ h
    · cases h
  | setObj r o k ih =>
    intro w w' v h
    unfold Sem.run at h
    split at h
    · cases h
    · exact ih (w := { w with heap := w.heap.setIfInBounds r o }) h
    · cases h
  | choose q k ih =>
    intro w w' v h
    unfold Sem.run at h
    split at h
    · exact ih _ h
    · exact Nat.le_trans (Nat.le_succ _) (ih _ (w := { w with drawn := w.drawn + 1 }) h)
  | sys c k ih =>
    intro w w' v h
    exact Nat.le_trans (sys_drawn w c) (ih _ h)
  | program k ih => intro w w' v h; exact ih _ h
  | mark m k ih => intro w w' v h; exact ih h
  | halt h => intro w w' v h; simp [Sem.run] at h

/-- an extension that has drawn no less -/
structure BelD (w w' : World) : Prop where
  b : Below w.heap.size w w'
  d : w.drawn ≤ w'.drawn
theorem BelD.refl (w : World) : BelD w w := ⟨Below.refl _ _, Nat.le_refl _⟩
theorem BelD.trans {a b c : World} (h : BelD a b) (h' : BelD b c) : BelD a c := ⟨h.b.step h'.b, Nat.le_trans h.d h'.d⟩
section
variable {P : Program} {r : Option Nat} {Q : Exit → Act → World → Prop} {N : Nat} {ds : List Deferred} {ops rest : List Oper} {E : Env} {w : World}
variable {d : Option Tmp} {ty : TypeId} {pos : String} {af : Array Edge} {gu : Option (Nat × Bool)} {x : Operand}
theorem TW.buildSliceD {t : TypeId} (e : TypeId) {sz len : Nat} {parts : Array (Nat × Operand)} (xs : List Operand) {vs cs : List Value} (hg : gu = none) (hd : okDst N d = true) (hp : parts.toList = number xs) (he : elemOK P t e sz = true) (hx : Args N ds E none xs vs) (hl : len = vs.length)
    (hv : vs.all (fun v => Nat.beq v.cells.size sz) = true) (hsm : Nat.ble (vs.length * sz) 16777216 = true) (hpos : Nat.blt 0 vs.length = true) (hcs : vs.flatMap (fun v => v.cells.toList) = cs)
    (next : ∀ g w', Fresh w w' g e cs → BelD w w' → TW P r Q N ds ops rest (ins E d none (.slice (some ⟨g, 0, none⟩) len len)) w') : TW P r Q N ds ops (⟨d, .buildSlice t len parts, ty, pos, af, gu⟩ :: rest) E w := by
  subst hl
  have hv' : ∀ v ∈ vs, v.cells.size = sz := fun v hm => Nat.eq_of_beq_eq_true (List.all_eq_true.1 hv v hm)
  refine TW.eff hg hd rfl (fun a ha => X.buildSlice hp rfl he (hx a ha trivial) hv' (Nat.le_of_ble_eq_true hsm) (blt_iff.1 hpos)) ?_
  rw [hcs]
  exact next _ _ (Fresh.mk' w e cs) ⟨below_alloc _ _, Nat.le_refl _⟩
theorem TW.appendD {t e : TypeId} {sz bytes n m c : Nat} {s : Operand} {v : Value} {xs : List Value} {A : Option Addr} (news : List Value) (hg : gu = none) (hd : okDst N d = true) (ho : growOK P t e sz bytes = true)
    (hs : ev E s = some (none, v)) (hown : OwnS w e sz v n xs) (hx : ev E x = some (none, .slice A m c)) (hl : news.length = m * sz) (hn : ∀ j u, news[j]? = some u → ∃ ad, A = some ad ∧ w.cell? (ad.add j) = some u) (h1 : ∀ u ∈ news, u.oneCell' = true)
    (hb : (n + m) * bytes ≤ 140737488355328) (hb0 : 1 ≤ bytes)
    (next : ∀ v' w', OwnS w' e sz v' (n + m) (xs ++ news) → w.grownBy w' v.ownBlock → (v'.ownBlock = v.ownBlock ∨ v'.ownBlock = some w.heap.size) → w.drawn ≤ w'.drawn → TW P r Q N ds ops rest (ins E d none v') w') :
    TW P r Q N ds ops (⟨d, .call ⟨.builtin .append, #[s, x], #[t, t]⟩, ty, pos, af, gu⟩ :: rest) E w := by
  obtain ⟨v', w', a1, a2, a3, a5⟩ := append_run (ty := ty) (c := c) ho hown hl hn h1 hb hb0
  refine TW.eff (v := v') (w' := w') hg hd rfl (fun a ha => ?_) (next v' w' a2 a3 a5 (run_drawn _ a1))
  simp only [execOp, resolve, Go.invoke, Go.builtin, Sem.run_bind, Sem.run_pure, Result.andThen_ok, List.map_toArray, List.map_cons, List.map_nil, ha.eval hs trivial, ha.eval hx trivial, a1]
theorem TW.boxD {t : TypeId} {vx : Value} {cs : List Value} (hg : gu = none) (hd : okDst N d = true) (hx : ev E x = some (none, vx)) (hv : vx.cells = cs.toArray)
    (next : ∀ g w', Fresh w w' g t cs → BelD w w' → TW P r Q N ds ops rest (ins E d none (.pointer (some ⟨g, 0, none⟩))) w') : TW P r Q N ds ops (⟨d, .box t x, ty, pos, af, gu⟩ :: rest) E w :=
  TW.eff (w' := w.alloc (.cells cs.toArray t)) hg hd rfl (fun a ha => by
    simp only [execOp]; rw [ha.eval hx trivial, ← hv]; rfl) (next _ _ (Fresh.mk' w t cs) ⟨below_alloc _ _, Nat.le_refl _⟩)
end
section
variable {P : Program} {N : Nat} {ds : List Deferred} {ops rest : List Oper} {D : DE} {w : World} {G : Option Bool} {Fin : DE → Prop}
variable {d : Option Tmp} {ty : TypeId} {pos : String} {af : Array Edge} {gu : Option (Nat × Bool)} {x : Operand} {cx : Option Bool}
theorem DW.callPC {f : Operand} {k : FuncId} {cap : List Value} {cf : Option Bool} {xs : List Operand} {es : List Ent} {ts : Array TypeId} (e : Ent) (hm : e.mono) (hg : dgd ops D gu = some G) (hd : okDst N d = true) (he : enters P k = true)
    (hf : dev D f = some (cf, .ex (.func (.func k) #[] cap.toArray))) (jf : Cnd G → Cnd cf) (hv : PArgs (Oper.looksAt ops.toArray ⟨d, .call ⟨.value f, xs.toArray, ts⟩, ty, pos, af, gu⟩) N ds D G xs es)
    (hc : Cnd G → ∀ w', Below w.heap.size w w' → ∀ vs, Sats es vs w' → Gives P k (vs ++ cap).toArray w' fun v w'' => BelD w' w'' ∧ e.sat v w'')
    (next : DW P N ds .cnt ops w Fin rest (dins D d G e)) : DW P N ds .cnt ops w Fin (⟨d, .call ⟨.value f, xs.toArray, ts⟩, ty, pos, af, gu⟩ :: rest) D :=
  ⟨G, e, ⟨hg, hd, rfl, hm, fun hG a w' hb ha => .inr ⟨_, _, X.call he (ha.eval (o := ⟨d, .call ⟨.value f, xs.toArray, ts⟩, ty, pos, af, gu⟩) hf (by simp [Op.operands, Call.operands]) (jf hG)) rfl,
    (hc hG w' hb _ (hv (fun t ht => mem_looks (by simp [Op.operands, Call.operands, ht])) a w' ha hG)).mono fun v w'' ⟨h1, h2⟩ => ⟨⟨h1.b, h1.d⟩, h2⟩⟩⟩, next⟩
theorem DW.finC {K : Act → World → Prop} (is : List Nat) (E : Env) (hp : dpick D is = some E) (h : ∀ w', BelD w w' → KW N ds K E w') : ∀ a w', Below w.heap.size w w' ∧ w.drawn ≤ w'.drawn → FitD N ds D a w' → K a w' :=
  fun a w' hb ha => h w' ⟨hb.1, hb.2⟩ a (ha.pick hp)
end
end Go.PF

/- Drawn regions: conditions that are known to hold are dropped. -/
namespace Go.PF
open Go.RowKit

def DEq (D D' : DE) : Prop := ∀ i, (dlook D i = none ∧ dlook D' i = none) ∨ ∃ c c' e, dlook D i = some (c, e) ∧ dlook D' i = some (c', e) ∧ (Cnd c ↔ Cnd c')
theorem DEq.symm {D D' : DE} (h : DEq D D') : DEq D' D := fun i => by
  rcases h i with ⟨h1, h2⟩ | ⟨c, c', e, h1, h2, h3⟩
  · exact .inl ⟨h2, h1⟩
  · exact .inr ⟨c', c, e, h2, h1, h3.symm⟩
theorem slotOK_congr {c c' : Option Bool} {e : Ent} {u : Value} {w : World} (hc : Cnd c ↔ Cnd c') (h : slotOK c e u w) : slotOK c' e u w := ⟨fun q => h.1 (hc.2 q), fun q => h.2 (fun p => q (hc.1 p))⟩
theorem DEq.fitL {N : Nat} {ds : List Deferred} {L : List Nat} {D D' : DE} {a : Act} {w : World} (h : DEq D D') (hf : FitL N ds L D a w) : FitL N ds L D' a w :=
  ⟨hf.size, hf.defers, fun i hi c e hl => by
    rcases h i with ⟨_, h2⟩ | ⟨c1, c2, e', h1, h2, h3⟩
    · rw [h2] at hl; cases hl
    · rw [h2] at hl; cases hl
      exact slotOK_congr h3 (hf.slots i hi c1 e h1)⟩
theorem DEq.fitD {N : Nat} {ds : List Deferred} {D D' : DE} {a : Act} {w : World} (h : DEq D D') (hf : FitD N ds D a w) : FitD N ds D' a w :=
  ⟨hf.size, hf.defers, fun i c e hl => by
    rcases h i with ⟨_, h2⟩ | ⟨c1, c2, e', h1, h2, h3⟩
    · rw [h2] at hl; cases hl
    · rw [h2] at hl; cases hl
      exact slotOK_congr h3 (hf.slots i c1 e h1)⟩
theorem DEq.gd {ops : List Oper} {D D' : DE} (h : DEq D D') {g : Option (Nat × Bool)} {G' : Option Bool} (hg : dgd ops D' g = some G') : ∃ G, dgd ops D g = some G ∧ (Cnd G ↔ Cnd G') := by
  cases g with
  | none => exact ⟨G', hg, Iff.rfl⟩
  | some p =>
    obtain ⟨j, want⟩ := p
    simp only [dgd] at hg ⊢
    cases hd : (ops[j]?).bind (·.dst) with
    | none => rw [hd] at hg; simp at hg
    | some d =>
      rw [hd] at hg
      simp only at hg ⊢
      rcases h d with ⟨_, h2⟩ | ⟨c, c', e, h1, h2, h3⟩
      · rw [h2] at hg; simp at hg
      · rw [h2] at hg
        rw [h1]
        cases e with
        | pr φ => rcases c' with _ | c' <;> simp at hg
        | own φ S => rcases c' with _ | c' <;> simp at hg
        | ex v =>
          cases v with
          | bool b =>
            rcases c with _ | c <;> rcases c' with _ | c' <;> simp [Cnd] at h3 <;> cases want <;> simp at hg <;> subst hg <;> simp [Cnd, h3]
          | _ => rcases c' with _ | c' <;> simp at hg
theorem DEq.ins {D D' : DE} (h : DEq D D') {d : Option Tmp} {G G' : Option Bool} (hG : Cnd G ↔ Cnd G') (e : Ent) : DEq (dins D d G e) (dins D' d G' e) := by
  cases d with
  | none => exact h
  | some d =>
    intro i
    simp only [dins, dlook]
    cases Nat.beq d i with
    | true => exact .inr ⟨G, G', e, rfl, rfl, hG⟩
    | false => exact h i
theorem DEq.drop {D D' : DE} (h : DEq D D') (s : List Nat) : DEq (ddrop D s) (ddrop D' s) := fun i => by
  rw [dlook_ddrop, dlook_ddrop]
  split
  · exact .inl ⟨rfl, rfl⟩
  · exact h i
theorem DEq.eat {D D' : DE} (h : DEq D D') {eats : List Nat} {a : Act} {g : Nat} (he : EatF D eats a g) : EatF D' eats a g := by
  obtain ⟨s, c, e, h1, h2, h3, h4⟩ := he
  rcases h s with ⟨q, _⟩ | ⟨c1, c2, e', q1, q2, q3⟩
  · rw [q] at h2; cases h2
  · rw [q1] at h2; cases h2
    exact ⟨s, c2, e, h1, q2, q3.1 h3, h4⟩
theorem EatF_eq {D D' : DE} (h : DEq D D') (eats : List Nat) (a : Act) : EatF D eats a = EatF D' eats a := funext fun _ => propext ⟨h.eat, h.symm.eat⟩

section
variable {P : Program} {N : Nat} {ds : List Deferred} {ops : List Oper} {w : World} {Fin : DE → Prop} {md : Mode}
def dsure : DE → DE
  | [] => []
  | (i, c, e) :: D => (i, sureC c, e) :: dsure D
theorem dsure_eq : ∀ D : DE, DEq D (dsure D)
  | [], i => .inl ⟨rfl, rfl⟩
  | (j, c, e) :: D, i => by
    simp only [dsure, dlook]
    cases Nat.beq j i with
    | true => exact .inr ⟨c, sureC c, e, rfl, rfl, (sureC_iff c).symm⟩
    | false => exact dsure_eq D i
end
end Go.PF

/- A walk over a map: its keys, each once, in whatever order; iterators whose values lie in memory. -/
namespace Go.PF
open Go.RowKit Go.ChangeMaps
variable {P : Program} {κ : Type} {kt : TypeId}

/-- a walk over the map m in block bm, its state in block r; pre: the keys that came out; 'last': the last entry -/
def WalkM (K : GKey P kt κ) (w : World) (r bm : Nat) (m : List (κ × Value)) (pre : List κ) (last : Option (κ × Value)) : Prop :=
  ∃ es clock since seen c0, w.heap[bm]? = some (.map es clock) ∧ es.toList.map (fun e => (e.key, e.val)) = m.map (fun p => (K.enc p.1, p.2)) ∧ (es.toList.map (·.born)).Nodup ∧ w.heap[r]? = some (.mapIter (some bm) since seen c0) ∧
    (∀ e ∈ es.toList, e.born < since) ∧ since ≤ c0 ∧ (∀ e ∈ es.toList, ∀ k, e.key = K.enc k → (seen.contains e.born = true ↔ k ∈ pre)) ∧
    since ≤ clock ∧ m.Pairwise (fun p q => p.1 ≠ q.1) ∧ ∀ k v, last = some (k, v) → c0 = clock ∧ ∃ (e : MapEntry) (seen0 : Array Nat), e ∈ es.toList ∧ e.key = K.enc k ∧ e.val = v ∧ seen = seen0.push e.born
theorem WalkM.kept {K : GKey P kt κ} {w w' : World} {r bm : Nat} {m : List (κ × Value)} {pre : List κ} {last : Option (κ × Value)} (h : WalkM K w r bm m pre last) (hr : w'.heap[r]? = w.heap[r]?) (hb : w'.heap[bm]? = w.heap[bm]?) : WalkM K w' r bm m pre last := by
  obtain ⟨es, clock, since, seen, c0, h1, h2, h3, h4, h5⟩ := h
  exact ⟨es, clock, since, seen, c0, hb.trans h1, h2, h3, hr.trans h4, h5⟩
theorem WalkM.iter {K : GKey P kt κ} {w : World} {r bm : Nat} {m : List (κ × Value)} {pre : List κ} {last : Option (κ × Value)} (h : WalkM K w r bm m pre last) : ∃ o, w.heap[r]? = some o ∧ ctl o = true := by
  obtain ⟨es, clock, since, seen, c0, h1, h2, h3, h4, h5⟩ := h
  exact ⟨_, h4, rfl⟩
theorem WalkM.ne {K : GKey P kt κ} {w : World} {r bm : Nat} {m : List (κ × Value)} {pre : List κ} {last : Option (κ × Value)} (h : WalkM K w r bm m pre last) : r ≠ bm := by
  obtain ⟨es, clock, since, seen, c0, h1, h2, h3, h4, h5⟩ := h
  intro e
  rw [e, h1] at h4
  cases h4

theorem mem_of_cells {K : GKey P kt κ} {es : List MapEntry} {m : List (κ × Value)} (h : es.map (fun e => (e.key, e.val)) = m.map (fun p => (K.enc p.1, p.2))) {e : MapEntry} (he : e ∈ es) : ∃ k v, (k, v) ∈ m ∧ e.key = K.enc k ∧ e.val = v := by
  have : (e.key, e.val) ∈ m.map (fun p => (K.enc p.1, p.2)) := by rw [← h]; exact List.mem_map.2 ⟨e, he, rfl⟩
  rw [List.mem_map] at this
  obtain ⟨p, hp, hpe⟩ := this
  simp only [Prod.mk.injEq] at hpe
  exact ⟨p.1, p.2, hp, hpe.1.symm, hpe.2.symm⟩
theorem cells_of_mem {K : GKey P kt κ} {es : List MapEntry} {m : List (κ × Value)} (h : es.map (fun e => (e.key, e.val)) = m.map (fun p => (K.enc p.1, p.2))) {k : κ} {v : Value} (hp : (k, v) ∈ m) : ∃ e ∈ es, e.key = K.enc k ∧ e.val = v := by
  have : (K.enc k, v) ∈ es.map (fun e => (e.key, e.val)) := by rw [h]; exact List.mem_map.2 ⟨(k, v), hp, rfl⟩
  rw [List.mem_map] at this
  obtain ⟨e, he, hee⟩ := this
  simp only [Prod.mk.injEq] at hee
  exact ⟨e, he, hee.1, hee.2⟩

section
variable {r : Option Nat} {Q : Exit → Act → World → Prop} {N : Nat} {ds : List Deferred} {ops rest : List Oper} {E : Env} {w : World}
variable {d : Option Tmp} {ty : TypeId} {pos : String} {af : Array Edge} {gu : Option (Nat × Bool)} {x : Operand}

theorem TW.rangeM (K : GKey P kt κ) {t et : TypeId} {bm : Nat} {m : List (κ × Value)} (hg : gu = none) (hd : okDst N d = true) (ht : P.underlying t = some (.map kt et)) (hx : ev E x = some (none, .map (some bm))) (hm : MapL K w bm m)
    (next : ∀ it w', it = w.heap.size → w'.heap.size = it + 1 → Below w.heap.size w w' → WalkM K w' it bm m [] none → TW P r Q N ds ops rest (ins E d none (.pointer (some ⟨it, 0, none⟩))) w') : TW P r Q N ds ops (⟨d, .range t x, ty, pos, af, gu⟩ :: rest) E w := by
  obtain ⟨⟨es, cl, hh, he, hbn, hbc⟩, hon⟩ := hm
  have hobj : (getObj bm).run P w = .ok (.map es cl) w := by simp [getObj, Sem.run, hh]
  refine TW.eff (v := .pointer (some ⟨w.heap.size, 0, none⟩)) (w' := w.alloc (.mapIter (some bm) cl #[] cl)) hg hd rfl (fun a ha => ?_) (next _ _ rfl (by simp) ((Below.refl _ _).alloc (Nat.le_refl _) _) ?_)
  · simp only [execOp]
    rw [ha.eval hx trivial]
    simp [Instr.range, run_underlying ht, hobj, newObj, Sem.run]
  · have hlt := (Array.getElem?_eq_some_iff.1 hh).1
    refine ⟨es, cl, cl, #[], cl, ?_, he, hbn, heap_alloc_new w _, hbc, Nat.le_refl _, (fun e _ k _ => by simp), Nat.le_refl _, hon, fun k v h => by cases h⟩
    have := (below_alloc w (.mapIter (some bm) cl #[] cl)).block bm hlt
    exact this.trans hh

theorem TW.nextM (K : GKey P kt κ) {it bm : Nat} {m : List (κ × Value)} {pre : List κ} {last : Option (κ × Value)} (hg : gu = none) (hd : okDst N d = true) (hx : ev E x = some (none, .pointer (some ⟨it, 0, none⟩))) (hw : WalkM K w it bm m pre last)
    (n1 : (∀ p ∈ m, p.1 ∈ pre) → TW P r Q N ds ops rest (ins E d none (.tuple #[.bool false])) w)
    (n2 : ∀ k v w', (k, v) ∈ m → k ∉ pre → w'.heap.size = w.heap.size → But it w w' → ExtF it w w' → WalkM K w' it bm m (pre ++ [k]) (some (k, v)) → TW P r Q N ds ops rest (ins E d none (.tuple #[.bool true, K.enc k, v])) w') : TW P r Q N ds ops (⟨d, .next x false, ty, pos, af, gu⟩ :: rest) E w := by
  have hne := hw.ne
  obtain ⟨es, clock, since, seen, c0, h1, h2, h3, h4, h5, h6, h7, hsc, hon, h8⟩ := hw
  rcases run_next_at (P := P) w ty it bm since c0 seen es clock h4 h1 h5 h6 with ⟨h0, hrun⟩ | ⟨e, he, w1, hw1, hrun⟩
  · refine TW.eff (v := .tuple #[.bool false]) (w' := w) hg hd rfl (fun a ha => ?_) (n1 fun p hp => ?_)
    · simp only [execOp]
      rw [ha.eval hx trivial]
      simp [hrun]
    · obtain ⟨e, he, hk, _⟩ := cells_of_mem h2 (k := p.1) (v := p.2) hp
      refine (h7 e he p.1 hk).1 ?_
      cases hs : seen.contains e.born with
      | true => rfl
      | false =>
        exfalso
        have hm : e ∈ (leftOf es seen).toList := by unfold leftOf; simp only [Array.toList_filter, List.mem_filter]; exact ⟨he, by rw [hs]; rfl⟩
        have : (leftOf es seen).toList = [] := by rw [Array.toList_eq_nil_iff]; exact Array.eq_empty_of_size_eq_zero h0
        rw [this] at hm; cases hm
  · have hee : e ∈ es.toList ∧ seen.contains e.born = false := by
      unfold leftOf at he
      simp only [Array.toList_filter, List.mem_filter] at he
      exact ⟨he.1, by simpa using he.2⟩
    obtain ⟨k, v, hkv, hk, hv⟩ := mem_of_cells h2 hee.1
    have hnp : k ∉ pre := fun h => by
      have := (h7 e hee.1 k hk).2 h
      rw [hee.2] at this; cases this
    have hit : it < w.heap.size := (Array.getElem?_eq_some_iff.1 h4).1
    have hheap : w1.heap = w.heap := by rcases hw1 with rfl | rfl <;> rfl
    have hos : w1.os = w.os ∧ w1.tape = w.tape ∧ w1.output = w.output := by rcases hw1 with rfl | rfl <;> exact ⟨rfl, rfl, rfl⟩
    have hext : ExtF it w (setBlock w1 it (.mapIter (some bm) since (seen.push e.born) clock)) := by
      refine ⟨hos.1, hos.2.1, hos.2.2, by simp [setBlock, hheap], fun q o ho hc => ?_⟩
      by_cases hq : it = q
      · subst hq
        rw [h4] at ho
        cases ho
        rcases hc with h | h
        · omega
        · cases h
      · simp [setBlock, hheap, Array.getElem?_setIfInBounds_ne hq]; exact ho
    refine TW.eff (v := .tuple #[.bool true, K.enc k, v]) (w' := setBlock w1 it (.mapIter (some bm) since (seen.push e.born) clock)) hg hd rfl (fun a ha => ?_) (n2 k v _ hkv hnp (by simp [setBlock, hheap]) ⟨hos.1, hos.2.1, hos.2.2, by simp [setBlock, hheap], fun q hq hn => ?_⟩ hext ?_)
    · simp only [execOp]
      rw [ha.eval hx trivial]
      simp [hrun, hk, hv]
    · have : it ≠ q := fun e => hn (by rw [e])
      simp [setBlock, hheap, Array.getElem?_setIfInBounds_ne this]
    · refine ⟨es, clock, since, seen.push e.born, clock, ?_, h2, h3, by simp [setBlock, hheap, hit], h5, hsc, fun e' he' k' hk' => ?_, hsc, hon, fun k' v' hkv' => ?_⟩
      · simp [setBlock, hheap, Array.getElem?_setIfInBounds_ne hne]; exact h1
      · rw [List.mem_append, List.mem_singleton, ← h7 e' he' k' hk']
        simp only [Array.contains_iff_mem, Array.mem_push]
        constructor
        · rintro (h | h)
          · exact .inl h
          · right
            have hinj : e' = e := by
              obtain ⟨i, hi, hie⟩ := List.getElem_of_mem he'
              obtain ⟨j, hj, hje⟩ := List.getElem_of_mem hee.1
              have : i = j := by
                have hn := List.pairwise_iff_getElem.1 h3
                rcases Nat.lt_trichotomy i j with q | q | q
                · have := hn i j (by simpa using hi) (by simpa using hj) q
                  simp only [List.getElem_map, hie, hje] at this
                  exact absurd h this
                · exact q
                · have := hn j i (by simpa using hj) (by simpa using hi) q
                  simp only [List.getElem_map, hie, hje] at this
                  exact absurd h.symm this
              subst this
              rw [← hie, ← hje]
            rw [hinj, hk] at hk'
            exact (K.inj _ _ hk').symm
        · rintro (h | rfl)
          · exact .inl h
          · right
            -- one entry a key
            have hlen : es.toList.length = m.length := by have := congrArg List.length h2; simpa using this
            obtain ⟨i, hi, hie⟩ := List.getElem_of_mem he'
            obtain ⟨j, hj, hje⟩ := List.getElem_of_mem hee.1
            have key : ∀ (i : Nat) (hi : i < es.toList.length), es.toList[i].key = K.enc (m[i]'(by omega)).1 := fun i hi => by
              have := congrArg (fun l => l[i]?) h2
              simp only [List.getElem?_map, List.getElem?_eq_getElem hi, List.getElem?_eq_getElem (show i < m.length by omega), Option.map_some, Option.some.injEq, Prod.mk.injEq] at this
              exact this.1
            have e1 : (m[i]'(by omega)).1 = k' := K.inj _ _ (by rw [← key i hi, hie, hk'])
            have e2 : (m[j]'(by omega)).1 = k' := K.inj _ _ (by rw [← key j hj, hje, hk])
            have hn := List.pairwise_iff_getElem.1 hon
            have hij : i = j := by
              rcases Nat.lt_trichotomy i j with q | q | q
              · exact absurd (e1.trans e2.symm) (hn i j (by omega) (by omega) q)
              · exact q
              · exact absurd (e2.trans e1.symm) (hn j i (by omega) (by omega) q)
            subst hij
            rw [← hie, ← hje]
      · cases hkv'
        exact ⟨rfl, e, seen, hee.1, hk, hv, rfl⟩
theorem TW.entryM (K : GKey P kt κ) {it bm : Nat} {m : List (κ × Value)} {pre : List κ} {k : κ} {v : Value} (hg : gu = none) (hd : okDst N d = true) (hx : ev E x = some (none, .pointer (some ⟨it, 0, none⟩))) (hw : WalkM K w it bm m pre (some (k, v)))
    (next : TW P r Q N ds ops rest (ins E d none (.tuple #[K.enc k, v])) w) : TW P r Q N ds ops (⟨d, .entry x, ty, pos, af, gu⟩ :: rest) E w := by
  obtain ⟨es, clock, since, seen, c0, h1, h2, h3, h4, h5, h6, h7, hsc, hon, h8⟩ := hw
  obtain ⟨rfl, e, seen0, he, hk, hv, rfl⟩ := h8 k v rfl
  refine TW.eff (v := .tuple #[K.enc k, v]) (w' := w) hg hd rfl (fun a ha => ?_) next
  simp only [execOp]
  rw [ha.eval hx trivial]
  have := run_entry_at (P := P) w it bm since seen0 es c0 e h4 h1 he h3
  simp [this, hk, hv]
theorem MapL.keys {K : GKey P kt κ} {b : Nat} {m : List (κ × Value)} (h : MapL K w b m) : (m.map (·.1)).Nodup := by
  unfold List.Nodup
  rw [List.pairwise_map]
  exact h.once
end

/-! ### iterators whose values lie in memory -/
/-- An iterator: like IterOK, but what it hands over is known in the world. -/
def IterW {α : Type} (P : Program) (gf : FuncId) (cap : List Value) (enc : α → List Value) (Pos : List α → α → (Nat → Prop) → World → Prop) (Done : List α → Prop) (own : Nat → Prop) (w0 : World) : Prop :=
  ∀ (l : Nat) (J Jx : List α → (Nat → Prop) → World → Prop) (W : World) (M : Nat → Prop),
    (∀ k, own k → k < w0.heap.size → W.heap[k]? = w0.heap[k]?) → w0.heap.size ≤ W.heap.size → l < W.heap.size → (∀ k, own k → ¬ M k ∧ k ≠ l) → (∀ k, M k → k < W.heap.size) →
    (∀ pre M W1 W2, J pre M W1 → ExtF W.heap.size W1 W2 → J pre M W2) → (∀ pre M W1 W2, Jx pre M W1 → ExtF W.heap.size W1 W2 → Jx pre M W2) →
    (∀ pre x M W1, J pre M W1 → Pos pre x M W1 → (∀ k, M k → k < W1.heap.size) → l < W1.heap.size → Yields P l (enc x).toArray W1 (Rnd l J Jx (pre ++ [x]) M W1)) →
    J [] M W →
    Gives P gf (.func (.yield l) #[] #[] :: cap).toArray W fun _ W' => (∃ xs M', Done xs ∧ J xs M' W') ∨ (∃ pre M', Jx pre M' W')
section
variable {r : Option Nat} {Q : Exit → Act → World → Prop} {N : Nat} {ds : List Deferred} {ops rest : List Oper} {E : Env} {w : World} {G : Option Bool}
/-- The range statement over such an iterator, outside of any round. J: what holds between two rounds; Jx: what holds where a round has left by c. -/
theorem CW.rangeW {α : Type} {g : Operand} {ps : List Tmp} {assign body : Code} {gf : FuncId} {cap : List Value} {enc : α → List Value} {Pos : List α → α → (Nat → Prop) → World → Prop} {Done : List α → Prop} {own : Nat → Prop}
    (hg : ev E g = some (none, .func (.func gf) #[] cap.toArray)) (he : enters P gf = true) (hit : IterW P gf cap enc Pos Done own w) (hps : ps.all (fun t => Nat.blt t N) = true) (hlen : ∀ x, (enc x).length = ps.length)
    (J : List α → (Nat → Prop) → World → Prop) (Jx : Code → List α → (Nat → Prop) → World → Prop) (M : Nat → Prop) (hM : ∀ k, M k → k < w.heap.size ∧ ¬ own k) (hown : ∀ k, own k → k < w.heap.size)
    (hJ : ∀ pre M W1 W2, J pre M W1 → ExtF w.heap.size W1 W2 → J pre M W2) (hJx : ∀ c pre M W1 W2, Jx c pre M W1 → ExtF w.heap.size W1 W2 → Jx c pre M W2) (h0 : J [] M w)
    (round : ∀ D L pre x M W, w.heap.size ≤ D → D < L → J pre M W → Pos pre x M W → (∀ k, M k → k < W.heap.size) → ¬ M L → ¬ M D → RecIs N E ps assign body D W L .ready none →
      CW P (some L) (Exit.then (fun a1 W1 => ∃ W2, (Instr.beginRound L).run P W1 = .ok () W2 ∧
        body.wpIn (FR (some L)) 0 P (rndPost P L (Rnd L (fun pre M' W' => J pre M' W' ∧ ¬ M' L ∧ ¬ M' D ∧ RecIs N E ps assign body D W' L .ready none) (fun pre M' W' => ∃ c, Jx c pre M' W' ∧ RecIs N E ps assign body D W' L .done (some c)) (pre ++ [x]) M W)) a1 W2) (fun _ _ _ => False)) N [] assign (insP E ps (enc x)) W)
    (done : ∀ D xs M W, w.heap.size ≤ D → Done xs → J xs M W → ¬ M D → W.heap[D]? = some (.deferred (some [])) → KW N ({ target := .collected D, args := #[] } :: ds) (Q .normal) E W)
    (stop : ∀ D c pre M W, w.heap.size ≤ D → Jx c pre M W → W.heap[D]? = some (.deferred (some [])) → CW P none Q N ({ target := .collected D, args := #[] } :: ds) c E W) :
    CW P none Q N ds (.rangeFunc g ps.toArray assign body) E w := by
  intro a ha
  refine wpIn_rangeFunc fun fn _ => ?_
  obtain ⟨W1, hW1⟩ : ∃ W1, (w.alloc (.deferred (some []))).alloc (.loop { state := .ready, pending := none, fn := fn, tmps := a.tmps, params := ps.toArray, assign := assign, body := body, defers := w.heap.size }) = W1 := ⟨_, rfl⟩
  have hsz : W1.heap.size = w.heap.size + 2 := by rw [← hW1]; simp
  have hL1 : W1.heap[w.heap.size + 1]? = some (.loop { state := .ready, pending := none, fn := fn, tmps := a.tmps, params := ps.toArray, assign := assign, body := body, defers := w.heap.size }) := by
    rw [← hW1]; have := World.alloc_heap_new (w.alloc (.deferred (some []))) (.loop { state := .ready, pending := none, fn := fn, tmps := a.tmps, params := ps.toArray, assign := assign, body := body, defers := w.heap.size }); rwa [World.size_alloc] at this
  have hD1 : W1.heap[w.heap.size]? = some (.deferred (some [])) := by
    rw [← hW1]; exact (Below.heap_alloc _ _ _ (by simp)).trans (World.alloc_heap_new w _)
  have hb1 : Below w.heap.size w W1 := by
    rw [← hW1]; exact ((Below.refl _ w).alloc (Nat.le_refl _) _).alloc (by simp) _
  have hrec : RecIs N E ps assign body w.heap.size W1 (w.heap.size + 1) .ready none := ⟨fn, a.tmps, ⟨ha.size, rfl, ha.slots⟩, hL1⟩
  let J' : List α → (Nat → Prop) → World → Prop := fun pre M W => (J pre M W ∧ ¬ M (w.heap.size + 1) ∧ ¬ M w.heap.size ∧ RecIs N E ps assign body w.heap.size W (w.heap.size + 1) .ready none) ∧ W.heap[w.heap.size]? = some (.deferred (some []))
  let Jx' : List α → (Nat → Prop) → World → Prop := fun pre M W => (∃ c, Jx c pre M W ∧ RecIs N E ps assign body w.heap.size W (w.heap.size + 1) .done (some c)) ∧ W.heap[w.heap.size]? = some (.deferred (some []))
  have hM' : ∀ k, M k → k < w.heap.size := fun k hk => (hM k hk).1
  have hgives := hit (w.heap.size + 1) J' Jx' W1 M (fun k hk hlt => hb1.block k hlt) (by omega) (by omega)
    (fun k hk => ⟨fun hm => (hM k hm).2 hk, by have := hown k hk; omega⟩) (fun k hk => by have := hM' k hk; omega)
    (fun pre M Wa Wb ⟨⟨h1, h2, h3, h4⟩, h5⟩ hx => ⟨⟨hJ _ _ _ _ h1 (hx.less (by omega)), h2, h3, h4.ext hx (by omega)⟩, hx.block _ _ h5 (.inl (by omega))⟩)
    (fun pre M Wa Wb ⟨⟨c, h1, h2⟩, h5⟩ hx => ⟨⟨c, hJx _ _ _ _ _ h1 (hx.less (by omega)), h2.ext hx (by omega)⟩, hx.block _ _ h5 (.inl (by omega))⟩)
    (fun pre x M2 Wa ⟨⟨h1, h2, h3, h4⟩, h5⟩ hpos hMlt hlt => by
      have hy := Yields.of_round (P := P) (R := Rnd (w.heap.size + 1) (fun pre M' W' => J pre M' W' ∧ ¬ M' (w.heap.size + 1) ∧ ¬ M' w.heap.size ∧ RecIs N E ps assign body w.heap.size W' (w.heap.size + 1) .ready none) (fun pre M' W' => ∃ c, Jx c pre M' W' ∧ RecIs N E ps assign body w.heap.size W' (w.heap.size + 1) .done (some c)) (pre ++ [x]) M2 Wa) (vs := enc x) h4 (hlen x) hps
        (round w.heap.size (w.heap.size + 1) pre x M2 Wa (Nat.le_refl _) (by omega) h1 hpos hMlt h2 h3 h4)
      refine hy.mono fun b W' hR => ⟨hR.size, hR.kept, fun hb => ?_, fun hb => ?_⟩
      · obtain ⟨M', hj, hm⟩ := hR.yes hb
        exact ⟨M', ⟨hj, (hR.kept _ (by omega) h3 (by omega)).trans h5⟩, hm⟩
      · obtain ⟨M', hj⟩ := hR.no hb
        exact ⟨M', hj, (hR.kept _ (by omega) h3 (by omega)).trans h5⟩)
    ⟨⟨hJ _ _ _ _ h0 (.of_below hb1), fun hm => by have := hM' _ hm; omega, fun hm => by have := hM' _ hm; omega, hrec⟩, hD1⟩
  refine ⟨w.heap.size + 1, [{ target := .collected w.heap.size, args := #[] }], W1, { target := .fn (.func gf) cap.toArray, args := #[.func (.yield (w.heap.size + 1)) #[] #[]] }, W1, gf,
    (.func (.yield (w.heap.size + 1)) #[] #[] :: cap).toArray, W1, ?_, ?_, fun _ _ => trivial, ?_, fun h => by simp [Fence.wide] at h, ?_⟩
  · rw [← hW1]; exact run_enterLoop_outer _ _ _ _ _
  · simp only [resolve, ha.eval hg trivial]
    simp [Deferred.ofValue, Act.eval]
  · simp [invoke, run_enters he]
  · refine CallsIn.mono (callsIn_of hgives) ?_
    rintro e W2 ⟨v, rfl, hR⟩
    rcases hR with ⟨xs, M', hdone, ⟨h1, h2, h3, fn', tmps', hf', hh'⟩, h5⟩ | ⟨pre, M', ⟨c, h1, fn', tmps', hf', hh'⟩, h5⟩
    · have hlt : w.heap.size + 1 < W2.heap.size := (Array.getElem?_eq_some_iff.1 hh').1
      refine ⟨_, _, run_endLoop hh' (by simp), ?_⟩
      refine done w.heap.size xs M' _ (Nat.le_refl _) hdone (hJ _ _ _ _ h1 (ExtF.putObj hh' rfl (by omega))) h3 ((World.putObj_heap_other (by omega)).trans h5) _ ⟨ha.size, by simp [ha.defers], ha.slots⟩
    · have hlt : w.heap.size + 1 < W2.heap.size := (Array.getElem?_eq_some_iff.1 hh').1
      refine ⟨_, _, run_endLoop hh' (by simp), ?_⟩
      exact stop w.heap.size c pre M' _ (Nat.le_refl _) (hJx _ _ _ _ _ h1 (ExtF.putObj hh' rfl (by omega))) ((World.putObj_heap_other (by omega)).trans h5) _ ⟨ha.size, by simp [ha.defers], ha.slots⟩

end
end Go.PF

/- Lists of ints in memory: small helps. -/
namespace Go.PF
open Go.RowKit
abbrev SI (w : World) (v : Value) (l : List Int) : Prop := SL intT (fun k => k < w.heap.size) w v l
theorem si_step {w w' : World} {v : Value} {l : List Int} (h : SI w v l) (hb : Below w.heap.size w w') : SI w' v l := h.step intT_now hb
theorem getx {α : Type} {l : List α} {k : Nat} (h : k < l.length) : ∃ x, l[k]? = some x ∧ x ∈ l := ⟨l[k], List.getElem?_eq_getElem h, List.getElem_mem h⟩
theorem ints_one (l : List Int) : ∀ u ∈ l.map (Value.int .i64), u.oneCell' = true := by
  intro u hu
  obtain ⟨x, _, rfl⟩ := List.mem_map.1 hu
  rfl
theorem sl_allI {F : Nat → Prop} {w : World} {v : Value} {l : List Int} (h : SL intT F w v l) : ∀ x ∈ l, I64 x := fun x hx => by
  obtain ⟨i, hi, rfl⟩ := List.getElem_of_mem hx
  exact h.rngI (List.getElem?_eq_getElem hi)
theorem sl_news {F : Nat → Prop} {w : World} {A : Option Addr} {n c : Nat} {l : List Int} (h : SL intT F w (.slice A n c) l) : ∀ (j : Nat) (u : Value), (l.map (Value.int .i64))[j]? = some u → ∃ ad', A = some ad' ∧ w.cell? (ad'.add j) = some u := by
  intro j u hu
  simp only [List.getElem?_map] at hu
  obtain ⟨z, hz, rfl⟩ := Option.map_eq_some_iff.1 hu
  obtain ⟨ad', h1, h2, _⟩ := h.int hz
  exact ⟨ad', h1, by rw [Nat.mul_one] at h2; exact h2⟩
theorem own_si {w : World} {e : TypeId} {v : Value} {l : List Int} (h : OwnS w e 1 v l.length (l.map (Value.int .i64))) (hI : ∀ x ∈ l, I64 x) (hn : l.length ≤ 9223372036854775807) : SI w v l := OwnS.toInts h hI (fun g hg => h.lt hg) hn
end Go.PF
