/- A region that draws its order: every operation yields something that stays true while the heap grows: then whatever order is drawn, all of it holds at the end. -/
import Derived.Test.YtegmhdabedgloaaCtl
namespace Go.PF
open Go.RowKit

/-- What is known of a slot in such a region: its value, or something that stays true. -/
inductive Ent where
  | ex (v : Value)
  | pr (φ : Value → World → Prop)

def Ent.sat : Ent → Value → World → Prop
  | .ex v, u, _ => u = v
  | .pr φ, u, w => φ u w

def Ent.mono : Ent → Prop
  | .ex _ => True
  | .pr φ => ∀ v w w', Below w.heap.size w w' → φ v w → φ v w'

theorem Ent.sat_mono {e : Ent} (hm : e.mono) {v : Value} {w w' : World} (hb : Below w.heap.size w w') (h : e.sat v w) : e.sat v w' := by
  cases e with
  | ex u => exact h
  | pr φ => exact hm v w w' hb h

abbrev DE := List (Nat × Option Bool × Ent)

def dlook : DE → Nat → Option (Option Bool × Ent)
  | [], _ => none
  | (j, c, e) :: D, i => match Nat.beq j i with
    | true => some (c, e)
    | false => dlook D i

def dins (D : DE) (d : Option Tmp) (c : Option Bool) (e : Ent) : DE :=
  match d with
  | none => D
  | some d => (d, c, e) :: D

/-- One slot. -/
def slotOK (c : Option Bool) (e : Ent) (u : Value) (w : World) : Prop := (Cnd c → e.sat u w) ∧ (¬ Cnd c → u = undef)

/-- The slots of L. -/
structure FitL (N : Nat) (ds : List Deferred) (L : List Nat) (D : DE) (a : Act) (w : World) : Prop where
  size : a.tmps.size = N
  defers : a.defers = ds
  slots : ∀ i ∈ L, ∀ c e, dlook D i = some (c, e) → slotOK c e (a.tmps.getD i undef) w

structure FitD (N : Nat) (ds : List Deferred) (D : DE) (a : Act) (w : World) : Prop where
  size : a.tmps.size = N
  defers : a.defers = ds
  slots : ∀ i c e, dlook D i = some (c, e) → slotOK c e (a.tmps.getD i undef) w

def dgd (ops : List Oper) (D : DE) : Option (Nat × Bool) → Option (Option Bool)
  | none => some none
  | some (j, want) => match (ops[j]?).bind (·.dst) with
    | none => none
    | some d => match dlook D d with
      | some (none, .ex (.bool b)) => match want with
        | true => some (some b)
        | false => some (some (!b))
      | some (some c, .ex (.bool b)) => match want with
        | true => some (some (c && b))
        | false => some (some (c && !b))
      | _ => none

def guardDst (ops : List Oper) (o : Oper) : Option Nat := match o.guard with
  | some (g, _) => (ops[g]?).bind (·.dst)
  | none => none

theorem dwanted_of {N : Nat} {ds : List Deferred} {L : List Nat} {D : DE} {a : Act} {w : World} {ops : List Oper} {o : Oper} {G : Option Bool} (h : FitL N ds L D a w) (hL : ∀ d, guardDst ops o = some d → d ∈ L) (hg : dgd ops D o.guard = some G) :
    (Cnd G → Region.wanted o (yielded ops.toArray a.tmps) = true) ∧ (¬ Cnd G → Region.wanted o (yielded ops.toArray a.tmps) = false) := by
  unfold guardDst at hL
  unfold Region.wanted
  cases hgu : o.guard with
  | none => rw [hgu] at hg; simp [dgd] at hg; subst hg; simp [Cnd]
  | some p =>
    obtain ⟨j, want⟩ := p
    rw [hgu] at hg hL
    simp only [dgd] at hg
    cases hd : (ops[j]?).bind (·.dst) with
    | none => rw [hd] at hg; simp at hg
    | some d =>
      rw [hd] at hg
      have hdL : d ∈ L := hL d (by simpa using hd)
      simp only at hg
      simp only [yielded_eq, hd, Option.bind_some]
      split at hg
      · rename_i b hl
        have h1 : a.tmps.getD d undef = .bool b := (h.slots d hdL none (.ex (.bool b)) hl).1 trivial
        have h2 : a.tmps[d]? = some (.bool b) := by
          rcases Nat.lt_or_ge d a.tmps.size with hlt | hge
          · exact getElem?_getD hlt h1
          · simp [Array.getElem?_eq_none hge, undef] at h1
        rw [h2]
        cases want <;> simp at hg <;> subst hg <;> simp [Cnd, boolOf]
      · rename_i c b hl
        obtain ⟨h1, h1'⟩ := h.slots d hdL (some c) (.ex (.bool b)) hl
        cases c with
        | true =>
          have h1 : a.tmps.getD d undef = .bool b := h1 rfl
          have h2 : a.tmps[d]? = some (.bool b) := by
            rcases Nat.lt_or_ge d a.tmps.size with hlt | hge
            · exact getElem?_getD hlt h1
            · simp [Array.getElem?_eq_none hge, undef] at h1
          rw [h2]
          cases want <;> simp at hg <;> subst hg <;> simp [Cnd, boolOf]
        | false =>
          have h1' := h1' (by simp [Cnd])
          have h2 : ∀ b, a.tmps[d]? ≠ some (.bool b) := by
            intro b hb
            simp [hb, undef] at h1'
          rw [boolOf_ne h2]
          cases want <;> simp at hg <;> subst hg <;> simp [Cnd]
      · cases hg

/-- The operation yields 'e', in the world that it got or one that extends it. -/
def OpGives (P : Program) (o : Oper) (a : Act) (w : World) (e : Ent) : Prop :=
  (∃ v w', (execOp a.eval o).run P w = .ok (.value v) w' ∧ Below w.heap.size w w' ∧ e.sat v w') ∨
  (∃ f vs, (execOp a.eval o).run P w = .ok (.enter f vs) w ∧ Gives P f vs w fun v w' => Below w.heap.size w w' ∧ e.sat v w')

/-- One step of the lexical walk. -/
def DOne (P : Program) (N : Nat) (ds : List Deferred) (ops : List Oper) (w0 : World) (o : Oper) (D : DE) (G : Option Bool) (e : Ent) : Prop :=
  dgd ops D o.guard = some G ∧ okDst N o.dst = true ∧ noDefer o.op = true ∧ e.mono ∧
  (Cnd G → ∀ a w, Below w0.heap.size w0 w → FitL N ds (o.looksAt ops.toArray) D a w → OpGives P o a w e)

/-- The lexical walk. -/
def DW (P : Program) (N : Nat) (ds : List Deferred) (ops : List Oper) (w0 : World) (Fin : DE → Prop) : List Oper → DE → Prop
  | [], D => Fin D
  | o :: rest, D => ∃ G e, DOne P N ds ops w0 o D G e ∧ DW P N ds ops w0 Fin rest (dins D o.dst G e)

def lexOK (ops : List Oper) : Bool :=
  ops.zipIdx.all fun (o, i) =>
    (o.after.all fun e => !Region.binds .any e || Nat.blt e.on i) &&
    ops.zipIdx.all fun (p, k) => match p.dst with
      | none => true
      | some d => (Nat.beq k i || o.dst != some d) &&
        (!(o.looksAt ops.toArray).contains d ||
          (if Nat.blt k i then o.after.any (fun e => Region.binds .any e && Nat.beq e.on k) else (Nat.beq k i || p.after.any (fun e => Region.binds .any e && Nat.beq e.on i))))

theorem blt_iff {a b : Nat} : Nat.blt a b = true ↔ a < b := by
  unfold Nat.blt
  exact ⟨fun h => Nat.le_of_ble_eq_true h, fun h => Nat.ble_eq_true_of_le h⟩

section sound
variable {P : Program} {r : Option Nat} {Q : Exit → Act → World → Prop} {N : Nat} {ds : List Deferred} {ops : List Oper} {w0 : World}

/-- The entries laid by the first operations. -/
def laid (D : DE) : List Oper → List (Option Bool × Ent) → DE
  | o :: os, (G, e) :: ges => laid (dins D o.dst G e) os ges
  | _, _ => D

theorem DW.entries {Fin : DE → Prop} : ∀ {rest : List Oper} {D : DE}, DW P N ds ops w0 Fin rest D →
    ∃ ges : List (Option Bool × Ent), ges.length = rest.length ∧ Fin (laid D rest ges) ∧
      ∀ i o G e, rest[i]? = some o → ges[i]? = some (G, e) → DOne P N ds ops w0 o (laid D (rest.take i) (ges.take i)) G e
  | [], D, h => ⟨[], rfl, h, fun i o G e h1 _ => by simp at h1⟩
  | o :: rest, D, h => by
    obtain ⟨G, e, h1, h2⟩ := h
    obtain ⟨ges, hl, hF, hi⟩ := DW.entries h2
    refine ⟨(G, e) :: ges, by simp [hl], hF, ?_⟩
    intro i o' G' e' ho he
    cases i with
    | zero =>
      simp at ho he
      obtain ⟨rfl, rfl⟩ := he
      subst ho
      simpa [laid] using h1
    | succ i =>
      simp at ho he
      simpa [laid] using hi i o' G' e' ho he

/-- What 'laid' holds of a slot: the one operation that writes it, if it is among them; else what was there. -/
theorem dlook_laid_none {s : Nat} : ∀ (os : List Oper) (ges : List (Option Bool × Ent)) (D : DE), (∀ (i : Nat) (o : Oper), os[i]? = some o → o.dst ≠ some s) → dlook (laid D os ges) s = dlook D s
  | [], _, D, _ => by simp [laid]
  | o :: os, [], D, _ => by simp [laid]
  | o :: os, (G, e) :: ges, D, h => by
    rw [laid, dlook_laid_none os ges _ (fun i o' ho => h (i + 1) o' (by simpa using ho))]
    have h0 := h 0 o rfl
    cases hd : o.dst with
    | none => simp [dins]
    | some d =>
      rw [hd] at h0
      have : d ≠ s := fun e => h0 (by rw [e])
      simp [dins, dlook, beq_ne this]

theorem dlook_laid_some {s : Nat} : ∀ (os : List Oper) (ges : List (Option Bool × Ent)) (D : DE) (k : Nat) (o : Oper) (G : Option Bool) (e : Ent), os[k]? = some o → ges[k]? = some (G, e) → o.dst = some s →
    (∀ (i : Nat) (o' : Oper), os[i]? = some o' → o'.dst = some s → i = k) → dlook (laid D os ges) s = some (G, e)
  | [], _, D, k, o, G, e, ho, _, _, _ => by simp at ho
  | o :: os, [], D, k, o', G, e, _, he, _, _ => by simp at he
  | o :: os, (G, e) :: ges, D, 0, o', G', e', ho, he, hd, hu => by
    simp at ho he
    obtain ⟨rfl, rfl⟩ := he
    subst ho
    rw [laid, dlook_laid_none os ges _ (fun i o'' ho'' hd'' => by have := hu (i + 1) o'' (by simpa using ho'') hd''; omega)]
    simp [dins, hd, dlook]
  | o :: os, (G, e) :: ges, D, k + 1, o', G', e', ho, he, hd, hu => by
    simp at ho he
    rw [laid]
    exact dlook_laid_some os ges _ k o' G' e' ho he hd (fun i o'' ho'' hd'' => by have := hu (i + 1) o'' (by simpa using ho'') hd''; omega)

theorem lexOK_spec (h : lexOK ops = true) {i k : Nat} {o p : Oper} (ho : ops[i]? = some o) (hp : ops[k]? = some p) :
    (∀ e ∈ o.after, Region.binds .any e = true → e.on < i) ∧ ∀ d, p.dst = some d → (k = i ∨ o.dst ≠ some d) ∧
      (d ∈ o.looksAt ops.toArray → (k < i → ∃ e ∈ o.after, Region.binds .any e = true ∧ e.on = k) ∧ (i ≤ k → k = i ∨ ∃ e ∈ p.after, Region.binds .any e = true ∧ e.on = i)) := by
  unfold lexOK at h
  rw [List.all_eq_true] at h
  have h1 := h (o, i) (by rw [List.mem_zipIdx_iff_getElem?]; simpa using ho)
  simp only [Bool.and_eq_true, List.all_eq_true] at h1
  obtain ⟨h1, h2⟩ := h1
  refine ⟨fun e he hbi => ?_, fun d hd => ?_⟩
  · rw [Array.all_eq_true'] at h1
    have := h1 e he
    rw [hbi] at this
    exact blt_iff.1 (by simpa using this)
  · have h3 := h2 (p, k) (by rw [List.mem_zipIdx_iff_getElem?]; simpa using hp)
    simp only [hd, Bool.and_eq_true, Bool.or_eq_true] at h3
    obtain ⟨h3, h4⟩ := h3
    refine ⟨?_, fun hm => ?_⟩
    · rcases h3 with h3 | h3
      · exact .inl (Nat.eq_of_beq_eq_true h3)
      · right; simpa using h3
    · rcases h4 with h4 | h4
      · simp at h4; exact absurd hm h4
      · refine ⟨fun hlt => ?_, fun hge => ?_⟩
        · have hb : Nat.blt k i = true := blt_iff.2 hlt
          rw [hb, if_pos rfl] at h4
          rw [Array.any_eq_true'] at h4
          obtain ⟨e, he, h5⟩ := h4
          simp only [Bool.and_eq_true] at h5
          exact ⟨e, he, h5.1, Nat.eq_of_beq_eq_true h5.2⟩
        · have hb : Nat.blt k i = false := by
            cases hq : Nat.blt k i with
            | false => rfl
            | true => exact absurd (blt_iff.1 hq) (by omega)
          rw [hb] at h4
          simp only [Bool.false_eq_true, if_false, Bool.or_eq_true] at h4
          rcases h4 with h4 | h4
          · exact .inl (Nat.eq_of_beq_eq_true h4)
          · rw [Array.any_eq_true'] at h4
            obtain ⟨e, he, h5⟩ := h4
            simp only [Bool.and_eq_true] at h5
            exact .inr ⟨e, he, h5.1, Nat.eq_of_beq_eq_true h5.2⟩

/-- The invariant of a drawn order. -/
structure DInv (N : Nat) (ds : List Deferred) (ops : List Oper) (ges : List (Option Bool × Ent)) (w0 : World) (a0 : Act) (listed : Array Bool) (a : Act) (w : World) : Prop where
  below : Below w0.heap.size w0 w
  size : a.tmps.size = N
  defers : a.defers = ds
  done : ∀ k o d G e, ops[k]? = some o → o.dst = some d → ges[k]? = some (G, e) → listed.getD k false = true → slotOK G e (a.tmps.getD d undef) w
  todo : ∀ k o d, ops[k]? = some o → o.dst = some d → listed.getD k false = false → a.tmps.getD d undef = a0.tmps.getD d undef
  others : ∀ s, (∀ (k : Nat) (o : Oper), ops[k]? = some o → o.dst ≠ some s) → a.tmps.getD s undef = a0.tmps.getD s undef
  closed : ∀ k o, ops[k]? = some o → listed.getD k false = true → ∀ e ∈ o.after, Region.binds .any e = true → listed.getD e.on false = true

theorem looks_guard {o : Oper} {d : Nat} (h : guardDst ops o = some d) : d ∈ o.looksAt ops.toArray := by
  unfold guardDst at h
  unfold Oper.looksAt
  cases hg : o.guard with
  | none => rw [hg] at h; cases h
  | some p =>
    obtain ⟨g, b⟩ := p
    rw [hg] at h
    simp only [List.mem_append]
    right
    simp only [List.getElem?_toArray]
    simp at h ⊢
    exact h

theorem draw_sound {D0 : DE} {ges : List (Option Bool × Ent)} {a0 : Act} (hlex : lexOK ops = true) (hl : ges.length = ops.length)
    (hstep : ∀ i o G e, ops[i]? = some o → ges[i]? = some (G, e) → DOne P N ds ops w0 o (laid D0 (ops.take i) (ges.take i)) G e)
    (h0 : ∀ i c e, dlook D0 i = some (c, e) → e.mono ∧ slotOK c e (a0.tmps.getD i undef) w0)
    (hfin : ∀ a w, Below w0.heap.size w0 w → FitD N ds (laid D0 ops ges) a w → Q .normal a w) :
    ∀ (fuel : Nat) (listed : Array Bool) (a : Act) (w : World), listed.size = ops.length → ((List.range ops.length).filter fun k => !listed.getD k false).length ≤ fuel → DInv N ds ops ges w0 a0 listed a w →
      wpAnyIn (FR r) 0 P .any ops.toArray Q fuel listed a w := by
  -- all are listed where none is ready
  have hall : ∀ (listed : Array Bool) (a : Act) (w : World), listed.size = ops.length → DInv N ds ops ges w0 a0 listed a w → Region.ready .any ops.toArray listed = [] → Q .normal a w := by
    intro listed a w hsz hI hr
    have hlist : ∀ k, k < ops.length → listed.getD k false = true := by
      intro k
      induction k using Nat.strongRecOn with
      | _ k ih =>
        intro hk
        cases hc : listed.getD k false with
        | true => rfl
        | false =>
          exfalso
          have hmem : k ∈ Region.ready .any ops.toArray listed := by
            unfold Region.ready
            rw [List.mem_filter]
            have hok : ops[k]? = some ops[k] := List.getElem?_eq_getElem hk
            refine ⟨by simpa using hk, ?_⟩
            have hc' : listed.getD k true = false := by
              have : k < listed.size := by omega
              simpa [this] using hc
            simp only [hc', List.getElem?_toArray, hok, Option.map_some, Option.getD_some, Bool.not_false, Bool.true_and]
            rw [Array.all_eq_true']
            intro e he
            cases hbi : Region.binds .any e with
            | false => simp
            | true =>
              have hon := (lexOK_spec hlex hok hok).1 e he hbi
              have := ih e.on hon (by omega)
              simp [this]
          rw [hr] at hmem
          cases hmem
    refine hfin a w hI.below ⟨hI.size, hI.defers, fun s c e hs => ?_⟩
    by_cases hw : ∃ (k : Nat) (o : Oper), ops[k]? = some o ∧ o.dst = some s
    · obtain ⟨k, o, hk, hd⟩ := hw
      have hkl : k < ops.length := (List.getElem?_eq_some_iff.1 hk).1
      have hge : ges[k]? = some ges[k] := List.getElem?_eq_getElem (by omega)
      have huniq : ∀ (i : Nat) (o' : Oper), ops[i]? = some o' → o'.dst = some s → i = k := by
        intro i o' ho' hd'
        rcases ((lexOK_spec hlex ho' hk).2 s hd).1 with h | h
        · exact h.symm
        · exact absurd hd' h
      rw [dlook_laid_some ops ges D0 k o ges[k].1 ges[k].2 hk hge hd huniq] at hs
      simp only [Option.some.injEq, Prod.mk.injEq] at hs
      obtain ⟨rfl, rfl⟩ := hs
      exact hI.done k o s ges[k].1 ges[k].2 hk hd hge (hlist k hkl)
    · have hn : ∀ (i : Nat) (o : Oper), ops[i]? = some o → o.dst ≠ some s := fun i o ho hd => hw ⟨i, o, ho, hd⟩
      rw [dlook_laid_none ops ges D0 hn] at hs
      obtain ⟨hm, h1⟩ := h0 s c e hs
      rw [hI.others s hn]
      exact ⟨fun hc => Ent.sat_mono hm hI.below (h1.1 hc), h1.2⟩
  intro fuel
  induction fuel with
  | zero =>
    intro listed a w hsz hcount hI
    have hr : Region.ready .any ops.toArray listed = [] := by
      cases hr : Region.ready .any ops.toArray listed with
      | nil => rfl
      | cons x xs =>
        exfalso
        have hx : x ∈ Region.ready .any ops.toArray listed := by rw [hr]; simp
        unfold Region.ready at hx
        rw [List.mem_filter] at hx
        obtain ⟨hx1, hx2⟩ := hx
        have hxl : x < ops.length := by simpa using hx1
        have hlx : listed.getD x false = false := by
          simp only [Bool.and_eq_true] at hx2
          have h2 := hx2.1
          have hs : x < listed.size := by omega
          simpa [hs] using h2
        have : x ∈ (List.range ops.length).filter fun k => !listed.getD k false := by
          rw [List.mem_filter]; exact ⟨by simpa using hxl, by rw [hlx]; rfl⟩
        have hnil : (List.range ops.length).filter (fun k => !listed.getD k false) = [] := List.eq_nil_of_length_eq_zero (by omega)
        rw [hnil] at this
        cases this
    exact ⟨hr, hall listed a w hsz hI hr⟩
  | succ fuel ih =>
    intro listed a w hsz hcount hI
    refine ⟨fun hr => hall listed a w hsz hI hr, fun i hi => ?_⟩
    unfold Region.ready at hi
    rw [List.mem_filter] at hi
    obtain ⟨hi1, hi2⟩ := hi
    have hil : i < ops.length := by simpa using hi1
    have hok : ops[i]? = some ops[i] := List.getElem?_eq_getElem hil
    have hgi : ges[i]? = some ges[i] := List.getElem?_eq_getElem (by omega)
    simp only [Bool.and_eq_true, List.getElem?_toArray, hok, Option.map_some, Option.getD_some] at hi2
    obtain ⟨hi2, hi3⟩ := hi2
    have hni : listed.getD i false = false := by
      have hs : i < listed.size := by omega
      simpa [hs] using hi2
    rw [Array.all_eq_true'] at hi3
    have hdeps : ∀ e ∈ ops[i].after, Region.binds .any e = true → listed.getD e.on false = true := by
      intro e he hb
      have := hi3 e he
      rw [hb] at this
      simpa using this
    obtain ⟨hg, hd, hn, hm, hop⟩ := hstep i ops[i] ges[i].1 ges[i].2 hok hgi
    -- the slots that it looks at
    have hfit : FitL N ds (ops[i].looksAt ops.toArray) (laid D0 (ops.take i) (ges.take i)) a w := by
      refine ⟨hI.size, hI.defers, fun s hsL c e hs => ?_⟩
      by_cases hw : ∃ (k : Nat) (o : Oper), ops[k]? = some o ∧ o.dst = some s
      · obtain ⟨k, o, hk, hd⟩ := hw
        have hkl : k < ops.length := (List.getElem?_eq_some_iff.1 hk).1
        have huniq : ∀ (i : Nat) (o' : Oper), ops[i]? = some o' → o'.dst = some s → i = k := by
          intro i o' ho' hd'
          rcases ((lexOK_spec hlex ho' hk).2 s hd).1 with h | h
          · exact h.symm
          · exact absurd hd' h
        have hsp := ((lexOK_spec hlex hok hk).2 s hd).2 hsL
        rcases Nat.lt_or_ge k i with hki | hik
        · obtain ⟨e', he', hb', hon⟩ := hsp.1 hki
          have hlk : listed.getD k false = true := hon ▸ hdeps e' he' hb'
          have hgk : ges[k]? = some ges[k] := List.getElem?_eq_getElem (by omega)
          rw [dlook_laid_some (ops.take i) (ges.take i) D0 k o ges[k].1 ges[k].2 (by rw [List.getElem?_take_of_lt hki]; exact hk) (by rw [List.getElem?_take_of_lt hki]; exact hgk) hd
            (fun j o' ho' hd' => by
              have hji : j < i := by
                have := (List.getElem?_eq_some_iff.1 ho').1
                simp at this; omega
              rw [List.getElem?_take_of_lt hji] at ho'
              exact huniq j o' ho' hd')] at hs
          simp only [Option.some.injEq, Prod.mk.injEq] at hs
          obtain ⟨rfl, rfl⟩ := hs
          exact hI.done k o s ges[k].1 ges[k].2 hk hd hgk hlk
        · have hlk : listed.getD k false = false := by
            rcases hsp.2 hik with h | ⟨e', he', hb', hon⟩
            · subst h; exact hni
            · cases hc : listed.getD k false with
              | false => rfl
              | true =>
                have := hI.closed k o hk hc e' he' hb'
                rw [hon, hni] at this
                cases this
          rw [dlook_laid_none (ops.take i) (ges.take i) D0 (fun j o' ho' hd' => by
              have hji : j < i := by
                have := (List.getElem?_eq_some_iff.1 ho').1
                simp at this; omega
              rw [List.getElem?_take_of_lt hji] at ho'
              have := huniq j o' ho' hd'
              omega)] at hs
          obtain ⟨hm', h1⟩ := h0 s c e hs
          rw [hI.todo k o s hk hd hlk]
          exact ⟨fun hc => Ent.sat_mono hm' hI.below (h1.1 hc), h1.2⟩
      · have hn' : ∀ (i : Nat) (o : Oper), ops[i]? = some o → o.dst ≠ some s := fun i o ho hd => hw ⟨i, o, ho, hd⟩
        rw [dlook_laid_none (ops.take i) (ges.take i) D0 (fun j o' ho' => by
            have hji : j < i := by
              have := (List.getElem?_eq_some_iff.1 ho').1
              simp at this; omega
            rw [List.getElem?_take_of_lt hji] at ho'
            exact hn' j o' ho')] at hs
        obtain ⟨hm', h1⟩ := h0 s c e hs
        rw [hI.others s hn']
        exact ⟨fun hc => Ent.sat_mono hm' hI.below (h1.1 hc), h1.2⟩
    obtain ⟨hw1, hw2⟩ := dwanted_of (ops := ops) (o := ops[i]) hfit (fun d hd => looks_guard hd) hg
    -- the next state keeps the invariant
    have hnext : ∀ v w', Below w.heap.size w w' → slotOK ges[i].1 ges[i].2 v w' → wpAnyIn (FR r) 0 P .any ops.toArray Q fuel (listed.setIfInBounds i true) (a.put ops[i].dst v) w' := by
      intro v w' hb hs
      have hset : ∀ k, (listed.setIfInBounds i true).getD k false = if k = i then true else listed.getD k false := by
        intro k
        by_cases hki : k = i
        · subst hki; simp [hsz, hil]
        · have : i ≠ k := fun e => hki e.symm
          simp [hki, Array.getElem?_setIfInBounds_ne this]
      refine ih _ _ _ (by simpa using hsz) ?_ ?_
      · have hsub : ((List.range ops.length).filter fun k => !(listed.setIfInBounds i true).getD k false) = ((List.range ops.length).filter fun k => !listed.getD k false).erase i := by
          have hnd : ((List.range ops.length).filter fun k => !listed.getD k false).Nodup := List.nodup_range.sublist List.filter_sublist
          rw [hnd.erase_eq_filter, List.filter_filter]
          congr 1
          funext k
          rw [hset]
          by_cases hki : k = i <;> simp [hki]
        rw [hsub, List.length_erase_of_mem]
        · omega
        · rw [List.mem_filter]; exact ⟨by simpa using hil, by rw [hni]; rfl⟩
      · have hput : ∀ s, ops[i].dst ≠ some s → (a.put ops[i].dst v).tmps.getD s undef = a.tmps.getD s undef := by
          intro s hne
          cases hd' : ops[i].dst with
          | none => rfl
          | some d =>
            rw [hd'] at hne
            have : d ≠ s := fun e => hne (by rw [e])
            simp [Act.put, Array.getElem?_setIfInBounds_ne this]
        have hputsame : ∀ s, ops[i].dst = some s → (a.put ops[i].dst v).tmps.getD s undef = v := by
          intro s hs'
          rw [hs']
          have : s < a.tmps.size := by
            rw [hs'] at hd
            rw [hI.size]
            exact blt_iff.1 hd
          simp [Act.put, this]
        refine ⟨hI.below.trans (hb.mono hI.below.size), ?_, ?_, ?_, ?_, ?_, ?_⟩
        · cases hd' : ops[i].dst <;> simp [Act.put, hI.size]
        · cases hd' : ops[i].dst <;> simp [Act.put, hI.defers]
        · intro k o d G e hk hd' hge hlk
          rw [hset] at hlk
          by_cases hki : k = i
          · subst hki
            rw [hok] at hk
            simp only [Option.some.injEq] at hk
            subst hk
            rw [hgi] at hge
            simp only [Option.some.injEq] at hge
            rw [hputsame d hd']
            rw [hge] at hs
            exact hs
          · rw [if_neg hki] at hlk
            have hne : ops[i].dst ≠ some d := by
              rcases ((lexOK_spec hlex hok hk).2 d hd').1 with h | h
              · exact absurd h hki
              · exact h
            rw [hput d hne]
            have h1 := hI.done k o d G e hk hd' hge hlk
            have hme : e.mono := (hstep k o G e hk hge).2.2.2.1
            exact ⟨fun hc => Ent.sat_mono hme hb (h1.1 hc), h1.2⟩
        · intro k o d hk hd' hlk
          rw [hset] at hlk
          by_cases hki : k = i
          · subst hki; simp at hlk
          · rw [if_neg hki] at hlk
            have hne : ops[i].dst ≠ some d := by
              rcases ((lexOK_spec hlex hok hk).2 d hd').1 with h | h
              · exact absurd h hki
              · exact h
            rw [hput d hne]
            exact hI.todo k o d hk hd' hlk
        · intro s hns
          rw [hput s (hns i _ hok)]
          exact hI.others s hns
        · intro k o hk hlk e he hbi
          rw [hset] at hlk ⊢
          by_cases hei : e.on = i
          · simp [hei]
          · rw [if_neg hei]
            by_cases hki : k = i
            · subst hki
              rw [hok] at hk
              simp only [Option.some.injEq] at hk
              subst hk
              exact hdeps e he hbi
            · rw [if_neg hki] at hlk
              exact hI.closed k o hk hlk e he hbi
    unfold wpOpIn
    simp only [List.getElem?_toArray, hok]
    by_cases hc : Cnd ges[i].1
    · rw [if_pos (hw1 hc)]
      refine ⟨fun _ _ => trivial, ?_⟩
      rw [semAt_of hn]
      rcases hop hc a w hI.below hfit with ⟨v, w', hrun, hb, hs⟩ | ⟨f, vs, hrun, hgv⟩
      · rw [hrun]
        exact hnext v w' hb ⟨fun _ => hs, fun h => absurd hc h⟩
      · rw [hrun]
        refine ⟨fun h => by simp [Fence.wide] at h, CallsIn.mono (callsIn_of hgv) ?_⟩
        rintro e w' ⟨v, rfl, hb, hs⟩
        exact hnext v w' hb ⟨fun _ => hs, fun h => absurd hc h⟩
    · rw [if_neg (by rw [hw2 hc]; simp)]
      exact ⟨fun _ _ => trivial, hnext undef w (Below.refl _ _) ⟨fun h => absurd h hc, fun _ => rfl⟩⟩

def lift : Env → DE
  | [] => []
  | (i, c, v) :: E => (i, c, .ex v) :: lift E

theorem dlook_lift : ∀ (E : Env) (i : Nat), dlook (lift E) i = (look E i).map fun p => (p.1, Ent.ex p.2)
  | [], i => rfl
  | (j, c, v) :: E, i => by
    simp only [lift, dlook, look]
    cases Nat.beq j i with
    | true => rfl
    | false => exact dlook_lift E i

/-- The region. -/
theorem CW.draw {id : Nat} {E : Env} {w : World} (hm : P.follows .mixedOrders = true) (hlex : lexOK ops = true)
    (h : DW P N ds ops w (fun D => ∀ a w', Below w.heap.size w w' → FitD N ds D a w' → Q .normal a w') ops (lift E)) : CW P r Q N ds (.region id ops.toArray true) E w := by
  intro a ha
  obtain ⟨ges, hl, hF, hstep⟩ := DW.entries h
  refine wpIn_region_any hm ?_
  have e : ops.toArray.size = ops.length := by simp
  rw [e]
  refine draw_sound (w0 := w) (a0 := a) (D0 := lift E) (ges := ges) hlex hl hstep ?_ hF _ _ _ _ (by simp) ?_ ?_
  · intro i c e he
    rw [dlook_lift] at he
    cases hlk : look E i with
    | none => rw [hlk] at he; cases he
    | some p =>
      rw [hlk] at he
      simp only [Option.map_some, Option.some.injEq, Prod.mk.injEq] at he
      obtain ⟨rfl, rfl⟩ := he
      exact ⟨trivial, ha.slots i p.1 p.2 hlk⟩
  · exact Nat.le_trans (List.length_filter_le _ _) (by simp)
  · refine ⟨⟨rfl, rfl, rfl, Nat.le_refl _, fun _ _ => rfl⟩, ha.size, ha.defers, ?_, fun _ _ _ _ _ _ => rfl, fun _ _ => rfl, ?_⟩
    · intro k o d G e hk _ _ hlk
      have hkl : k < ops.length := (List.getElem?_eq_some_iff.1 hk).1
      simp [hkl] at hlk
    · intro k o hk hlk
      have hkl : k < ops.length := (List.getElem?_eq_some_iff.1 hk).1
      simp [hkl] at hlk
end sound

section steps
variable {P : Program} {N : Nat} {ds : List Deferred} {ops rest : List Oper} {w : World} {D : DE} {G : Option Bool} {Fin : DE → Prop}

def dev (D : DE) : Operand → Option (Option Bool × Ent)
  | .tmp t => dlook D t
  | .const v => some (none, .ex v)
  | .global g => some (none, .ex (.pointer (some ⟨g, 0, none⟩)))
  | .func f => some (none, .ex (.func (.func f) #[] #[]))

theorem mem_looks {o : Oper} {t : Nat} (h : Operand.tmp t ∈ o.op.operands.toList) : t ∈ o.looksAt ops.toArray := by
  unfold Oper.looksAt
  rw [List.mem_append]
  left
  rw [List.mem_filterMap]
  exact ⟨.tmp t, h, rfl⟩

theorem FitL.sat {L : List Nat} {a : Act} (h : FitL N ds L D a w) {x : Operand} {c : Option Bool} {e : Ent} (hx : dev D x = some (c, e)) (hL : ∀ t, x = .tmp t → t ∈ L) (hc : Cnd c) : e.sat (a.eval x) w := by
  cases x with
  | tmp t => exact (h.slots t (hL t rfl) c e hx).1 hc
  | const u => simp [dev] at hx; rw [← hx.2]; rfl
  | global g => simp [dev] at hx; rw [← hx.2]; rfl
  | func f => simp [dev] at hx; rw [← hx.2]; rfl

theorem FitL.evalL {L : List Nat} {a : Act} (h : FitL N ds L D a w) {x : Operand} {c : Option Bool} {v : Value} (hx : dev D x = some (c, .ex v)) (hL : ∀ t, x = .tmp t → t ∈ L) (hc : Cnd c) : a.eval x = v := h.sat hx hL hc

theorem FitL.eval {o : Oper} {a : Act} (h : FitL N ds (o.looksAt ops.toArray) D a w) {x : Operand} {c : Option Bool} {v : Value} (hx : dev D x = some (c, .ex v)) (hm : x ∈ o.op.operands.toList) (hc : Cnd c) : a.eval x = v :=
  h.evalL hx (fun _ ht => mem_looks (ht ▸ hm)) hc

theorem FitL.evalP {o : Oper} {a : Act} (h : FitL N ds (o.looksAt ops.toArray) D a w) {x : Operand} {c : Option Bool} {φ : Value → World → Prop} (hx : dev D x = some (c, .pr φ)) (hm : x ∈ o.op.operands.toList) (hc : Cnd c) : φ (a.eval x) w :=
  h.sat hx (fun _ ht => mem_looks (ht ▸ hm)) hc

theorem DW.nil (h : Fin D) : DW P N ds ops w Fin [] D := h

theorem DW.val {o : Oper} {v : Value} (hg : dgd ops D o.guard = some G) (hd : okDst N o.dst = true) (hn : noDefer o.op = true)
    (hrun : Cnd G → ∀ a w', Below w.heap.size w w' → FitL N ds (o.looksAt ops.toArray) D a w' → (execOp a.eval o).run P w' = .ok (.value v) w') (next : DW P N ds ops w Fin rest (dins D o.dst G (.ex v))) : DW P N ds ops w Fin (o :: rest) D :=
  ⟨G, .ex v, ⟨hg, hd, hn, trivial, fun hG a w' hb ha => .inl ⟨v, w', hrun hG a w' hb ha, Below.refl _ _, rfl⟩⟩, next⟩

/-- An operation that yields something that stays true, in an extension of the world. -/
theorem DW.gen {o : Oper} {e : Ent} (hg : dgd ops D o.guard = some G) (hd : okDst N o.dst = true) (hn : noDefer o.op = true) (hm : e.mono)
    (hrun : Cnd G → ∀ a w', Below w.heap.size w w' → FitL N ds (o.looksAt ops.toArray) D a w' → ∃ v w'', (execOp a.eval o).run P w' = .ok (.value v) w'' ∧ Below w'.heap.size w' w'' ∧ e.sat v w'') (next : DW P N ds ops w Fin rest (dins D o.dst G e)) : DW P N ds ops w Fin (o :: rest) D :=
  ⟨G, e, ⟨hg, hd, hn, hm, fun hG a w' hb ha => .inl (hrun hG a w' hb ha)⟩, next⟩

theorem DW.enter {o : Oper} {e : Ent} (hg : dgd ops D o.guard = some G) (hd : okDst N o.dst = true) (hn : noDefer o.op = true) (hm : e.mono)
    (hrun : Cnd G → ∀ a w', Below w.heap.size w w' → FitL N ds (o.looksAt ops.toArray) D a w' → ∃ f vs, (execOp a.eval o).run P w' = .ok (.enter f vs) w' ∧ Gives P f vs w' fun v w'' => Below w'.heap.size w' w'' ∧ e.sat v w'') (next : DW P N ds ops w Fin rest (dins D o.dst G e)) : DW P N ds ops w Fin (o :: rest) D :=
  ⟨G, e, ⟨hg, hd, hn, hm, fun hG a w' hb ha => .inr (hrun hG a w' hb ha)⟩, next⟩

/-- Back to an environment: the slots asked for that hold known values. -/
def dpick (D : DE) : List Nat → Option Env
  | [] => some []
  | i :: is => match dlook D i with
    | some (c, .ex v) => match dpick D is with
      | some E => some ((i, c, v) :: E)
      | none => none
    | _ => none

theorem look_dpick {D : DE} : ∀ {is : List Nat} {E : Env}, dpick D is = some E → ∀ i c v, look E i = some (c, v) → dlook D i = some (c, .ex v)
  | [], E, h, i, c, v, hl => by simp [dpick] at h; subst h; simp [look] at hl
  | j :: is, E, h, i, c, v, hl => by
    simp only [dpick] at h
    split at h
    · rename_i c' v' hj
      split at h
      · rename_i E' hE
        simp only [Option.some.injEq] at h
        subst h
        simp only [look] at hl
        by_cases hi : j = i
        · subst hi
          rw [beq_self] at hl
          simp only [Option.some.injEq, Prod.mk.injEq] at hl
          obtain ⟨rfl, rfl⟩ := hl
          exact hj
        · rw [beq_ne hi] at hl
          exact look_dpick hE i c v hl
      · cases h
    · cases h

theorem FitD.pick {E : Env} {is : List Nat} {a : Act} (h : FitD N ds D a w) (hp : dpick D is = some E) : Fit N ds E a :=
  ⟨h.size, h.defers, fun i c v hl => h.slots i c (.ex v) (look_dpick hp i c v hl)⟩

/-- The region's end: the slots asked for. -/
theorem DW.fin {K : Act → World → Prop} (is : List Nat) (E : Env) (hp : dpick D is = some E) (h : ∀ w', Below w.heap.size w w' → KW N ds K E w') : ∀ a w', Below w.heap.size w w' → FitD N ds D a w' → K a w' :=
  fun a w' hb ha => h w' hb a (ha.pick hp)

/-- The region's end, with one slot of which something is known. -/
theorem DW.fin1 {K : Act → World → Prop} (s : Nat) {φ : Value → World → Prop} (hs : dlook D s = some (none, .pr φ)) (is : List Nat) (E : Env) (hp : dpick D is = some E) (h : ∀ v w', Below w.heap.size w w' → φ v w' → KW N ds K ((s, none, v) :: E) w') :
    ∀ a w', Below w.heap.size w w' → FitD N ds D a w' → K a w' := fun a w' hb ha => by
  refine h (a.tmps.getD s undef) w' hb ((ha.slots s none _ hs).1 trivial) a ⟨ha.size, ha.defers, fun i c v hl => ?_⟩
  simp only [look] at hl
  by_cases hi : s = i
  · subst hi
    rw [beq_self] at hl
    simp only [Option.some.injEq, Prod.mk.injEq] at hl
    obtain ⟨rfl, rfl⟩ := hl
    exact ⟨fun _ => rfl, fun h => absurd trivial h⟩
  · rw [beq_ne hi] at hl
    exact (ha.pick hp).slots i c v hl
end steps
end Go.PF
