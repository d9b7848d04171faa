/- A law's row: the arguments opened, the call's end. -/
import Derived.Test.YthjcgmjcpmodlaaDoorQB
import Derived.ProofKit
import Derived.JoinedOf
import Derived.Deep.Slices
import Derived.SizedLaws
set_option linter.unusedSimpArgs false
set_option linter.unusedVariables false
namespace Go.PF
open Go.RowKit Go.ChangeShapes Go.WideShapes Go.ChangeAt

section
variable {H : Type} {enc : TypeId × Value → H} {P : Program}

/-- Whatever reads as data of type t is one of T's. -/
def Opens {α : Type} (P : Program) (t : TypeId) (T : Ty α) : Prop :=
  ∀ {H : Type} (enc : TypeId × Value → H) (w : World) (base : Nat) (spare : Nat → Bool) (held : Bool) (fuel : Nat) (cs : List Value) (x : DataW H × List MemPlace), DataW.trod enc P w base spare held fuel t cs = some x → ∃ a, T.rep (fun _ => True) w cs a

theorem Opens.slice {α : Type} {t e : TypeId} {T : Ty α} (ht : P.underlying t = some (.slice e)) (hn : P.cellsOf e = T.n) (h : Opens P e T) : Opens P t (sliceT T) := by
  intro H enc w base spare held fuel cs x hx
  rcases Go.Deep.open_slice ht hx with ⟨rfl, _⟩ | ⟨a, len, cap, m, n, D, Pl, rfl, _, hl, hm, hmm, _, hi⟩
  · exact ⟨[], _, rfl, SL.nil _ _ _⟩
  · have hlm : len ≤ m := by rw [hmm]; split <;> omega
    have hex : ∀ i, i < len → ∃ y cs', T.rep (fun _ => True) w cs' y ∧ ∀ j u, cs'[j]? = some u → w.cell? ((a.add (i * T.n)).add j) = some u := by
      intro i hil
      obtain ⟨cs', hc, htr⟩ := hi i (by omega)
      obtain ⟨y, hy⟩ := h enc w base spare held n cs' _ htr
      rw [hn] at hc
      obtain ⟨_, hcl, hat⟩ := World.cells?_some hc
      refine ⟨y, cs', hy, fun j u hj => ?_⟩
      have hjl : j < T.n := by rw [← hcl]; exact (List.getElem?_eq_some_iff.1 hj).1
      rw [hat j hjl, hj]
    let L : List α := (List.range len).attach.map fun i => Classical.choose (hex i.1 (List.mem_range.1 i.2))
    have hL : L.length = len := by simp [L]
    refine ⟨L, _, rfl, some a, cap, by rw [hL], by omega, by rw [hL]; have : maxLen = 9223372036854775807 := rfl; omega, ?_⟩
    intro i y hy
    have hil : i < len := by rw [← hL]; exact (List.getElem?_eq_some_iff.1 hy).1
    have e : y = Classical.choose (hex i hil) := by
      simp [L, hil] at hy
      exact hy.symm
    obtain ⟨cs', h1, h2⟩ := Classical.choose_spec (hex i hil)
    rw [← e] at h1
    exact ⟨a, cs', rfl, trivial, h2, h1⟩

/-- An argument that is a slice. -/
theorem Opens.arg {α : Type} {t e : TypeId} {T : Ty α} {W : World} {b0 : Nat} {v : Value} {d : DataW H} {ps : List MemPlace} (h : Opens P t (sliceT T)) (ht : P.underlying t = some (.slice e)) (hval : Value.okWide P W .any b0 t v) (hd : DataW.Trod enc P W 0 (fun _ => true) true t v d ps) :
    ∃ l, SL T (fun _ => True) W v l := by
  obtain ⟨fuel, hf⟩ := hd
  obtain ⟨l, v', hv', hl⟩ := h enc W _ _ _ _ _ _ hf
  obtain ⟨a, len, cap, rfl⟩ := okWide_slice ht hval
  simp [Value.cells] at hv'
  subst hv'
  exact ⟨l, hl⟩

/-- An argument that is a slice, and its length in the reading. -/
theorem Opens.argN {α : Type} {t e : TypeId} {T : Ty α} {W : World} {b0 : Nat} {v : Value} {d : DataW H} {ps : List MemPlace} (h : Opens P t (sliceT T)) (ht : P.underlying t = some (.slice e)) (hval : Value.okWide P W .any b0 t v) (hd : DataW.Trod enc P W 0 (fun _ => true) true t v d ps) :
    ∃ l, SL T (fun _ => True) W v l ∧ (l.length = 0 ∨ ∃ elems spare, d = .slice elems spare ∧ elems.length = l.length) := by
  obtain ⟨l, hl⟩ := h.arg ht hval hd
  refine ⟨l, hl, ?_⟩
  obtain ⟨fuel, hf⟩ := hd
  obtain ⟨A, cap, rfl, _⟩ := hl
  rcases Go.Deep.open_slice ht hf with ⟨hc, _⟩ | ⟨a, len, cap', m, n, D, Pl, hc, _, _, _, _, hx, _⟩
  · simp [Value.cells] at hc
    exact .inl (by simp [hc.2.1])
  · simp [Value.cells] at hc
    simp only [Prod.mk.injEq] at hx
    exact .inr ⟨_, _, hx.1, by simp [hc.2.1]⟩
theorem sized_len {ts : List TypeId} {ds : List (DataW H)} (h : (DataW.weightsEach P ts ds).all (· ≤ reachBytes) = true) {j : Nat} {t e : TypeId} {n k : Nat} (ht : ts[j]? = some t) (hu : P.underlying t = some (.slice e)) (hk : P.bytesOf e = k)
    (hn : n = 0 ∨ ∃ elems spare, ds[j]? = some (.slice elems spare) ∧ elems.length = n) : n * k ≤ 140737488351232 := by
  rcases hn with rfl | ⟨elems, spare, h1, rfl⟩
  · simp
  · have := sized_slice h ht h1 hu
    rw [hk, show reachBytes = 140737488351232 from rfl, Nat.add_mul] at this
    omega

/-- An argument that is a struct. -/
theorem Opens.argS {α : Type} {t : TypeId} {fs : Array Field} {T : Ty α} {W : World} {b0 : Nat} {v : Value} {d : DataW H} {ps : List MemPlace} (h : Opens P t T) (ht : P.underlying t = some (.struct fs)) (hval : Value.okWide P W .any b0 t v) (hd : DataW.Trod enc P W 0 (fun _ => true) true t v d ps) :
    ∃ a cs, v = .agg cs.toArray ∧ T.rep (fun _ => True) W cs a := by
  obtain ⟨fuel, hf⟩ := hd
  obtain ⟨a, ha⟩ := h enc W _ _ _ _ _ _ hf
  obtain ⟨cs, rfl, _⟩ := okWide_struct ht hval
  exact ⟨a, cs.toList, by simp, by simpa [Value.cells] using ha⟩

theorem stays_all (hl : laidOutB P = true) {W W' : World} {sp : Nat → Bool} : ∀ (ts : List TypeId) (vs : List Value) (ds : List (DataW H)) (ps : List MemPlace), (ts.all fun t => P.readableRec t && Nat.blt t P.types.size) = true → DataW.TrodAll enc P W 0 (fun _ => true) true ts vs ds ps →
    (∀ p ∈ ps, W.sameAt W' p) → (∀ p ∈ ps, sp p.block = true) → DataW.TrodAll enc P W' 0 sp true ts vs ds ps
  | [], [], [], ps, _, h, _, _ => h
  | t :: ts, v :: vs, d :: ds, ps, ht, h, h1, h2 => by
    obtain ⟨p, q, hd, hr, rfl⟩ := h
    simp only [List.all_cons, Bool.and_eq_true] at ht
    refine ⟨p, q, WideElems.Trod_stays hl ht.1.1 (blt_iff.1 ht.1.2) hd (fun x hx => h1 x (List.mem_append.2 (.inl hx))) (fun x hx => h2 x (List.mem_append.2 (.inl hx))), ?_, rfl⟩
    exact stays_all hl ts vs ds q ht.2 hr (fun x hx => h1 x (List.mem_append.2 (.inr hx))) (fun x hx => h2 x (List.mem_append.2 (.inr hx)))
  | [], [], _ :: _, _, _, h, _, _ => h.elim
  | [], _ :: _, _, _, _, h, _, _ => h.elim
  | _ :: _, [], _, _, _, h, _, _ => h.elim
  | _ :: _, _ :: _, [], _, _, h, _, _ => h.elim

/-- A law's end: it said true, nothing old has turned. -/
theorem law_post {f : Func} {s : ChangeSpec} {apart fresh handsOn : Bool} {W W' : World} {args : Array Value} {ds gs : List (DataW H)} {before : List MemPlace} {tb : TypeId} (hl : laidOutB P = true) (hW : DataW.Whole enc P f.params.toList s.vars apart W args.toList ds gs before) (hvars : s.vars = [])
    (hpar : (f.params.toList.all fun t => P.readableRec t && Nat.blt t P.types.size) = true) (hrt : f.resultTypes = #[tb]) (htb : P.underlying tb = some .bool) (hsr : (s.fn H (ds ++ gs)).results = [.lit (.bool true)]) (hsa : (s.fn H (ds ++ gs)).args = ds) (hsv : (s.fn H (ds ++ gs)).vars = [])
    (hb : Below W.heap.size W W') : s.post enc P f apart fresh handsOn false W args (.bool true) W' := by
  have hlt : ∀ p ∈ before, p.block < W.heap.size := fun p hp => hW.lt p hp
  obtain ⟨p, q, hA, hV, hpq, hz, hn⟩ := id hW
  rw [hvars] at hV
  have hq : q = [] := by
    cases gs with
    | nil => exact hV
    | cons g gs => exact hV.elim
  subst hq
  rw [List.append_nil] at hpq
  subst hpq
  refine ⟨ds, gs, before, [], before, [], hW, ?_, ?_, ?_, World.keptBut_mono (fun x hx => ⟨hx, .inr (.inl hx)⟩) (hb.frame (· ∈ before)), fun h => by cases h⟩
  · rw [hsr, hrt]
    exact trodAll_mk1 ⟨1, by simp [DataW.trod, Value.cells, htb]⟩
  · rw [hsa]
    exact stays_all hl _ _ _ _ hpar hA (fun x hx => hb.same (hlt x hx)) (fun x hx => by simpa using hlt x hx)
  · rw [hsv, hvars]; rfl

theorem law_calls {f : Func} {k : FuncId} {s : ChangeSpec} {apart fresh handsOn : Bool} {W : World} {args : Array Value} {ds gs : List (DataW H)} {before : List MemPlace} {tb : TypeId} (hl : laidOutB P = true) (hW : DataW.Whole enc P f.params.toList s.vars apart W args.toList ds gs before) (hvars : s.vars = [])
    (hpar : (f.params.toList.all fun t => P.readableRec t && Nat.blt t P.types.size) = true) (hrt : f.resultTypes = #[tb]) (htb : P.underlying tb = some .bool) (hsr : (s.fn H (ds ++ gs)).results = [.lit (.bool true)]) (hsa : (s.fn H (ds ++ gs)).args = ds) (hsv : (s.fn H (ds ++ gs)).vars = [])
    (h : Gives P k args W fun u W' => Below W.heap.size W W' ∧ u = .bool true) : Calls P k args W fun e W' => ∃ v, e = .returned v ∧ s.post enc P f apart fresh handsOn false W args v W' :=
  h.mono fun u W' ⟨hb, hu⟩ => by
    subst hu
    exact law_post hl hW hvars hpar hrt htb hsr hsa hsv hb
end
end Go.PF
