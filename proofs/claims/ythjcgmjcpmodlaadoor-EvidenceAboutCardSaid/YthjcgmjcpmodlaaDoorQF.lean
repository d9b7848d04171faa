/- Texts joined: Ya Wt DrawR Orow Vb Vs Ve Vf. -/
import Derived.Test.YthjcgmjcpmodlaaDoorQE
import Derived.Test.YthjcgmjcpmodlaaDoorQC
import Derived.Lib.ItoaLen
import Derived.Lib.Join
import Derived.Test.YthjcgmjcpmodlaaDoorQD
import Derived.Test.YthjcgmjcpmodlaaDoorQFacts
import Derived.Lib.RowBridge
import Derived.Sort.OwnSortedInts
set_option linter.unusedSimpArgs false
set_option linter.unusedVariables false

namespace Go.Proofs.YthjcgmjcpmodlaaDoor
open Go.PF Go.RowKit Go.Ord

end Go.Proofs.YthjcgmjcpmodlaaDoor

/- Plain: a text of numbers tells the numbers. -/
namespace Go.Ord
open Go.Lib
def natOf (l : List UInt8) : Nat := l.foldl (fun a b => 10 * a + (b.toNat - 48)) 0
theorem natOf_snoc (l : List UInt8) (b : UInt8) : natOf (l ++ [b]) = 10 * natOf l + (b.toNat - 48) := by
  unfold natOf
  rw [List.foldl_append]
  rfl
theorem dig_toNat {d : Nat} (h : d < 10) : (UInt8.ofNat (48 + d)).toNat = 48 + d := by
  rw [UInt8.toNat_ofNat']
  omega
theorem natOf_dec (u : Nat) : natOf (decDigits u) = u := by
  induction u using Nat.strongRecOn with
  | ind u ih =>
    rw [decDigits]
    split
    · rename_i h
      show 10 * 0 + ((UInt8.ofNat (48 + u)).toNat - 48) = u
      rw [dig_toNat h]
      omega
    · rename_i h
      rw [natOf_snoc, ih (u / 10) (by omega), dig_toNat (by omega)]
      omega
theorem dec_chars (u : Nat) : ∀ b ∈ decDigits u, 48 ≤ b.toNat ∧ b.toNat ≤ 57 := by
  induction u using Nat.strongRecOn with
  | ind u ih =>
    rw [decDigits]
    split
    · rename_i h
      intro b hb
      rw [List.mem_singleton] at hb
      subst hb
      rw [dig_toNat h]
      omega
    · rename_i h
      intro b hb
      rcases List.mem_append.1 hb with hb | hb
      · exact ih (u / 10) (by omega) b hb
      · rw [List.mem_singleton] at hb
        subst hb
        rw [dig_toNat (by omega)]
        omega
theorem dec_ne (u : Nat) : decDigits u ≠ [] := fun h => by
  have := decDigits_length u
  have h2 := nDigits_pos u
  rw [h] at this
  simp at this
  omega
theorem itoa_inj {m n : Int} (h : itoa m = itoa n) : m = n := by
  unfold itoa at h
  have hc : ∀ (a b : Nat), (45 : UInt8) :: decDigits a = decDigits b → False := fun a b e => by
    have := dec_chars b 45 (by rw [← e]; simp)
    have h45 : (45 : UInt8).toNat = 45 := rfl
    omega
  by_cases h1 : m < 0 <;> by_cases h2 : n < 0
  · rw [if_pos h1, if_pos h2] at h
    have := congrArg natOf (List.cons.inj h).2
    rw [natOf_dec, natOf_dec] at this
    omega
  · rw [if_pos h1, if_neg h2] at h
    exact (hc _ _ h).elim
  · rw [if_neg h1, if_pos h2] at h
    exact (hc _ _ h.symm).elim
  · rw [if_neg h1, if_neg h2] at h
    have := congrArg natOf h
    rw [natOf_dec, natOf_dec] at this
    omega
theorem itoa_blank (n : Int) : (32 : UInt8) ∉ itoa n := by
  have h32 : (32 : UInt8).toNat = 32 := rfl
  unfold itoa
  split
  · intro h
    rcases List.mem_cons.1 h with h | h
    · exact absurd h (by decide)
    · have := dec_chars _ _ h; omega
  · intro h
    have := dec_chars _ _ h
    omega
theorem itoa_len {n : Int} (h0 : -9223372036854775808 ≤ n) (h1 : n ≤ 9223372036854775807) : (itoa n).length ≤ 21 := by
  unfold itoa
  split
  · rw [List.length_cons, decDigits_length]
    have := nDigits_le20 n.natAbs (by omega)
    omega
  · rw [decDigits_length]
    have := nDigits_le20 n.toNat (by omega)
    omega
/-- the words of a text -/
def wds : List UInt8 → List (List UInt8)
  | [] => [[]]
  | c :: cs => if c = 32 then [] :: wds cs else match wds cs with
    | [] => [[c]]
    | x :: xs => (c :: x) :: xs
theorem wds_word : ∀ {w : List UInt8}, (32 : UInt8) ∉ w → wds w = [w]
  | [], _ => rfl
  | c :: w, h => by
    have h1 : c ≠ 32 := fun e => h (by simp [e])
    have h2 := wds_word (w := w) (fun e => h (by simp [e]))
    simp [wds, h1, h2]
theorem wds_cons : ∀ {w rest : List UInt8}, (32 : UInt8) ∉ w → wds (w ++ 32 :: rest) = w :: wds rest
  | [], rest, _ => by simp [wds]
  | c :: w, rest, h => by
    have h1 : c ≠ 32 := fun e => h (by simp [e])
    have h2 := wds_cons (w := w) (rest := rest) (fun e => h (by simp [e]))
    show wds (c :: (w ++ 32 :: rest)) = _
    rw [wds, if_neg h1, h2]
theorem join_cons2 (x y : List UInt8) (xs : List (List UInt8)) : join (x :: y :: xs) [32] = x ++ 32 :: join (y :: xs) [32] := by
  unfold join List.intercalate
  simp [List.intersperse]
theorem join_one (x : List UInt8) : join [x] [32] = x := by
  unfold join List.intercalate
  simp
theorem wds_join : ∀ {xs : List (List UInt8)}, xs ≠ [] → (∀ x ∈ xs, (32 : UInt8) ∉ x) → wds (join xs [32]) = xs
  | [], h, _ => absurd rfl h
  | [x], _, h => by rw [join_one, wds_word (h x (by simp))]
  | x :: y :: xs, _, h => by
    rw [join_cons2, wds_cons (h x (by simp)), wds_join (by simp) fun z hz => h z (by simp at hz ⊢; exact .inr hz)]
theorem join_len : ∀ (xs : List (List UInt8)), (∀ x ∈ xs, x.length ≤ 21) → (join xs [32]).length ≤ xs.length * 22
  | [], _ => by simp [join]
  | [x], h => by rw [join_one]; have := h x (by simp); simp; omega
  | x :: y :: xs, h => by
    rw [join_cons2]
    have h1 := h x (by simp)
    have h2 := join_len (y :: xs) fun z hz => h z (by simp at hz ⊢; exact .inr hz)
    simp only [List.length_append, List.length_cons] at h2 ⊢
    omega
theorem map_itoa_inj : ∀ {a b : List Int}, a.map itoa = b.map itoa → a = b
  | [], [], _ => rfl
  | [], _ :: _, h => by simp at h
  | _ :: _, [], h => by simp at h
  | x :: a, y :: b, h => by
    simp only [List.map_cons, List.cons.injEq] at h
    rw [itoa_inj h.1, map_itoa_inj h.2]
def wordsE (e : Ev) : List ByteArray := (keyE e).map fun n => ⟨(itoa n).toArray⟩
def textE (e : Ev) : ByteArray := ⟨(join ((wordsE e).map (·.data.toList)) [32]).toArray⟩
theorem wordsE_lists (e : Ev) : (wordsE e).map (·.data.toList) = (keyE e).map itoa := by
  unfold wordsE
  rw [List.map_map]
  refine List.map_congr_left fun n _ => ?_
  simp
theorem textE_inj {e f : Ev} (h : textE e = textE f) : e = f := by
  unfold textE at h
  have h1 : join ((keyE e).map itoa) [32] = join ((keyE f).map itoa) [32] := by
    rw [wordsE_lists, wordsE_lists] at h
    have := congrArg (fun s : ByteArray => s.data.toList) h
    simpa using this
  have hn : ∀ g : Ev, (keyE g).map itoa ≠ [] := fun g h => by simp [keyE] at h
  have hb : ∀ g : Ev, ∀ x ∈ (keyE g).map itoa, (32 : UInt8) ∉ x := fun g x hx => by
    obtain ⟨n, _, rfl⟩ := List.mem_map.1 hx
    exact itoa_blank n
  have h2 := congrArg wds h1
  rw [wds_join (hn e) (hb e), wds_join (hn f) (hb f)] at h2
  exact keyE_inj (map_itoa_inj h2)
end Go.Ord

/- A drawn region (or a stretch of one) in which one operation writes a row that was there before: append onto a row of a map, in place. -/
namespace Go.PF
open Go.RowKit
theorem GB.refl {o : Option Nat} (w : World) : w.grownBy w o := ⟨rfl, rfl, rfl, Nat.le_refl _, fun _ _ _ => rfl⟩
theorem GB.trans {o : Option Nat} {a b c : World} (h : a.grownBy b o) (k : b.grownBy c o) : a.grownBy c o :=
  ⟨k.os.trans h.os, k.tape.trans h.tape, k.output.trans h.output, Nat.le_trans h.size k.size, fun i hi hn => (k.block i (Nat.lt_of_lt_of_le hi h.size) hn).trans (h.block i hi hn)⟩
theorem GB.of_below {o : Option Nat} {w w' : World} (h : Below w.heap.size w w') : w.grownBy w' o := ⟨h.os, h.tape, h.output, h.size, fun k hk _ => h.block k hk⟩
theorem GB.cell {o : Option Nat} {w w' : World} {ad : Addr} {v : Value} (h : w.grownBy w' o) (hc : w.cell? ad = some v) (hne : o ≠ some ad.block) : w'.cell? ad = some v :=
  (World.cell?_of_block (h.block _ (block_lt_of_cell hc) (fun e => hne e.symm))).trans hc
theorem GB.blk {o : Option Nat} {k : Nat} {w w' : World} {t : TypeId} {cs : List Value} (h : w.grownBy w' o) (hB : Blk w k t cs) (hne : o ≠ some k) : Blk w' k t cs := (h.block k hB.lt (fun e => hne e.symm)).trans hB

theorem once_one {κ : Type} {M : List (κ × Value)} (h : M.Pairwise fun p q => p.1 ≠ q.1) {r : κ} {v v' : Value} (h1 : (r, v) ∈ M) (h2 : (r, v') ∈ M) : v = v' := by
  obtain ⟨i, hi, e1⟩ := List.getElem_of_mem h1
  obtain ⟨j, hj, e2⟩ := List.getElem_of_mem h2
  have hp := List.pairwise_iff_getElem.1 h
  rcases Nat.lt_trichotomy i j with q | q | q
  · have := hp i j hi hj q
    rw [e1, e2] at this
    exact absurd rfl this
  · subst q
    rw [e1] at e2
    simp only [Prod.mk.injEq] at e2
    exact e2.2
  · have := hp j i hj hi q
    rw [e1, e2] at this
    exact absurd rfl this
def tokAt (d : Nat) (p : Oper) : Bool := match p.dst with
  | some x => Nat.beq x d
  | none => false
def rowD (w0 : World) (o : Option Nat) (d : Nat) : Disc w0 where
  rel := fun w => w0.grownBy w o
  tok := tokAt d
  lock := fun w => ∀ k, o = some k → k < w0.heap.size → w.heap[k]? = w0.heap[k]?
  still := fun w w' => Below w.heap.size w w'
  lock_still := fun w w' hs hl k hk hlt => by
    have h := hl k hk hlt
    have hk' : k < w.heap.size := by
      rw [Array.getElem?_eq_getElem hlt] at h
      exact (Array.getElem?_eq_some_iff.1 h).1
    exact (hs.block k hk').trans h
  still_refl := fun w => Below.refl _ w
  good := fun b e => ∀ v w w', w0.grownBy w o → w.grownBy w' o → (b = true → Below w.heap.size w w') → e.sat v w → e.sat v w'
  foot := fun _ _ _ => False
  step := fun w w' _ => w.grownBy w' o
  foot_ex := fun _ _ _ h => h
  step_refl := fun w _ => GB.refl w
  rel_step := fun w w' _ hr h => hr.trans h
  keep := fun _ e hg v w w' _ hr hs hb _ h => hg v w w' hr hs hb h
  bound := fun _ _ _ _ _ _ _ h => h.elim
  inv := fun _ => True
  inv_step := fun _ _ _ _ _ => trivial

section
variable {P : Program} {r : Option Nat} {Q : Exit → Act → World → Prop} {N : Nat} {ds : List Deferred} {ops rest : List Oper} {D : DE} {w : World} {o : Option Nat} {tk : Nat} {G : Option Bool} {Fin : DE → Prop}

/-- the lexical walk -/
def DR (P : Program) (N : Nat) (ds : List Deferred) (ops : List Oper) (w0 : World) (o : Option Nat) (tk : Nat) (Fin : DE → Prop) : List Oper → DE → Prop
  | [], D => Fin D
  | p :: rest, D => ∃ G e, DOneA P N ds ops (rowD w0 o tk) p D G e [] ∧ DR P N ds ops w0 o tk Fin rest (dins D p.dst G e)

theorem DR.entries : ∀ {rest : List Oper} {D : DE}, DR P N ds ops w o tk Fin rest D →
    ∃ ges : List Lay, ges.length = rest.length ∧ Fin (laidO D rest ges) ∧
      ∀ i p G e s, rest[i]? = some p → ges[i]? = some (G, e, s) → DOneA P N ds ops (rowD w o tk) p (laidO D (rest.take i) (ges.take i)) G e s
  | [], D, h => ⟨[], rfl, h, fun i p G e s h1 _ => by simp at h1⟩
  | p :: rest, D, h => by
    obtain ⟨G, e, h1, h2⟩ := h
    rw [← ddrop_nil D] at h2
    obtain ⟨ges, hl, hF, hi⟩ := DR.entries h2
    refine ⟨(G, e, []) :: ges, by simp [hl], hF, ?_⟩
    intro i p' G' e' s' ho he
    cases i with
    | zero =>
      simp at ho he
      obtain ⟨rfl, rfl, rfl⟩ := he
      subst ho
      simpa [laidO] using h1
    | succ i =>
      simp at ho he
      simpa [laidO] using hi i p' G' e' s' ho he

theorem tokAt_dst {p : Oper} {d : Nat} (h : tokAt d p = true) : p.dst = some d := by
  unfold tokAt at h
  split at h
  · rename_i x hx
    rw [hx, Nat.eq_of_beq_eq_true h]
  · cases h

/-- a stretch, whose operation into slot tk may write the row o -/
theorem RW.drawRow {E : Env} {W : World} {s : Nat} (o : Option Nat) (tk t : Nat) (hlex : lexOK ops = true) (hcut : cutOK ops s t = true) (hst : Nat.ble s t = true) (htl : Nat.ble t ops.length = true) (hb : Below w.heap.size w W)
    (h : DR P N ds ops w o tk (fun D => ∀ a w', w.grownBy w' o → FitD N ds D a w' → RK P r Q ops t a w') (stretch ops s t) (lift E)) : RW P r Q N ds ops s E W := by
  have hst := Nat.le_of_ble_eq_true hst
  have htl := Nat.le_of_ble_eq_true htl
  intro a ha listed fuel hsz hls hfu
  obtain ⟨ges, hl, hF, hstep⟩ := DR.entries h
  have hl' : ges.length = t - s := by rw [hl]; unfold stretch; simp; omega
  refine draw_sound (N := N) (ds := ds) (w0 := w) (a0 := a) (D0 := lift E) (ges := ges) (rowD w o tk) hlex hcut hst htl hl' ?_ (fun i j p p' hi hj h1 h2 => ?_) ?_ ?_ fuel listed a W hsz ?_ ?_
  · intro i p G e E hi hg
    have hil : i < t - s := by rw [← hl']; exact (List.getElem?_eq_some_iff.1 hg).1
    exact hstep i p G e E (by rw [stretch_get, if_pos hil]; exact hi) hg
  · have h1 := tokAt_dst h1
    have h2 := tokAt_dst h2
    rcases ((lexOK_spec hlex hi hj).2 _ h2).1 with h | h
    · omega
    · exact absurd h1 h
  · intro i c e he
    rw [dlook_lift] at he
    cases hlk : look E i with
    | none => rw [hlk] at he; cases he
    | some p =>
      rw [hlk] at he
      simp only [Option.map_some, Option.some.injEq, Prod.mk.injEq] at he
      obtain ⟨rfl, rfl⟩ := he
      exact ⟨_, rfl, ha.slots i p.1 p.2 hlk⟩
  · intro fuel listed a w' hsz hls hfu hb' _ hfit
    exact hF a w' hb' hfit listed fuel hsz hls hfu
  · refine Nat.le_trans ?_ hfu
    have : (List.range ops.length).filter (fun k => !listed.getD k false) = (List.range ops.length).filter (fun k => decide (s ≤ k)) := by
      refine List.filter_congr fun k hk => ?_
      rw [hls k (by simpa using hk)]
      by_cases h1 : k < s <;> simp [h1] <;> omega
    rw [this, show ops.length = s + (ops.length - s) by omega, List.range_add, List.filter_append]
    simp
    rw [List.filter_eq_nil_iff.2 (by intro x hx; simp at hx; simp; omega)]
    refine Nat.le_trans (Nat.add_le_add_left (List.length_filter_le _ _) _) ?_
    simp
  · have hnl : ∀ k, s ≤ k → listed.getD k false = false := by
      intro k hk
      rcases Nat.lt_or_ge k ops.length with h | h
      · rw [hls k h]; simp; omega
      · simp [Array.getElem?_eq_none (show listed.size ≤ k by omega)]
    refine ⟨GB.of_below hb, fun k p _ _ _ _ j _ hj => hb.block j hj, trivial, ha.size, ha.defers, fun k hk => by rw [hls k (by omega)]; simp [hk], fun k hk => hnl k (by omega), ?_, ?_, fun _ _ _ _ _ _ _ => rfl, fun _ _ => rfl, ?_⟩
    · intro k o d G e E hk _ _ hlk
      rw [hnl _ (by omega)] at hlk; cases hlk
    · intro k o d G e E k' o' d' G' e' E' hk _ _ hlk
      rw [hnl _ (by omega)] at hlk; cases hlk
    · intro k o hk hlk e he hbi
      have hks : k < s := by
        rcases Nat.lt_or_ge k s with h | h
        · exact h
        · rw [hnl k h] at hlk; cases hlk
      have hon := (lexOK_spec hlex hk hk).1 e he hbi
      rw [hls e.on (by omega)]
      simp; omega

theorem DR.nil (h : Fin D) : DR P N ds ops w o tk Fin [] D := h
theorem DR.val {p : Oper} {v : Value} (hg : dgd ops D p.guard = some G) (hd : okDst N p.dst = true) (hn : noDefer p.op = true)
    (hrun : Cnd G → ∀ a w', w.grownBy w' o → FitL N ds (p.looksAt ops.toArray) D a w' → (execOp a.eval p).run P w' = .ok (.value v) w') (next : DR P N ds ops w o tk Fin rest (dins D p.dst G (.ex v))) : DR P N ds ops w o tk Fin (p :: rest) D :=
  ⟨G, .ex v, ⟨hg, hd, hn, fun _ _ _ _ _ _ h => h, rfl, fun s hs => by simp at hs, fun hG a w' hr _ ha => .inl ⟨v, w', hrun hG a w' hr ha, GB.refl _, fun _ => Below.refl _ _, rfl, fun _ h => h.elim⟩⟩, next⟩
variable {d : Option Tmp} {ty : TypeId} {pos : String} {af : Array Edge} {gu : Option (Nat × Bool)} {x y z : Operand} {cx cy cz : Option Bool}
theorem DR.move {vx : Value} (hg : dgd ops D gu = some G) (hd : okDst N d = true) (hx : dev D x = some (cx, .ex vx)) (ix : Cnd G → Cnd cx)
    (next : DR P N ds ops w o tk Fin rest (dins D d G (.ex vx))) : DR P N ds ops w o tk Fin (⟨d, .move x, ty, pos, af, gu⟩ :: rest) D :=
  DR.val hg hd rfl (fun hG _ _ _ ha => X.move (ha.eval (o := ⟨d, .move x, ty, pos, af, gu⟩) hx (by simp [Op.operands, Call.operands]) (ix hG))) next
theorem DR.nilCheck {ad : Addr} (hg : dgd ops D gu = some G) (hd : okDst N d = true) (hx : dev D x = some (cx, .ex (.pointer (some ad)))) (ix : Cnd G → Cnd cx)
    (next : DR P N ds ops w o tk Fin rest (dins D d G (.ex (.pointer (some ad))))) : DR P N ds ops w o tk Fin (⟨d, .nilCheck x, ty, pos, af, gu⟩ :: rest) D :=
  DR.val hg hd rfl (fun hG _ _ _ ha => X.nilCheck (ha.eval (o := ⟨d, .nilCheck x, ty, pos, af, gu⟩) hx (by simp [Op.operands, Call.operands]) (ix hG))) next
theorem DR.fieldAddr {ad : Addr} {off fi : Nat} {t : TypeId} (hg : dgd ops D gu = some G) (hd : okDst N d = true) (hf : fieldOff P t fi = some off) (hx : dev D x = some (cx, .ex (.pointer (some ad)))) (ix : Cnd G → Cnd cx)
    (next : DR P N ds ops w o tk Fin rest (dins D d G (.ex (.pointer (some (ad.add off)))))) : DR P N ds ops w o tk Fin (⟨d, .fieldAddr t x fi, ty, pos, af, gu⟩ :: rest) D :=
  DR.val hg hd rfl (fun hG _ _ _ ha => X.fieldAddr hf (ha.eval (o := ⟨d, .fieldAddr t x fi, ty, pos, af, gu⟩) hx (by simp [Op.operands, Call.operands]) (ix hG))) next
/-- hc: in every world that the region comes through -/
theorem DR.load {t : TypeId} {ad : Addr} {v : Value} (hg : dgd ops D gu = some G) (hd : okDst N d = true) (h1 : one P t = true) (hx : dev D x = some (cx, .ex (.pointer (some ad)))) (ix : Cnd G → Cnd cx) (hc : Cnd G → w.cell? ad = some v ∧ o ≠ some ad.block)
    (next : DR P N ds ops w o tk Fin rest (dins D d G (.ex v))) : DR P N ds ops w o tk Fin (⟨d, .load t x, ty, pos, af, gu⟩ :: rest) D :=
  DR.val hg hd rfl (fun hG _ _ hr ha => X.load h1 (ha.eval (o := ⟨d, .load t x, ty, pos, af, gu⟩) hx (by simp [Op.operands]) (ix hG)) (GB.cell hr (hc hG).1 (hc hG).2)) next
theorem DR.lookup1 {κ : Type} {kt : TypeId} (K : GKey P kt κ) {t et : TypeId} {zv v : Value} {b : Nat} {m : List (κ × Value)} (k : κ) (hg : dgd ops D gu = some none) (hd : okDst N d = true) (ht : P.underlying t = some (.map kt et)) (hz : (P.info? et).bind (·.zero) = some zv)
    (hx : dev D x = some (none, .ex (.map (some b)))) (hy : dev D y = some (none, .ex (K.enc k))) (hm : MapL K w b m) (hne : o ≠ some b) (hv : (k, v) ∈ m ∨ ((∀ p ∈ m, p.1 ≠ k) ∧ v = zv))
    (next : DR P N ds ops w o tk Fin rest (dins D d none (.ex v))) : DR P N ds ops w o tk Fin (⟨d, .lookup t x y false, ty, pos, af, gu⟩ :: rest) D := by
  refine DR.val hg hd rfl (fun _ a w' hr ha => ?_) next
  obtain ⟨u, hu, hrun⟩ := run_lookupL K ht hz (hm.kept (hr.block b hm.lt (fun e => hne e.symm))) k false
  simp only [execOp]
  rw [ha.eval (o := ⟨d, .lookup t x y false, ty, pos, af, gu⟩) hx (by simp [Op.operands]) trivial, ha.eval (o := ⟨d, .lookup t x y false, ty, pos, af, gu⟩) hy (by simp [Op.operands]) trivial]
  have hv' : u.getD zv = v := by
    cases u with
    | none =>
      rcases hv with h | ⟨_, h⟩
      · exact absurd rfl (hu _ h)
      · exact h.symm
    | some u' =>
      rcases hv with h | ⟨h, _⟩
      · exact once_one hm.once hu h
      · exact absurd rfl (h _ hu)
  simp [hrun, hv']
def LiesN (w0 : World) (e : TypeId) (len : Nat) (cs : List Value) (v : Value) (w : World) : Prop := ∃ g, v = .slice (some ⟨g, 0, none⟩) len len ∧ Blk w g e cs ∧ w0.heap.size ≤ g
theorem DR.buildSlice {t : TypeId} (e : TypeId) {sz len : Nat} {parts : Array (Nat × Operand)} (xs : List Operand) {vs cs : List Value} (ho : ∀ k, o = some k → k < w.heap.size) (hg : dgd ops D gu = some none) (hd : okDst N d = true) (hp : parts.toList = number xs) (he : elemOK P t e sz = true)
    (hx : DArgs (Oper.looksAt ops.toArray ⟨d, .buildSlice t len parts, ty, pos, af, gu⟩) N ds D none xs vs) (hl : len = vs.length)
    (hv : vs.all (fun v => Nat.beq v.cells.size sz) = true) (hsm : Nat.ble (vs.length * sz) 16777216 = true) (hpos : Nat.blt 0 vs.length = true) (hcs : vs.flatMap (fun v => v.cells.toList) = cs)
    (next : DR P N ds ops w o tk Fin rest (dins D d none (.pr (LiesN w e len cs)))) : DR P N ds ops w o tk Fin (⟨d, .buildSlice t len parts, ty, pos, af, gu⟩ :: rest) D := by
  subst hl
  have hv' : ∀ v ∈ vs, v.cells.size = sz := fun v hm => Nat.eq_of_beq_eq_true (List.all_eq_true.1 hv v hm)
  refine ⟨none, .pr (LiesN w e vs.length cs), ⟨hg, hd, rfl, fun v w1 w2 hr hs _ ⟨g, h1, h2, h3⟩ => ⟨g, h1, GB.blk hs h2 (fun e => by have := ho _ e; omega), h3⟩, rfl, fun s hs => by simp at hs, fun hG a w' hr _ ha => .inl ?_⟩, next⟩
  refine ⟨_, _, X.buildSlice hp rfl he (hx (fun t ht => mem_looks ?_) a w' ha hG) hv' (Nat.le_of_ble_eq_true hsm) (blt_iff.1 hpos), GB.of_below ((Below.refl _ _).alloc (Nat.le_refl _) _), fun _ => (Below.refl _ _).alloc (Nat.le_refl _) _, ⟨w'.heap.size, rfl, ?_, hr.size⟩, fun _ h => h.elim⟩
  · simp only [Op.operands]
    rw [hp]
    simp only [number, List.map_map]
    rw [List.mem_map]
    obtain ⟨j, hj, he⟩ := List.getElem_of_mem ht
    exact ⟨(Operand.tmp t, j), by rw [List.mem_zipIdx_iff_getElem?]; simp [he.symm], rfl⟩
  · rw [hcs]; exact Blk.new w' e cs
/-- the row, appended to -/
def AppE (w0 : World) (o : Option Nat) (e : TypeId) (sz n : Nat) (xs : List Value) (v : Value) (w : World) : Prop := OwnS w e sz v n xs ∧ (v.ownBlock = o ∨ ∃ g, v.ownBlock = some g ∧ w0.heap.size ≤ g)
theorem DR.append {t e : TypeId} {sz bytes n m : Nat} {s : Operand} {v : Value} {xs : List Value} (news : List Value) (hdt : d = some tk) (hg : dgd ops D gu = some none) (hd : okDst N d = true) (hog : growOK P t e sz bytes = true)
    (hs : dev D s = some (none, .ex v)) (hown : OwnS w e sz v n xs) (hvo : v.ownBlock = o) (hx : dev D x = some (none, .pr (LiesN w e m news))) (hl : news.length = m * sz) (h1 : ∀ u ∈ news, u.oneCell' = true)
    (hb : (n + m) * bytes ≤ 140737488355328) (hb0 : 1 ≤ bytes)
    (next : DR P N ds ops w o tk Fin rest (dins D d none (.pr (AppE w o e sz (n + m) (xs ++ news))))) :
    DR P N ds ops w o tk Fin (⟨d, .call ⟨.builtin .append, #[s, x], #[t, t]⟩, ty, pos, af, gu⟩ :: rest) D := by
  have htok : tokAt tk ⟨d, .call ⟨.builtin .append, #[s, x], #[t, t]⟩, ty, pos, af, gu⟩ = true := by subst hdt; simp [tokAt]
  refine ⟨none, .pr (AppE w o e sz (n + m) (xs ++ news)), ⟨hg, hd, rfl, fun u w1 w2 hr hs hbt ⟨h1, h2⟩ => ?_, rfl, fun s hs => by simp at hs, fun hG a w' hr hlk ha => .inl ?_⟩, next⟩
  · have hbt := hbt htok
    exact ⟨h1.below hbt, h2⟩
  · have hlk := hlk htok
    have hown' : OwnS w' e sz v n xs := hown.kept fun g hg => hlk g (hvo ▸ hg) (hown.lt hg)
    obtain ⟨g, hgv, hgB, hgl⟩ := ha.evalP (o := ⟨d, .call ⟨.builtin .append, #[s, x], #[t, t]⟩, ty, pos, af, gu⟩) hx (by simp [Op.operands, Call.operands]) trivial
    obtain ⟨v', w'', a1, a2, a3, a5⟩ := append_run (P := P) (ty := ty) (c := m) (A := some ⟨g, 0, none⟩) hog hown' hl (fun j u hj => ⟨_, rfl, hgB.fld hj⟩) h1 hb hb0
    refine ⟨v', w'', ?_, hvo ▸ a3, fun h => ?_, ⟨a2, ?_⟩, fun _ h => h.elim⟩
    · simp only [execOp, resolve, invoke, builtin, Sem.run_bind, Sem.run_pure, Result.andThen_ok, List.map_toArray, List.map_cons, List.map_nil]
      rw [ha.eval (o := ⟨d, .call ⟨.builtin .append, #[s, x], #[t, t]⟩, ty, pos, af, gu⟩) hs (by simp [Op.operands, Call.operands]) trivial, hgv]
      rw [a1]
      rfl
    · rw [show (rowD w o tk).tok = tokAt tk from rfl, htok] at h
      cases h
    · rcases a5 with h | h
      · exact .inl (h.trans hvo)
      · exact .inr ⟨_, h, hr.size⟩
theorem DR.finX {K : Act → World → Prop} (ks : List Nat) (E : Env) (hE : dpick D ks = some E) (is : List Nat) {es : List Ent} (hp : dsel D is = some es) (h : ∀ vs w', w.grownBy w' o → Sats es vs w' → KW N ds K (E ++ zipE is vs) w') :
    ∀ a w', w.grownBy w' o → FitD N ds D a w' → K a w' :=
  fun a w' hb ha => h _ w' hb (ha.sel hp) a ⟨ha.size, ha.defers, fun i c v hl => (look_app hl).elim ((ha.pick hE).slots i c v) ((ha.zip is).slots i c v)⟩
end
end Go.PF

/- More rules of drawn regions: a call that makes a row; the operation that writes the row is a call; sums. -/
namespace Go.PF
open Go.RowKit
section
variable {P : Program} {N : Nat} {ds : List Deferred} {ops rest : List Oper} {D : DE} {w : World} {G : Option Bool} {Fin : DE → Prop} {d : Option Tmp} {ty : TypeId} {pos : String} {af : Array Edge} {gu : Option (Nat × Bool)} {x y z : Operand} {cx cy cz : Option Bool}
/-- a call that makes a row -/
theorem OW.callRow {f : Operand} {k : FuncId} {cap : List Value} {cf : Option Bool} {xs : List Operand} {vs : List Value} {ts : Array TypeId} (e : TypeId) (sz n : Nat) (zs : List Value) (hg : dgd ops D gu = some G) (hd : okDst N d = true) (he : enters P k = true)
    (hf : dev D f = some (cf, .ex (.func (.func k) #[] cap.toArray))) (jf : Cnd G → Cnd cf) (hv : DArgs (Oper.looksAt ops.toArray ⟨d, .call ⟨.value f, xs.toArray, ts⟩, ty, pos, af, gu⟩) N ds D G xs vs)
    (hc : Cnd G → ∀ w', Below w.heap.size w w' → Gives P k (vs ++ cap).toArray w' fun v w'' => Below w'.heap.size w' w'' ∧ OwnS w'' e sz v n zs ∧ ∀ g, v.ownBlock = some g → w'.heap.size ≤ g)
    (next : DW P N ds .own ops w Fin rest (dins D d G (rowE w e sz n zs))) : DW P N ds .own ops w Fin (⟨d, .call ⟨.value f, xs.toArray, ts⟩, ty, pos, af, gu⟩ :: rest) D := by
  refine OW.enter (o := ⟨d, .call ⟨.value f, xs.toArray, ts⟩, ty, pos, af, gu⟩) (rowE w e sz n zs) [] hg hd rfl (rowE_strong _ _ _ _ _) rfl (fun s hs => by simp at hs) (fun hG a w' hb ha => ⟨_, _, X.call he (ha.eval (o := ⟨d, .call ⟨.value f, xs.toArray, ts⟩, ty, pos, af, gu⟩) hf (by simp [Op.operands, Call.operands]) (jf hG))
    (hv (fun t ht => mem_looks (by simp [Op.operands, Call.operands, ht])) a w' ha hG), (hc hG w' hb).mono fun v w'' ⟨h1, h2, h3⟩ => ?_⟩) (by rw [ddrop_nil]; exact next)
  exact ⟨stepO_below hb h1, ⟨h2, fun g hg => Nat.le_trans hb.size (h3 g hg)⟩, fun g hg => .inr (h3 g hg)⟩
variable {o : Option Nat} {tk : Nat}
/-- the operation that writes the row is a call -/
theorem DR.callTok {f : Operand} {k : FuncId} {cap : List Value} {cf : Option Bool} {xs : List Operand} {vs : List Value} {ts : Array TypeId} (φ : Value → World → Prop) (hm : ∀ v w w', Below w.heap.size w w' → φ v w → φ v w') (hdt : d = some tk) (hg : dgd ops D gu = some G) (hd : okDst N d = true) (he : enters P k = true)
    (hf : dev D f = some (cf, .ex (.func (.func k) #[] cap.toArray))) (jf : Cnd G → Cnd cf) (hv : DArgs (Oper.looksAt ops.toArray ⟨d, .call ⟨.value f, xs.toArray, ts⟩, ty, pos, af, gu⟩) N ds D G xs vs)
    (hc : Cnd G → ∀ w', w.grownBy w' o → (∀ g, o = some g → g < w.heap.size → w'.heap[g]? = w.heap[g]?) → Gives P k (vs ++ cap).toArray w' fun v w'' => w'.grownBy w'' o ∧ φ v w'')
    (next : DR P N ds ops w o tk Fin rest (dins D d G (.pr φ))) : DR P N ds ops w o tk Fin (⟨d, .call ⟨.value f, xs.toArray, ts⟩, ty, pos, af, gu⟩ :: rest) D := by
  have htok : tokAt tk ⟨d, .call ⟨.value f, xs.toArray, ts⟩, ty, pos, af, gu⟩ = true := by subst hdt; simp [tokAt]
  refine ⟨G, .pr φ, ⟨hg, hd, rfl, fun u w1 w2 hr hs hbt h => hm _ _ _ (hbt htok) h, rfl, fun s hs => by simp at hs, fun hG a w' hr hlk ha => .inr ?_⟩, next⟩
  refine ⟨_, _, X.call he (ha.eval (o := ⟨d, .call ⟨.value f, xs.toArray, ts⟩, ty, pos, af, gu⟩) hf (by simp [Op.operands, Call.operands]) (jf hG)) (hv (fun t ht => mem_looks (by simp [Op.operands, Call.operands, ht])) a w' ha hG), (hc hG w' hr (hlk htok)).mono fun v w'' ⟨h1, h2⟩ => ⟨h1, fun h => ?_, h2, fun _ h => h.elim⟩⟩
  rw [show (rowD w o tk).tok = tokAt tk from rfl, htok] at h
  cases h
theorem DR.add {m n : Int} {t t' : TypeId} (hg : dgd ops D gu = some G) (hd : okDst N d = true) (hx : dev D x = some (cx, .ex (.int .i64 m))) (ix : Cnd G → Cnd cx) (hy : dev D y = some (cy, .ex (.int .i64 n))) (iy : Cnd G → Cnd cy) (hb : Cnd G → -9223372036854775808 ≤ m + n ∧ m + n ≤ 9223372036854775807)
    (next : DR P N ds ops w o tk Fin rest (dins D d G (.ex (.int .i64 (m + n))))) : DR P N ds ops w o tk Fin (⟨d, .binOp .add t x y t', ty, pos, af, gu⟩ :: rest) D :=
  DR.val hg hd rfl (fun hG _ _ _ ha => X.add (ha.eval (o := ⟨d, .binOp .add t x y t', ty, pos, af, gu⟩) hx (by simp [Op.operands, Call.operands]) (ix hG)) (ha.eval (o := ⟨d, .binOp .add t x y t', ty, pos, af, gu⟩) hy (by simp [Op.operands, Call.operands]) (iy hG)) (hb hG)) next
theorem DR.sub {m n : Int} {t t' : TypeId} (hg : dgd ops D gu = some G) (hd : okDst N d = true) (hx : dev D x = some (cx, .ex (.int .i64 m))) (ix : Cnd G → Cnd cx) (hy : dev D y = some (cy, .ex (.int .i64 n))) (iy : Cnd G → Cnd cy) (hb : Cnd G → -9223372036854775808 ≤ m - n ∧ m - n ≤ 9223372036854775807)
    (next : DR P N ds ops w o tk Fin rest (dins D d G (.ex (.int .i64 (m - n))))) : DR P N ds ops w o tk Fin (⟨d, .binOp .sub t x y t', ty, pos, af, gu⟩ :: rest) D :=
  DR.val hg hd rfl (fun hG _ _ _ ha => X.sub (ha.eval (o := ⟨d, .binOp .sub t x y t', ty, pos, af, gu⟩) hx (by simp [Op.operands, Call.operands]) (ix hG)) (ha.eval (o := ⟨d, .binOp .sub t x y t', ty, pos, af, gu⟩) hy (by simp [Op.operands, Call.operands]) (iy hG)) (hb hG)) next
theorem DR.indexAddr {ad : Addr} {l c sz : Nat} {t e : TypeId} {k : IntKind} {i : Int} (hg : dgd ops D gu = some G) (hd : okDst N d = true) (ht : P.underlying t = some (.slice e)) (hs : (P.info? e).map (·.size) = some sz) (hx : dev D x = some (cx, .ex (.slice (some ad) l c))) (ix : Cnd G → Cnd cx) (hy : dev D y = some (cy, .ex (.int k i))) (iy : Cnd G → Cnd cy) (hi : Cnd G → 0 ≤ i ∧ i < (l : Int))
    (next : DR P N ds ops w o tk Fin rest (dins D d G (.ex (.pointer (some (ad.add (i.toNat * sz))))))) : DR P N ds ops w o tk Fin (⟨d, .indexAddr t x y, ty, pos, af, gu⟩ :: rest) D :=
  DR.val hg hd rfl (fun hG _ _ _ ha => X.indexAddr ht hs (ha.eval (o := ⟨d, .indexAddr t x y, ty, pos, af, gu⟩) hx (by simp [Op.operands, Call.operands]) (ix hG)) (ha.eval (o := ⟨d, .indexAddr t x y, ty, pos, af, gu⟩) hy (by simp [Op.operands, Call.operands]) (iy hG)) (hi hG)) next
/-- two ways that meet -/
theorem CW.join {r : Option Nat} {Q : Exit → Act → World → Prop} {c y : Code} {E : Env} (E' : Env) (J : World → Prop) (hx : (∀ W, J W → CW P r Q N ds y E' W) → CW P r (Exit.then (y.wpIn (FR r) 0 P Q) Q) N ds c E w) (hy : ∀ W, J W → CW P r Q N ds y E' W) : CW P r (Exit.then (y.wpIn (FR r) 0 P Q) Q) N ds c E w := hx hy
theorem CW.joinP {α : Type} {r : Option Nat} {Q : Exit → Act → World → Prop} {c y : Code} {E : Env} (E' : α → Env) (J : α → World → Prop) (hx : (∀ x W, J x W → CW P r Q N ds y (E' x) W) → CW P r (Exit.then (y.wpIn (FR r) 0 P Q) Q) N ds c E w) (hy : ∀ x W, J x W → CW P r Q N ds y (E' x) W) : CW P r (Exit.then (y.wpIn (FR r) 0 P Q) Q) N ds c E w := hx hy
/-- the ways out of a block meet -/
theorem CW.joinB {α : Type} {r : Option Nat} {Q : Exit → Act → World → Prop} {id : Nat} {c y : Code} {E : Env} (E' : α → Env) (J : α → World → Prop) (hx : (∀ x W, J x W → CW P r Q N ds y (E' x) W) → CW P r (Exit.inBlock id (Exit.then (y.wpIn (FR r) 0 P Q) Q)) N ds c E w) (hy : ∀ x W, J x W → CW P r Q N ds y (E' x) W) : CW P r (Exit.inBlock id (Exit.then (y.wpIn (FR r) 0 P Q) Q)) N ds c E w := hx hy
end
end Go.PF

namespace Go.Proofs.YthjcgmjcpmodlaaDoor
open Go.PF Go.RowKit Go.Ord

theorem isNaN_e {w : World} {x : Int} : Gives Tryd.prog 75 #[.int .i64 x] w fun u w' => w' = w ∧ u = .bool false := by
  refine gives_of (vs := [.int .i64 x]) [(0, none, _)] Tryd.func75 rfl Tryd.ntmps75 rfl rfl ?_
  refine CW.seq (CW.region ?_)
  refine TW.assign rfl rfl rfl ct ?_
  refine TW.nil (KW.pick [0, 2] [(0, _, _), (2, _, _)] rfl (KW.then_ ?_))
  refine CW.seq (CW.region ?_)
  refine TW.move rfl rfl rfl ct ?_
  refine TW.move rfl rfl rfl ct ?_
  refine TW.neq rfl rfl rfl ct rfl ct ?_
  refine TW.assign rfl rfl rfl ct ?_
  refine TW.nil (KW.pick [0, 2] [(0, _, _), (2, _, _)] rfl (KW.then_ ?_))
  refine CW.ret ?_
  refine ret1 Tryd.results75 rfl (⟨rfl, by simp⟩)

def cmp1 (a b : Int) : Int := if a < b then -1 else if b < a then 1 else 0
theorem compare_e {w : World} {a b : Int} : Gives Tryd.prog 67 #[.int .i64 a, .int .i64 b] w fun u w' => w' = w ∧ u = .int .i64 (cmp1 a b) := by
  refine gives_of (vs := [.int .i64 a, .int .i64 b]) [(0, none, _), (1, none, _)] Tryd.func67 rfl Tryd.ntmps67 rfl rfl ?_
  refine CW.seq (CW.region ?_)
  refine TW.assign rfl rfl rfl ct ?_
  refine TW.nil (KW.pick [0, 1, 4] [(0, _, _), (1, _, _), (4, _, _)] rfl (KW.then_ ?_))
  refine CW.seq (CW.region ?_)
  refine TW.move rfl rfl rfl ct ?_
  refine TW.call0 (cap := []) rfl rfl en75 rfl (Args.cons rfl ct Args.nil) (isNaN_e) ?_
  rintro y w1 ⟨rfl, rfl⟩
  refine TW.assign rfl rfl rfl ct ?_
  refine TW.nil (KW.pick [0, 1, 4, 5] [(0, _, _), (1, _, _), (4, _, _), (5, _, _)] rfl (KW.then_ ?_))
  refine CW.seq (CW.region ?_)
  refine TW.move rfl rfl rfl ct ?_
  refine TW.call0 (cap := []) rfl rfl en75 rfl (Args.cons rfl ct Args.nil) (isNaN_e) ?_
  rintro y w2 ⟨rfl, rfl⟩
  refine TW.assign rfl rfl rfl ct ?_
  refine TW.nil (KW.pick [0, 1, 4, 5, 6] [(0, _, _), (1, _, _), (4, _, _), (5, _, _), (6, _, _)] rfl (KW.then_ ?_))
  refine CW.seq (CW.seq (CW.region ?_))
  refine TW.move rfl rfl rfl ct ?_
  refine TW.nil (KW.pick [0, 1, 4, 5, 6, 11] [(0, _, _), (1, _, _), (4, _, _), (5, _, _), (6, _, _), (11, _, _)] rfl (KW.then_ ?_))
  refine CW.cond rfl (fun h1 => ?_) (fun h2 => ?_)
  · cases h1
  refine CW.skip (KW.then_ (CW.seq (CW.seq (CW.region ?_))))
  refine TW.move rfl rfl rfl ct ?_
  refine TW.nil (KW.pick [0, 1, 4, 5, 6, 13] [(0, _, _), (1, _, _), (4, _, _), (5, _, _), (6, _, _), (13, _, _)] rfl (KW.then_ ?_))
  refine CW.cond rfl (fun h1 => ?_) (fun h2 => ?_)
  · cases h1
  refine CW.skip (KW.then_ (CW.seq (CW.seq (CW.region ?_))))
  refine TW.move rfl rfl rfl ct ?_
  refine TW.move rfl rfl rfl ct ?_
  refine TW.lss rfl rfl rfl ct rfl ct ?_
  refine TW.nil (KW.pick [0, 1, 4, 5, 6, 16] [(0, _, _), (1, _, _), (4, _, _), (5, _, _), (6, _, _), (16, _, _)] rfl (KW.then_ ?_))
  refine CW.condP rfl (fun hlt => ?_) (fun hge => ?_)
  · refine CW.seq (CW.region ?_)
    refine TW.assign rfl rfl rfl ct ?_
    refine TW.nil (KW.pick [0, 1, 4, 5, 6] [(0, _, _), (1, _, _), (4, _, _), (5, _, _), (6, _, _)] rfl (KW.then_ ?_))
    refine CW.ret (KW.thenR ?_)
    refine ret1 Tryd.results67 rfl (⟨rfl, by unfold cmp1; rw [if_pos hlt]⟩)
  refine CW.skip (KW.then_ (CW.seq (CW.seq (CW.region ?_))))
  refine TW.move rfl rfl rfl ct ?_
  refine TW.move rfl rfl rfl ct ?_
  refine TW.gtr rfl rfl rfl ct rfl ct ?_
  refine TW.nil (KW.pick [0, 1, 4, 5, 6, 19] [(0, _, _), (1, _, _), (4, _, _), (5, _, _), (6, _, _), (19, _, _)] rfl (KW.then_ ?_))
  refine CW.condP rfl (fun hgt => ?_) (fun hle => ?_)
  · refine CW.seq (CW.region ?_)
    refine TW.assign rfl rfl rfl ct ?_
    refine TW.nil (KW.pick [0, 1, 4, 5, 6] [(0, _, _), (1, _, _), (4, _, _), (5, _, _), (6, _, _)] rfl (KW.then_ ?_))
    refine CW.ret (KW.thenR ?_)
    refine ret1 Tryd.results67 rfl (⟨rfl, by unfold cmp1; rw [if_neg hge, if_pos hgt]⟩)
  refine CW.skip (KW.then_ (CW.seq (CW.region ?_)))
  refine TW.assign rfl rfl rfl ct ?_
  refine TW.nil (KW.pick [0, 1, 4, 5, 6] [(0, _, _), (1, _, _), (4, _, _), (5, _, _), (6, _, _)] rfl (KW.then_ ?_))
  refine CW.ret ?_
  refine ret1 Tryd.results67 rfl (⟨rfl, by unfold cmp1; rw [if_neg hge, if_neg hle]⟩)

theorem cmpL_take : ∀ {a b : List Int} {k : Nat}, a.take k = b.take k → cmpL a b = cmpL (a.drop k) (b.drop k)
  | a, b, 0, _ => rfl
  | [], [], k + 1, _ => by simp
  | [], y :: b, k + 1, h => by simp at h
  | x :: a, [], k + 1, h => by simp at h
  | x :: a, y :: b, k + 1, h => by
    simp at h
    obtain ⟨rfl, h⟩ := h
    simp only [List.drop_succ_cons]
    rw [← cmpL_take h]
    simp [cmpL]

set_option maxRecDepth 20000 in
theorem scompare_e {w : World} {u v : Value} {a b : List Int} {F G : Nat → Prop} (ha : SL intT F w u a) (hb : SL intT G w v b) :
    Gives Tryd.prog 44 #[u, v] w fun x w' => w' = w ∧ x = .int .i64 (cmpL a b) := by
  obtain ⟨A, cap, rfl, _⟩ := ha.form
  obtain ⟨B, bcap, rfl, _⟩ := hb.form
  have hmax := ha.len.2.2
  refine gives_of (vs := [.slice A a.length cap, .slice B b.length bcap]) [(0, none, _), (1, none, _)] Tryd.func44 rfl Tryd.ntmps44 rfl rfl ?_
  refine CW.seq (CW.region ?_)
  refine TW.assign rfl rfl rfl ct ?_
  refine TW.nil (KW.pick [0, 1, 4] [(0, _, _), (1, _, _), (4, _, _)] rfl (KW.then_ ?_))
  refine CW.seq (CW.seq (CW.region ?_))
  refine TW.move rfl rfl rfl ct ?_
  refine TW.lenSlice rfl rfl Tryd.underlying29 rfl ct ?_
  refine TW.move rfl rfl rfl ct ?_
  refine TW.nil (KW.pick [0, 1, 4, 9, 10, 11] [(0, _, _), (1, _, _), (4, _, _), (9, _, _), (10, _, _), (11, _, _)] rfl (KW.then_ ?_))
  refine CW.block ?_
  refine CW.loopS (fun k : Nat => [(0, none, .slice A a.length cap), (1, none, .slice B b.length bcap), (9, none, .slice A a.length cap), (10, none, .int .i64 (a.length : Int)), (11, none, .int .i64 (k : Int))])
    (fun k W => k ≤ a.length ∧ k ≤ b.length ∧ a.take k = b.take k ∧ W = w) (fun k => a.length - k) 0 [0, 1, 9, 10, 11] ⟨by omega, by omega, by simp, rfl⟩ rfl ?_
  rintro k W ⟨hk, hkb, hpre, rfl⟩
  refine CW.seq (CW.region ?_)
  refine TW.lss rfl rfl rfl ct rfl ct ?_
  refine TW.nil (KW.pick [0, 1, 9, 10, 11, 12] [(0, _, _), (1, _, _), (9, _, _), (10, _, _), (11, _, _), (12, _, _)] rfl (KW.then_ ?_))
  refine CW.seq ?_
  refine CW.condP rfl (fun hlt => ?_) (fun hge => ?_)
  · obtain ⟨x, hx, hxm⟩ := getx (l := a) (k := k) (by omega)
    obtain ⟨ad, rfl⟩ := ha.addr (by omega)
    obtain ⟨hka, hxe⟩ := List.getElem?_eq_some_iff.1 hx
    have hda : a.drop k = x :: a.drop (k + 1) := by rw [← hxe, ← List.drop_eq_getElem_cons hka]
    refine CW.skip (KW.then_ (CW.seq (CW.block (CW.seq (CW.region ?_)))))
    refine TW.move rfl rfl rfl ct ?_
    refine TW.indexAddr rfl rfl Tryd.underlying29 sz3 rfl ct rfl ct (fun _ => by (try dsimp only); omega) ?_
    refine TW.load rfl rfl one3 rfl ct (fun _ => ha.getI hx) ?_
    refine TW.assign rfl rfl rfl ct ?_
    refine TW.assign rfl rfl rfl ct ?_
    refine TW.nil (KW.pick [0, 1, 5, 6, 9, 10, 11] [(0, _, _), (1, _, _), (5, _, _), (6, _, _), (9, _, _), (10, _, _), (11, _, _)] rfl (KW.then_ ?_))
    refine CW.seq (CW.seq (CW.region ?_))
    refine TW.move rfl rfl rfl ct ?_
    refine TW.move rfl rfl rfl ct ?_
    refine TW.lenSlice rfl rfl Tryd.underlying29 rfl ct ?_
    refine TW.geq rfl rfl rfl ct rfl ct ?_
    refine TW.nil (KW.pick [0, 1, 5, 6, 9, 10, 11, 19] [(0, _, _), (1, _, _), (5, _, _), (6, _, _), (9, _, _), (10, _, _), (11, _, _), (19, _, _)] rfl (KW.then_ ?_))
    refine CW.condP rfl (fun hend => ?_) (fun hin => ?_)
    · refine CW.seq (CW.region ?_)
      refine TW.assign rfl rfl rfl ct ?_
      refine TW.nil (KW.pick [0, 1, 4, 5, 6, 9, 10, 11] [(0, _, _), (1, _, _), (4, _, _), (5, _, _), (6, _, _), (9, _, _), (10, _, _), (11, _, _)] rfl (KW.then_ ?_))
      refine CW.ret (KW.thenR (KW.blockR (KW.thenR (KW.thenR (KW.blockR (KW.thenR ?_))))))
      refine ret1 Tryd.results44 rfl (⟨rfl, ?_⟩)
      rw [cmpL_take hpre, hda, List.drop_of_length_le (l := b) (by omega)]
      rfl
    obtain ⟨y, hy, hym⟩ := getx (l := b) (k := k) (by omega)
    obtain ⟨bd, rfl⟩ := hb.addr (by omega)
    obtain ⟨hkb2, hye⟩ := List.getElem?_eq_some_iff.1 hy
    have hdb : b.drop k = y :: b.drop (k + 1) := by rw [← hye, ← List.drop_eq_getElem_cons hkb2]
    refine CW.skip (KW.then_ (CW.seq (CW.region ?_)))
    refine TW.move rfl rfl rfl ct ?_
    refine TW.move rfl rfl rfl ct ?_
    refine TW.indexAddr rfl rfl Tryd.underlying29 sz3 rfl ct rfl ct (fun _ => by (try dsimp only); omega) ?_
    refine TW.load rfl rfl one3 rfl ct (fun _ => hb.getI hy) ?_
    refine TW.assign rfl rfl rfl ct ?_
    refine TW.nil (KW.pick [0, 1, 5, 6, 7, 9, 10, 11] [(0, _, _), (1, _, _), (5, _, _), (6, _, _), (7, _, _), (9, _, _), (10, _, _), (11, _, _)] rfl (KW.then_ ?_))
    refine CW.seq (CW.region ?_)
    refine TW.move rfl rfl rfl ct ?_
    refine TW.move rfl rfl rfl ct ?_
    refine TW.call0 (cap := []) rfl rfl en67 rfl (Args.cons rfl ct (Args.cons rfl ct Args.nil)) (compare_e) ?_
    rintro z w1 ⟨rfl, rfl⟩
    refine TW.assign rfl rfl rfl ct ?_
    refine TW.nil (KW.pick [0, 1, 5, 6, 7, 8, 9, 10, 11] [(0, _, _), (1, _, _), (5, _, _), (6, _, _), (7, _, _), (8, _, _), (9, _, _), (10, _, _), (11, _, _)] rfl (KW.then_ ?_))
    refine CW.seq (CW.region ?_)
    refine TW.move rfl rfl rfl ct ?_
    refine TW.neq rfl rfl rfl ct rfl ct ?_
    refine TW.nil (KW.pick [0, 1, 5, 6, 7, 8, 9, 10, 11, 28] [(0, _, _), (1, _, _), (5, _, _), (6, _, _), (7, _, _), (8, _, _), (9, _, _), (10, _, _), (11, _, _), (28, _, _)] rfl (KW.then_ ?_))
    refine CW.condP rfl (fun hne => ?_) (fun heq => ?_)
    · refine CW.seq (CW.region ?_)
      refine TW.move rfl rfl rfl ct ?_
      refine TW.assign rfl rfl rfl ct ?_
      refine TW.nil (KW.pick [0, 1, 4, 5, 6, 7, 8, 9, 10, 11] [(0, _, _), (1, _, _), (4, _, _), (5, _, _), (6, _, _), (7, _, _), (8, _, _), (9, _, _), (10, _, _), (11, _, _)] rfl (KW.then_ ?_))
      refine CW.ret (KW.blockR (KW.thenR (KW.thenR (KW.blockR (KW.thenR ?_)))))
      refine ret1 Tryd.results44 rfl (⟨rfl, ?_⟩)
      rw [cmpL_take hpre, hda, hdb]
      unfold cmp1 at hne ⊢
      unfold cmpL
      split
      · rfl
      · split
        · rfl
        · rename_i h1 h2
          rw [if_neg h1, if_neg h2] at hne
          exact absurd rfl hne
    · have hxy : x = y := by
        have h0 : cmp1 x y = 0 := by
          apply Classical.byContradiction
          exact heq
        unfold cmp1 at h0
        split at h0
        · cases h0
        · split at h0
          · cases h0
          · omega
      refine CW.skip (KW.blockN (KW.then_ (CW.region ?_)))
      refine TW.add rfl rfl rfl ct rfl ct (fun _ => by (try dsimp only); omega) ?_
      refine TW.move rfl rfl rfl ct ?_
      refine TW.nil (KW.pick [0, 1, 5, 6, 7, 8, 9, 10, 11] [(0, _, _), (1, _, _), (5, _, _), (6, _, _), (7, _, _), (8, _, _), (9, _, _), (10, _, _), (11, _, _)] rfl ?_)
      refine KW.round (k + 1) [0, 1, 9, 10, 11] rfl ⟨by omega, by omega, ?_, rfl⟩ (by omega)
      rw [List.take_add_one, List.take_add_one, hx, hy, hpre, hxy]
  · have hke : k = a.length := by omega
    subst hke
    rw [List.take_length] at hpre
    have hda : a.drop a.length = [] := List.drop_length
    refine CW.exit (KW.thenX (KW.thenX (KW.blockX (KW.then_ (CW.seq (CW.seq (CW.region ?_)))))))
    refine TW.move rfl rfl rfl ct ?_
    refine TW.lenSlice rfl rfl Tryd.underlying29 rfl ct ?_
    refine TW.move rfl rfl rfl ct ?_
    refine TW.lenSlice rfl rfl Tryd.underlying29 rfl ct ?_
    refine TW.lss rfl rfl rfl ct rfl ct ?_
    refine TW.nil (KW.pick [0, 1, 9, 10, 11, 35] [(0, _, _), (1, _, _), (9, _, _), (10, _, _), (11, _, _), (35, _, _)] rfl (KW.then_ ?_))
    refine CW.condP rfl (fun hlt2 => ?_) (fun hge2 => ?_)
    · obtain ⟨y, hy, hym⟩ := getx (l := b) (k := a.length) (by omega)
      obtain ⟨hkb2, hye⟩ := List.getElem?_eq_some_iff.1 hy
      have hdb : b.drop a.length = y :: b.drop (a.length + 1) := by rw [← hye, ← List.drop_eq_getElem_cons hkb2]
      refine CW.seq (CW.region ?_)
      refine TW.assign rfl rfl rfl ct ?_
      refine TW.nil (KW.pick [0, 1, 4, 9, 10, 11] [(0, _, _), (1, _, _), (4, _, _), (9, _, _), (10, _, _), (11, _, _)] rfl (KW.then_ ?_))
      refine CW.ret (KW.thenR ?_)
      refine ret1 Tryd.results44 rfl (⟨rfl, ?_⟩)
      rw [cmpL_take (k := a.length) (by rw [List.take_length]; exact hpre), hda, hdb]
      rfl
    · refine CW.skip (KW.then_ (CW.seq (CW.region ?_)))
      refine TW.assign rfl rfl rfl ct ?_
      refine TW.nil (KW.pick [0, 1, 4, 9, 10, 11] [(0, _, _), (1, _, _), (4, _, _), (9, _, _), (10, _, _), (11, _, _)] rfl (KW.then_ ?_))
      refine CW.ret ?_
      refine ret1 Tryd.results44 rfl (⟨rfl, ?_⟩)
      rw [cmpL_take (k := a.length) (by rw [List.take_length]; exact hpre), hda, List.drop_of_length_le (l := b) (by omega)]
      rfl

/-! ### the key of an event -/
def evV (e : Ev) (v : Value) : List Value := [.int .i64 e.office, .int .i64 e.low, .int .i64 e.high, v]
structure EvOK (F : Nat → Prop) (w : World) (v : Value) (e : Ev) : Prop where
  i1 : I64 e.office
  i2 : I64 e.low
  i3 : I64 e.high
  nd : SL intT F w v e.needs
theorem EvOK.step {w w' : World} {v : Value} {e : Ev} (h : EvOK (fun k => k < w.heap.size) w v e) (hb : Below w.heap.size w w') : EvOK (fun k => k < w'.heap.size) w' v e := ⟨h.i1, h.i2, h.i3, si_step h.nd hb⟩
theorem EvOK.below {F : Nat → Prop} {w w' : World} {v : Value} {e : Ev} (h : EvOK F w v e) (hb : Below w.heap.size w w') : EvOK F w' v e := ⟨h.i1, h.i2, h.i3, h.nd.below hb⟩
set_option maxRecDepth 20000 in
theorem key_c {w : World} {v : Value} {e : Ev} {F : Nat → Prop} (h : EvOK F w v e) (hn : e.needs.length ≤ 1000000) :
    Gives Tryd.prog 33 #[.agg (evV e v).toArray] w fun x w' => BelD w w' ∧ OwnS w' 3 1 x (keyE e).length ((keyE e).map (Value.int .i64)) ∧ SI w' x (keyE e) := by
  obtain ⟨A, cap, rfl, _⟩ := h.nd.form
  have hI := sl_allI h.nd
  have hmax := h.nd.len.2.2
  refine gives_of (vs := [.agg (evV e (.slice A e.needs.length cap)).toArray]) [(0, none, _)] Tryd.func33 rfl Tryd.ntmps33 rfl rfl ?_
  refine CW.seq (CW.region ?_)
  refine TW.boxD rfl rfl rfl rfl ?_
  rintro g1 w1 f1 d1
  refine TW.assign rfl rfl rfl ct ?_
  refine TW.nil (KW.pick [0, 1, 2] [(0, _, _), (1, _, _), (2, _, _)] rfl (KW.then_ ?_))
  refine CW.seq (CW.region ?_)
  refine TW.fieldAddr rfl rfl fo31_3 rfl ct ?_
  have hB := f1.blk
  have nd1 := h.nd.below f1.below
  refine TW.load rfl rfl one29 rfl ct (fun _ => hB.fld rfl) ?_
  refine TW.lenSlice rfl rfl Tryd.underlying29 rfl ct ?_
  refine TW.fieldAddr rfl rfl fo31_0 rfl ct ?_
  refine TW.load rfl rfl one3 rfl ct (fun _ => hB.fld rfl) ?_
  refine TW.fieldAddr rfl rfl fo31_1 rfl ct ?_
  refine TW.load rfl rfl one3 rfl ct (fun _ => hB.fld rfl) ?_
  refine TW.fieldAddr rfl rfl fo31_2 rfl ct ?_
  refine TW.load rfl rfl one3 rfl ct (fun _ => hB.fld rfl) ?_
  refine TW.buildSliceD 3 _ rfl rfl rfl eo29 (Args.cons rfl ct (Args.cons rfl ct (Args.cons rfl ct (Args.cons rfl ct Args.nil)))) rfl rfl rfl rfl rfl ?_
  rintro g2 w2 f2 d2
  refine TW.fieldAddr rfl rfl fo31_3 rfl ct ?_
  have nd2 := nd1.below f2.below
  refine TW.load rfl rfl one29 rfl ct (fun _ => (hB.next f2.below).fld rfl) ?_
  refine TW.appendD (e.needs.map (Value.int .i64)) rfl rfl go29 rfl (OwnS.of_blk (n := 4) f2.blk rfl (by omega)) rfl (by simp) (sl_news nd2) (ints_one _) (by omega) (by omega) ?_
  rintro v' w3 o3 hg3 hn3 hd3
  refine TW.assign rfl rfl rfl ct ?_
  refine TW.nil (KW.pick [0, 1, 2] [(0, _, _), (1, _, _), (2, _, _)] rfl (KW.then_ ?_))
  refine CW.ret ?_
  have hb3 : Below w.heap.size w w3 := (f1.below.step f2.below).grown hg3 (f1.below.step f2.below).size (fun q hq => by simp [Value.ownBlock] at hq; have := f1.at_; have := f2.at_; have := f1.size; omega)
  have o3' : OwnS w3 3 1 v' (keyE e).length ((keyE e).map (Value.int .i64)) := by
    have : (keyE e).length = 4 + e.needs.length := by simp [keyE]; omega
    rw [this]
    exact o3
  refine ret1 Tryd.results33 rfl (⟨⟨hb3, Nat.le_trans d1.d (Nat.le_trans d2.d hd3)⟩, o3', own_si o3' (fun x hx => ?_) (by simp [keyE]; omega)⟩)
  unfold keyE at hx
  simp only [List.mem_cons] at hx
  rcases hx with rfl | rfl | rfl | rfl | hx
  · exact ⟨by show (-9223372036854775808 : Int) ≤ _; omega, by show _ ≤ (9223372036854775807 : Int); omega⟩
  · exact h.i1
  · exact h.i2
  · exact h.i3
  · exact hI x hx

set_option maxRecDepth 20000 in
theorem sorted1_c {w : World} {v u : Value} {e f : Ev} {F G : Nat → Prop} {g : Nat} (he : EvOK F w v e) (hf : EvOK G w u f) (hne : e.needs.length ≤ 1000000) (hnf : f.needs.length ≤ 1000000) (hB : Blk w g 67 [.func (.func 33) #[] #[]]) :
    Gives Tryd.prog 43 #[.agg (evV e v).toArray, .agg (evV f u).toArray, .pointer (some ⟨g, 0, none⟩)] w fun x w' => BelD w w' ∧ x = .int .i64 (cmpE e f) := by
  obtain ⟨A, cap, rfl, _⟩ := he.nd.form
  obtain ⟨B, bcap, rfl, _⟩ := hf.nd.form
  refine gives_of (vs := [.agg (evV e (.slice A e.needs.length cap)).toArray, .agg (evV f (.slice B f.needs.length bcap)).toArray, .pointer (some ⟨g, 0, none⟩)]) [(0, none, _), (1, none, _), (2, none, _)] Tryd.func43 rfl Tryd.ntmps43 rfl rfl ?_
  refine CW.seq (CW.region ?_)
  refine TW.boxD rfl rfl rfl rfl ?_
  rintro g1 w1 f1 d1
  refine TW.boxD rfl rfl rfl rfl ?_
  rintro g2 w2 f2 d2
  have d02 := d1.trans d2
  have he2 := he.below d02.b
  have hf2 := hf.below d02.b
  have hB2 := hB.next d02.b
  have hB1' := f1.blk.next f2.below
  refine TW.assign rfl rfl rfl ct ?_
  refine TW.nil (KW.pick [0, 1, 2, 3, 4, 5] [(0, _, _), (1, _, _), (2, _, _), (3, _, _), (4, _, _), (5, _, _)] rfl (KW.then_ ?_))
  refine CW.seq (CW.drawC mixed (by kernel_rfl) ?_)
  refine DW.load rfl rfl one67 rfl ct (fun _ => hB2.cell 0) ?_
  refine DW.loadS _ rfl rfl Tryd.underlying31 sz31 rfl ct (fun _ => (fun _ _ hv => hB1'.fld hv)) rfl ?_
  refine DW.callPC (.pr fun x W => SI W x (keyE e)) (fun _ _ _ hb h => si_step h hb) rfl rfl en33 rfl ct (PArgs.cons rfl ct PArgs.nil) (fun _ w' hb' vs hs => ?_) ?_
  · obtain ⟨_, rfl, rfl⟩ := Sats.one hs
    exact (key_c (he2.below hb') hne).mono fun x w'' ⟨h1, _, h2⟩ => ⟨h1, h2⟩
  refine DW.load rfl rfl one67 rfl ct (fun _ => hB2.cell 0) ?_
  refine DW.loadS _ rfl rfl Tryd.underlying31 sz31 rfl ct (fun _ => (fun _ _ hv => f2.blk.fld hv)) rfl ?_
  refine DW.callPC (.pr fun x W => SI W x (keyE f)) (fun _ _ _ hb h => si_step h hb) rfl rfl en33 rfl ct (PArgs.cons rfl ct PArgs.nil) (fun _ w' hb' vs hs => ?_) ?_
  · obtain ⟨_, rfl, rfl⟩ := Sats.one hs
    exact (key_c (hf2.below hb') hnf).mono fun x w'' ⟨h1, _, h2⟩ => ⟨h1, h2⟩
  refine DW.callPC (.ex (.int .i64 (cmpE e f))) (trivial) rfl rfl en44 rfl ct (PArgs.cons rfl ct (PArgs.cons rfl ct PArgs.nil)) (fun _ w' hb' vs hs => ?_) ?_
  · obtain ⟨x1, x2, rfl, h1, h2⟩ := Sats.two hs
    have h1 : SI w' x1 (keyE e) := h1
    have h2 : SI w' x2 (keyE f) := h2
    exact (scompare_e h1 h2).mono fun x w'' ⟨h1, h2⟩ => ⟨h1 ▸ BelD.refl _, h2⟩
  refine DW.assign rfl rfl rfl ct ?_
  refine DW.nil (DW.finC [0, 1, 2, 3, 4, 5] [(0, _, _), (1, _, _), (2, _, _), (3, _, _), (4, _, _), (5, _, _)] rfl (fun w3 b3 => KW.then_ ?_))
  refine CW.ret ?_
  refine ret1 Tryd.results43 rfl (⟨d02.trans b3, rfl⟩)
end Go.Proofs.YthjcgmjcpmodlaaDoor

namespace Go.Proofs.YthjcgmjcpmodlaaDoor
open Go.PF Go.RowKit Go.Ord Go.Sort

theorem sort_c {w : World} {v : Value} {xs : List Int} (h : OwnS w 3 1 v xs.length (xs.map (Value.int .i64))) (hn : xs.length < 4611686018427387904) :
    Gives Tryd.prog 24 #[v] w fun _ w' => w.grownBy w' v.ownBlock ∧ OwnS w' 3 1 v xs.length ((xs.mergeSort fun x y => decide (x ≤ y)).map (Value.int .i64)) := by
  rcases h.2 with ⟨rfl, h0⟩ | ⟨g, cap, cur, rfl, hg, hh, h1, h2, h3, h4⟩
  · have hx : xs = [] := List.eq_nil_of_length_eq_zero h0
    subst hx
    refine (Tryd.slices_Sort_int_none none 0 w).mono ?_
    rintro e w' ⟨rfl, rfl⟩
    exact ⟨_, rfl, ⟨rfl, rfl, rfl, Nat.le_refl _, fun _ _ _ => rfl⟩, by simpa using OwnS.nil w' _ 1⟩
  · have hH := holds_of_blockI (ss := xs) hh (by rw [Nat.mul_one] at h4; exact h4)
    refine (Tryd.slices_Sort_int g 0 cap xs w hH (Array.getElem?_eq_some_iff.1 hh).1 hn).mono ?_
    rintro e w' ⟨rfl, n, os, rfl⟩
    exact ⟨_, rfl, grownBy_sortedI _, ownsRow_sortedI (by simp [List.length_mergeSort]) hg hh h1 h2 h3⟩

theorem compact_c {w : World} {v : Value} {zs : List Int} (h : OwnS w 3 1 v zs.length (zs.map (Value.int .i64))) (hn : zs.length ≤ 9223372036854775807) :
    Gives Tryd.prog 25 #[v] w fun u w' => w.grownBy w' v.ownBlock ∧ OwnS w' 3 1 u (Lib.compact zs).length ((Lib.compact zs).map (Value.int .i64)) ∧ u.ownBlock = v.ownBlock := by
  rcases h.2 with ⟨rfl, h0⟩ | ⟨g, cap, cur, rfl, hg, hh, h1, h2, h3, h4⟩
  · have hx : zs = [] := List.eq_nil_of_length_eq_zero h0
    subst hx
    refine (Tryd.slices_Compact_int_empty none 0 w).mono ?_
    rintro e w' ⟨rfl, rfl⟩
    exact ⟨_, rfl, ⟨rfl, rfl, rfl, Nat.le_refl _, fun _ _ _ => rfl⟩, by simpa [Lib.compact, Lib.compactUpTo] using OwnS.nil w' _ 1, rfl⟩
  · have hH := holds_of_blockI (ss := zs) hh (by rw [Nat.mul_one] at h4; exact h4)
    have hcl := Lib.compact_length_le zs
    refine (Tryd.slices_Compact_int g 0 cap zs w hH hn h1).mono ?_
    rintro e w' ⟨rfl, q, rfl⟩
    obtain ⟨c, hc⟩ : ∃ c, c = Lib.compact zs := ⟨_, rfl⟩
    obtain ⟨ts, hts⟩ : ∃ ts : List Int, ts = c ++ List.replicate (zs.length - c.length) 0 := ⟨_, rfl⟩
    rw [← hc, ← hts]
    rw [← hc] at hcl
    have htl : ts.length = zs.length := by rw [hts]; simp; omega
    have hheap : (putRow (Value.int .i64) (Sort.ahead w q) g 0 ts.toArray).heap[g]? = some (.cells (putCells (Value.int .i64) 0 ts.toArray cur) 3 (0, 0)) := by
      simp [putRow, mapBlock, Sort.ahead, Array.getElem?_modify, hh, onCells]
    refine ⟨_, rfl, ⟨rfl, rfl, rfl, by simp [putRow, mapBlock, Sort.ahead], fun k hk hne => ?_⟩, ⟨by simp, .inr ⟨g, cap, _, rfl, hg, hheap, by omega, h2, by simp [putCells, h3], ?_⟩⟩, rfl⟩
    · have : g ≠ k := fun e => hne (by rw [e]; rfl)
      simp [putRow, mapBlock, Sort.ahead, Array.getElem?_modify, this]
    · have ht := take_putCellsI cur ts (by omega)
      rw [Nat.mul_one]
      have h5 := congrArg (List.take c.length) ht
      rw [List.take_take, Nat.min_eq_left (by omega)] at h5
      rw [h5, hts, List.map_append, List.take_append_of_le_length (by simp), List.take_of_length_le (by simp)]

/-! ### sorted and compacted: the increasing list of the members -/
theorem compact_inc {zs : List Int} (hs : zs.Pairwise (· ≤ ·)) : Inc (Lib.compact zs) ∧ ∀ x, x ∈ Lib.compact zs ↔ x ∈ zs := by
  have get : ∀ j, j < zs.length → zs.toArray[j]! = zs.getD j 0 := fun j hj => by simp [hj, List.getD_eq_getElem?_getD]
  have mono : ∀ i j, i < j → j < zs.length → zs.getD i 0 ≤ zs.getD j 0 := fun i j hij hj => by
    have := List.pairwise_iff_getElem.1 hs i j (by omega) hj hij
    simpa [List.getD_eq_getElem?_getD, hj, show i < zs.length by omega] using this
  have key : ∀ m, m ≤ zs.length → Inc (Lib.compactUpTo zs.toArray m) ∧ (∀ x, x ∈ Lib.compactUpTo zs.toArray m ↔ ∃ j, j < m ∧ zs.getD j 0 = x) := by
    intro m
    induction m with
    | zero => exact fun _ => ⟨by simp [Lib.compactUpTo, Inc], fun x => by simp [Lib.compactUpTo]⟩
    | succ m ih =>
      intro hm
      obtain ⟨h1, h2⟩ := ih (by omega)
      rw [Lib.compactUpTo_succ, get m (by omega)]
      by_cases hk : Lib.keeps zs.toArray m = true
      · rw [if_pos hk]
        have hk' : m = 0 ∨ zs.getD m 0 ≠ zs.getD (m - 1) 0 := by
          unfold Lib.keeps at hk
          rw [decide_eq_true_eq, get m (by omega), get (m - 1) (by omega)] at hk
          exact hk
        refine ⟨List.pairwise_append.2 ⟨h1, List.pairwise_singleton _ _, fun a ha b hb => ?_⟩, fun x => ?_⟩
        · rw [List.mem_singleton] at hb
          subst hb
          obtain ⟨j, hj, rfl⟩ := (h2 a).1 ha
          rcases hk' with rfl | hk'
          · omega
          · have q1 := mono (m - 1) m (by omega) (by omega)
            by_cases hjm : j = m - 1
            · subst hjm; omega
            · have q2 := mono j (m - 1) (by omega) (by omega)
              omega
        · rw [List.mem_append, h2, List.mem_singleton]
          constructor
          · rintro (⟨j, hj, rfl⟩ | rfl)
            · exact ⟨j, by omega, rfl⟩
            · exact ⟨m, by omega, rfl⟩
          · rintro ⟨j, hj, rfl⟩
            by_cases hjm : j = m
            · subst hjm; exact .inr rfl
            · exact .inl ⟨j, by omega, rfl⟩
      · rw [if_neg hk, List.append_nil]
        have hk' : m ≠ 0 ∧ zs.getD m 0 = zs.getD (m - 1) 0 := by
          unfold Lib.keeps at hk
          rw [decide_eq_true_eq, get m (by omega), get (m - 1) (by omega)] at hk
          exact ⟨fun e => hk (.inl e), Classical.byContradiction fun e => hk (.inr e)⟩
        refine ⟨h1, fun x => ?_⟩
        rw [h2]
        constructor
        · rintro ⟨j, hj, rfl⟩
          exact ⟨j, by omega, rfl⟩
        · rintro ⟨j, hj, rfl⟩
          by_cases hjm : j = m
          · subst hjm; exact ⟨j - 1, by omega, hk'.2.symm⟩
          · exact ⟨j, by omega, rfl⟩
  obtain ⟨h1, h2⟩ := key zs.length (Nat.le_refl _)
  refine ⟨h1, fun x => ?_⟩
  unfold Lib.compact
  rw [h2, List.mem_iff_getElem?]
  constructor
  · rintro ⟨j, hj, rfl⟩
    exact ⟨j, by simp [List.getD_eq_getElem?_getD, hj]⟩
  · rintro ⟨j, hj⟩
    obtain ⟨h1, h2⟩ := List.getElem?_eq_some_iff.1 hj
    exact ⟨j, h1, by simp [List.getD_eq_getElem?_getD, hj]⟩
theorem sorted_recs (l : List Ev) : Lib.compact ((needsOf l).mergeSort fun x y => decide (x ≤ y)) = recsS l := by
  have hs : ((needsOf l).mergeSort fun x y => decide (x ≤ y)).Pairwise (· ≤ ·) := by
    have := List.pairwise_mergeSort (le := fun x y : Int => decide (x ≤ y)) (fun a b c h1 h2 => by simp at *; omega) (fun a b => by simp; omega) (needsOf l)
    exact this.imp fun h => by simpa using h
  obtain ⟨h1, h2⟩ := compact_inc hs
  refine inc_ext h1 (recsS_inc l) fun x => ?_
  rw [h2, List.mem_mergeSort, mem_recsS]
  unfold needsOf
  rw [List.mem_flatMap]


theorem mem_compact_sort {c : List Int} : Inc (Lib.compact (c.mergeSort fun x y => decide (x ≤ y))) ∧ ∀ x, x ∈ Lib.compact (c.mergeSort fun x y => decide (x ≤ y)) ↔ x ∈ c := by
  have hs : (c.mergeSort fun x y => decide (x ≤ y)).Pairwise (· ≤ ·) := by
    have := List.pairwise_mergeSort (le := fun x y : Int => decide (x ≤ y)) (fun a b c h1 h2 => by simp at *; omega) (fun a b => by simp; omega) c
    exact this.imp fun h => by simpa using h
  obtain ⟨h1, h2⟩ := compact_inc hs
  exact ⟨h1, fun x => by rw [h2, List.mem_mergeSort]⟩

/-! ### slices.Clone, slices.Contains -/
theorem cloneO_c {w : World} {v : Value} {l : List Int} {F : Nat → Prop} (hl : SL intT F w v l) (hs : l.length ≤ 1000000) : Gives Tryd.prog 30 #[v] w fun x w' => Below w.heap.size w w' ∧ OwnS w' 3 1 x l.length (l.map (Value.int .i64)) ∧ ∀ g, x.ownBlock = some g → w.heap.size ≤ g := by
  obtain ⟨A, cap, rfl, _⟩ := hl.form
  refine gives_of (vs := [.slice A l.length cap]) [(0, none, _)] Tryd.func30 rfl Tryd.ntmps30 rfl rfl ?_
  refine CW.seq (CW.region ?_)
  refine TW.assign rfl rfl rfl ct ?_
  refine TW.nil (KW.pick [0, 2] [(0, _, _), (2, _, _)] rfl (KW.then_ ?_))
  refine CW.seq (CW.seq (CW.region ?_))
  refine TW.move rfl rfl rfl ct ?_
  refine TW.eqlNil rfl rfl Tryd.underlying29 rfl ct ?_
  refine TW.nil (KW.pick [0, 2, 4] [(0, _, _), (2, _, _), (4, _, _)] rfl (KW.then_ ?_))
  refine CW.cond rfl (fun hnil => ?_) (fun hsome => ?_)
  · refine CW.seq (CW.region ?_)
    refine TW.assign rfl rfl rfl ct ?_
    refine TW.nil (KW.pick [0, 2] [(0, _, _), (2, _, _)] rfl (KW.then_ ?_))
    refine CW.ret (KW.thenR ?_)
    have h0 : l = [] := by
      cases l with
      | nil => rfl
      | cons a l =>
        obtain ⟨ad, rfl⟩ := hl.addr (by simp)
        cases hnil
    subst h0
    refine ret1 Tryd.results30 rfl (⟨Below.refl _ _, OwnS.nil _ _ _, fun g hg => (by simp [Value.ownBlock] at hg)⟩)
  · refine CW.skip (KW.then_ (CW.seq (CW.region ?_)))
    refine TW.buildSlice0 3 rfl rfl eo29 ?_
    rintro g w1 f1
    refine TW.move rfl rfl rfl ct ?_
    have hO : OwnS w1 3 1 (.slice (some ⟨g, 0, none⟩) 0 0) 0 [] := OwnS.of_blk f1.blk rfl (by decide)
    have hl1 := hl.below f1.below
    refine TW.append (l.map (Value.int .i64)) rfl rfl go29 rfl hO rfl (by simp) (sl_news hl1) (ints_one _) (by omega) (by omega) ?_
    rintro v' w2 hO2 hg2 hn2
    refine TW.assign rfl rfl rfl ct ?_
    refine TW.nil (KW.pick [0, 2] [(0, _, _), (2, _, _)] rfl (KW.then_ ?_))
    refine CW.ret ?_
    have hb2 : Below w.heap.size w w2 := f1.below.grown hg2 f1.below.size (fun q hq => by simp [Value.ownBlock] at hq; have := f1.at_; omega)
    refine ret1 Tryd.results30 rfl (⟨hb2, by simpa using hO2, fun q hq => ?_⟩)
    rcases hn2 with h | h
    · rw [h] at hq; simp [Value.ownBlock] at hq; have := f1.at_; omega
    · rw [h] at hq; cases hq; exact f1.below.size

theorem index_e {w : World} {v : Value} {l : List Int} {x : Int} {F : Nat → Prop} (hl : SL intT F w v l) :
    Gives Tryd.prog 39 #[v, .int .i64 x] w fun u w' => w' = w ∧ ((u = .int .i64 (-1) ∧ x ∉ l) ∨ ∃ i : Nat, u = .int .i64 (i : Int) ∧ x ∈ l) := by
  obtain ⟨A, cap, rfl, _⟩ := hl.form
  have hmax := hl.len.2.2
  refine gives_of (vs := [.slice A l.length cap, .int .i64 x]) [(0, none, _), (1, none, _)] Tryd.func39 rfl Tryd.ntmps39 rfl rfl ?_
  refine CW.seq (CW.region ?_)
  refine TW.assign rfl rfl rfl ct ?_
  refine TW.nil (KW.pick [0, 1, 4] [(0, _, _), (1, _, _), (4, _, _)] rfl (KW.then_ ?_))
  refine CW.seq (CW.seq (CW.region ?_))
  refine TW.move rfl rfl rfl ct ?_
  refine TW.lenSlice rfl rfl Tryd.underlying29 rfl ct ?_
  refine TW.move rfl rfl rfl ct ?_
  refine TW.nil (KW.pick [0, 1, 4, 7, 8] [(0, _, _), (1, _, _), (4, _, _), (7, _, _), (8, _, _)] rfl (KW.then_ ?_))
  refine CW.block ?_
  refine CW.loopS (fun i : Nat => [(0, none, .slice A l.length cap), (1, none, .int .i64 x), (7, none, .int .i64 (l.length : Int)), (8, none, .int .i64 (i : Int))])
    (fun i W => i ≤ l.length ∧ W = w ∧ x ∉ l.take i) (fun i => l.length - i) 0 [0, 1, 7, 8] ⟨by omega, rfl, by simp⟩ rfl ?_
  rintro i W ⟨hi, rfl, hno⟩
  refine CW.seq (CW.region ?_)
  refine TW.lss rfl rfl rfl ct rfl ct ?_
  refine TW.nil (KW.pick [0, 1, 7, 8, 9] [(0, _, _), (1, _, _), (7, _, _), (8, _, _), (9, _, _)] rfl (KW.then_ ?_))
  refine CW.seq ?_
  refine CW.condP rfl (fun hlt => ?_) (fun hge => ?_)
  · obtain ⟨y, hy, hym⟩ := getx (l := l) (k := i) (by omega)
    obtain ⟨ad, rfl⟩ := hl.addr (by omega)
    refine CW.skip (KW.then_ (CW.seq (CW.block (CW.seq (CW.region ?_)))))
    refine TW.move rfl rfl rfl ct ?_
    refine TW.assign rfl rfl rfl ct ?_
    refine TW.nil (KW.pick [0, 1, 5, 7, 8] [(0, _, _), (1, _, _), (5, _, _), (7, _, _), (8, _, _)] rfl (KW.then_ ?_))
    refine CW.seq (CW.region ?_)
    refine TW.move rfl rfl rfl ct ?_
    refine TW.move rfl rfl rfl ct ?_
    refine TW.move rfl rfl rfl ct ?_
    refine TW.indexAddr rfl rfl Tryd.underlying29 sz3 rfl ct rfl ct (fun _ => by (try dsimp only); omega) ?_
    refine TW.load rfl rfl one3 rfl ct (fun _ => hl.getI hy) ?_
    refine TW.eql rfl rfl rfl ct rfl ct ?_
    refine TW.nil (KW.pick [0, 1, 5, 7, 8, 16] [(0, _, _), (1, _, _), (5, _, _), (7, _, _), (8, _, _), (16, _, _)] rfl (KW.then_ ?_))
    refine CW.condP rfl (fun heq => ?_) (fun hne => ?_)
    · refine CW.seq (CW.region ?_)
      refine TW.move rfl rfl rfl ct ?_
      refine TW.assign rfl rfl rfl ct ?_
      refine TW.nil (KW.pick [0, 1, 4, 5, 7, 8] [(0, _, _), (1, _, _), (4, _, _), (5, _, _), (7, _, _), (8, _, _)] rfl (KW.then_ ?_))
      refine CW.ret (KW.blockR (KW.thenR (KW.thenR (KW.blockR (KW.thenR ?_)))))
      refine ret1 Tryd.results39 rfl (⟨rfl, .inr ⟨i, rfl, by rw [heq]; exact hym⟩⟩)
    · refine CW.skip (KW.blockN (KW.then_ (CW.region ?_)))
      refine TW.add rfl rfl rfl ct rfl ct (fun _ => by (try dsimp only); omega) ?_
      refine TW.move rfl rfl rfl ct ?_
      refine TW.nil (KW.pick [0, 1, 5, 7, 8] [(0, _, _), (1, _, _), (5, _, _), (7, _, _), (8, _, _)] rfl ?_)
      refine KW.round (i + 1) [0, 1, 7, 8] rfl ⟨by omega, rfl, ?_⟩ (by omega)
      rw [List.take_add_one, hy]
      simp
      exact ⟨hno, hne⟩
  · refine CW.exit (KW.thenX (KW.thenX (KW.blockX (KW.then_ (CW.seq (CW.region ?_))))))
    refine TW.assign rfl rfl rfl ct ?_
    refine TW.nil (KW.pick [0, 1, 4, 7, 8] [(0, _, _), (1, _, _), (4, _, _), (7, _, _), (8, _, _)] rfl (KW.then_ ?_))
    refine CW.ret ?_
    refine ret1 Tryd.results39 rfl (⟨rfl, .inl ⟨rfl, ?_⟩⟩)
    rw [show i = l.length by omega, List.take_length] at hno
    exact hno

theorem contains_e {w : World} {v : Value} {l : List Int} {x : Int} {F : Nat → Prop} (hl : SL intT F w v l) :
    Gives Tryd.prog 27 #[v, .int .i64 x] w fun u w' => Below w.heap.size w w' ∧ u = .bool (decide (x ∈ l)) := by
  refine gives_of (vs := [v, .int .i64 x]) [(0, none, _), (1, none, _)] Tryd.func27 rfl Tryd.ntmps27 rfl rfl ?_
  refine CW.seq (CW.region ?_)
  refine TW.assign rfl rfl rfl ct ?_
  refine TW.nil (KW.pick [0, 1, 4] [(0, _, _), (1, _, _), (4, _, _)] rfl (KW.then_ ?_))
  refine CW.seq (CW.region ?_)
  refine TW.move rfl rfl rfl ct ?_
  refine TW.move rfl rfl rfl ct ?_
  refine TW.call0 (cap := []) rfl rfl en39 rfl (Args.cons rfl ct (Args.cons rfl ct Args.nil)) (index_e hl) ?_
  rintro y w1 ⟨rfl, h1⟩
  rcases h1 with ⟨rfl, h1⟩ | ⟨i, rfl, h1⟩
  · skip
    refine TW.geq rfl rfl rfl ct rfl ct ?_
    refine TW.assign rfl rfl rfl ct ?_
    refine TW.nil (KW.pick [0, 1, 4] [(0, _, _), (1, _, _), (4, _, _)] rfl (KW.then_ ?_))
    refine CW.ret ?_
    refine ret1 Tryd.results27 rfl (⟨Below.refl _ _, by simp [h1]⟩)
  · skip
    refine TW.geq rfl rfl rfl ct rfl ct ?_
    refine TW.assign rfl rfl rfl ct ?_
    refine TW.nil (KW.pick [0, 1, 4] [(0, _, _), (1, _, _), (4, _, _)] rfl (KW.then_ ?_))
    refine CW.ret ?_
    refine ret1 Tryd.results27 rfl (⟨Below.refl _ _, by simp [h1]⟩)

/-! ### the text of an event -/
/-- what start-up has laid -/
structure Tabs (w : World) : Prop where
  pow : Lib.TabIs Tryd.prog w "internal/strconv.uint64pow10" .u64 Lib.pow10Tab
theorem Tabs.below {w w' : World} (h : Tabs w) (hb : Below w.heap.size w w') : Tabs w' := by
  refine ⟨?_⟩
  have hp := h.pow
  unfold Lib.TabIs World.var? at hp ⊢
  cases hg : Tryd.prog.globalNamed "internal/strconv.uint64pow10" with
  | none => rw [hg] at hp; cases hp
  | some g =>
    rw [hg] at hp
    simp only [Option.bind_some] at hp ⊢
    rcases Nat.lt_or_ge g w.heap.size with hlt | hge
    · rw [hb.block g hlt]; exact hp
    · rw [Array.getElem?_eq_none hge] at hp; cases hp
theorem grow_below' (w : World) (n : Nat) (os : Array Obj) : Below w.heap.size w (grow (w.drewN n) os) :=
  ⟨rfl, rfl, rfl, by simp [grow], fun i hi => by
    show (w.heap ++ os)[i]? = w.heap[i]?
    rw [Array.getElem?_append_left hi]⟩
theorem itoa_c {w : World} {n : Int} (hn : I64 n) (ht : Tabs w) : Gives Tryd.prog 40 #[.int .i64 n] w fun u w' => Below w.heap.size w w' ∧ u = .string ⟨(Lib.itoa n).toArray⟩ := by
  refine Calls.mono (Tryd.strconv_Itoa n hn.1 hn.2 w ht.pow) ?_
  rintro e w' ⟨rfl, k, os, rfl⟩
  exact ⟨_, rfl, grow_below' w k os, rfl⟩
theorem join_c {w : World} {v : Value} {xs : List ByteArray} {sep : ByteArray} (h : OwnS w 9 1 v xs.length (xs.map Value.string)) (hN : xs.length ≤ 1000000) (hlen : (Lib.join (xs.map (·.data.toList)) sep.data.toList).length ≤ 140737488355328) :
    Gives Tryd.prog 41 #[v, .string sep] w fun u w' => Below w.heap.size w w' ∧ u = .string ⟨(Lib.join (xs.map (·.data.toList)) sep.data.toList).toArray⟩ := by
  rcases h.2 with ⟨rfl, h0⟩ | ⟨g, cap, cur, rfl, hg, hh, h1, h2, h3, h4⟩
  · have hx : xs = [] := List.eq_nil_of_length_eq_zero h0
    subst hx
    refine (Tryd.strings_Join_none none 0 sep w).mono ?_
    rintro e w' ⟨rfl, rfl⟩
    exact ⟨_, rfl, Below.refl _ _, by simp [Lib.join]⟩
  · refine Calls.mono (Tryd.strings_Join g 0 cap xs sep w (fun j x hx => ?_) (Array.getElem?_eq_some_iff.1 hh).1 (by omega) h1 hlen) ?_
    · rw [Nat.mul_one] at h4
      have : (xs.map Value.string)[j]? = some (.string x) := by simp [hx]
      rw [← h4, List.getElem?_take] at this
      split at this
      · simp [World.cell?, hh]
        simpa using this
      · cases this
    · rintro e w' ⟨rfl, hb⟩
      exact ⟨_, rfl, hb, rfl⟩

set_option maxRecDepth 20000 in
theorem text_c {w : World} {v : Value} {e : Ev} {F : Nat → Prop} (h : EvOK F w v e) (hn : e.needs.length ≤ 1000) (ht : Tabs w) :
    Gives Tryd.prog 29 #[.agg (evV e v).toArray] w fun x w' => Below w.heap.size w w' ∧ x = .string (textE e) := by
  obtain ⟨A, cap, rfl, _⟩ := h.nd.form
  have hkl : (keyE e).length ≤ 1004 := by simp [keyE]; omega
  have hwl : (wordsE e).length = (keyE e).length := by simp [wordsE]
  refine gives_of (vs := [.agg (evV e (.slice A e.needs.length cap)).toArray]) [(0, none, _)] Tryd.func29 rfl Tryd.ntmps29 rfl rfl ?_
  refine CW.seq (CW.region ?_)
  refine TW.box rfl rfl rfl rfl ?_
  rintro g1 w1 f1
  refine TW.assign rfl rfl rfl ct ?_
  refine TW.nil (KW.pick [0, 1, 2] [(0, _, _), (1, _, _), (2, _, _)] rfl (KW.then_ ?_))
  refine CW.seq (CW.region ?_)
  refine TW.assign rfl rfl rfl ct ?_
  refine TW.nil (KW.pick [0, 1, 2, 3] [(0, _, _), (1, _, _), (2, _, _), (3, _, _)] rfl (KW.then_ ?_))
  refine CW.seq (CW.seq (CW.region ?_))
  refine TW.loadS _ rfl rfl Tryd.underlying31 sz31 rfl ct (fun _ => (fun _ _ hv => f1.blk.fld hv)) rfl ?_
  refine TW.call0 (cap := []) rfl rfl en33 rfl (Args.cons rfl ct Args.nil) (key_c (h.below f1.below) (by omega)) ?_
  rintro y2 w2 ⟨hb2, hO2, hK2⟩
  obtain ⟨K, kcap, rfl, _⟩ := hK2.form
  have hkI := sl_allI hK2
  have hb02 := f1.below.step hb2.b
  refine TW.lenSlice rfl rfl Tryd.underlying29 rfl ct ?_
  refine TW.move rfl rfl rfl ct ?_
  refine TW.nil (KW.pick [0, 1, 2, 3, 7, 8, 9] [(0, _, _), (1, _, _), (2, _, _), (3, _, _), (7, _, _), (8, _, _), (9, _, _)] rfl (KW.then_ ?_))
  refine CW.block ?_
  refine CW.loopS (fun x : Nat × Value => [(3, none, x.2), (7, none, .slice K (keyE e).length kcap), (8, none, .int .i64 ((keyE e).length : Int)), (9, none, .int .i64 (x.1 : Int))])
    (fun x W => x.1 ≤ (keyE e).length ∧ Below w2.heap.size w2 W ∧ OwnS W 9 1 x.2 x.1 (((wordsE e).take x.1).map Value.string) ∧ ∀ g, x.2.ownBlock = some g → w2.heap.size ≤ g) (fun x => (keyE e).length - x.1) (0, .slice none 0 0) [3, 7, 8, 9] ⟨Nat.zero_le _, Below.refl _ _, by simpa using OwnS.nil _ _ _, fun g hg => by simp [Value.ownBlock] at hg⟩ rfl ?_
  rintro ⟨k, wv⟩ W ⟨hk, hB, hO, hfr⟩
  dsimp only at hk hB hO hfr
  have hbW := hb02.step hB
  refine CW.seq (CW.region ?_)
  refine TW.lss rfl rfl rfl ct rfl ct ?_
  refine TW.nil (KW.pick [3, 7, 8, 9, 10] [(3, _, _), (7, _, _), (8, _, _), (9, _, _), (10, _, _)] rfl (KW.then_ ?_))
  refine CW.seq ?_
  refine CW.condP rfl (fun hlt => ?_) (fun hge => ?_)
  · obtain ⟨n, hx, hxm⟩ := getx (l := keyE e) (k := k) (by omega)
    have hKW := hK2.below hB
    obtain ⟨ad, rfl⟩ := hKW.addr (by omega)
    refine CW.skip (KW.then_ (CW.seq (CW.block (CW.seq (CW.region ?_)))))
    refine TW.indexAddr rfl rfl Tryd.underlying29 sz3 rfl ct rfl ct (fun _ => by (try dsimp only); omega) ?_
    refine TW.load rfl rfl one3 rfl ct (fun _ => hKW.getI hx) ?_
    refine TW.assign rfl rfl rfl ct ?_
    refine TW.nil (KW.pick [3, 5, 7, 8, 9] [(3, _, _), (5, _, _), (7, _, _), (8, _, _), (9, _, _)] rfl (KW.then_ ?_))
    refine CW.region ?_
    refine TW.move rfl rfl rfl ct ?_
    refine TW.move rfl rfl rfl ct ?_
    refine TW.call0 (cap := []) rfl rfl en40 rfl (Args.cons rfl ct Args.nil) (itoa_c (hkI n hxm) (ht.below hbW)) ?_
    rintro y3 w3 ⟨hb3, rfl⟩
    refine TW.buildSlice 9 _ rfl rfl rfl eo33 (Args.cons rfl ct Args.nil) rfl rfl rfl rfl rfl ?_
    rintro g4 w4 f4
    have hO4 := (hO.below hb3).below f4.below
    refine TW.append [.string ⟨(Lib.itoa n).toArray⟩] rfl rfl go33 rfl hO4 rfl rfl (fun j u hj => ⟨_, rfl, f4.blk.fld hj⟩) (fun u hu => by simp at hu; subst hu; rfl) (by omega) (by omega) ?_
    rintro v5 w5 hO5 hg5 hn5
    refine TW.assign rfl rfl rfl ct ?_
    refine TW.nil (KW.pick [3, 5, 7, 8, 9] [(3, _, _), (5, _, _), (7, _, _), (8, _, _), (9, _, _)] rfl (KW.blockN (KW.then_ ?_)))
    refine CW.region ?_
    refine TW.add rfl rfl rfl ct rfl ct (fun _ => by (try dsimp only); omega) ?_
    refine TW.move rfl rfl rfl ct ?_
    refine TW.nil (KW.pick [3, 5, 7, 8, 9] [(3, _, _), (5, _, _), (7, _, _), (8, _, _), (9, _, _)] rfl ?_)
    have hb24 := (hB.step hb3).step f4.below
    have hb25 : Below w2.heap.size w2 w5 := hb24.grown hg5 hb24.size hfr
    refine KW.round (k + 1, v5) [3, 7, 8, 9] rfl ⟨by omega, hb25, ?_, fun g hg => ?_⟩ (by omega)
    · have hw : (wordsE e)[k]? = some ⟨(Lib.itoa n).toArray⟩ := by simp [wordsE, hx]
      rw [List.take_add_one, hw]
      simpa using hO5
    · rcases hn5 with h | h
      · exact hfr g (by rw [← h]; exact hg)
      · rw [h] at hg; cases hg; exact hb24.size
  · refine CW.exit (KW.thenX (KW.thenX (KW.blockX (KW.then_ (CW.seq (CW.region ?_))))))
    refine TW.move rfl rfl rfl ct ?_
    have hke : k = (wordsE e).length := by omega
    subst hke
    rw [List.take_length] at hO
    have hjl : (Lib.join ((wordsE e).map (·.data.toList)) (⟨#[32]⟩ : ByteArray).data.toList).length ≤ 140737488355328 := by
      rw [wordsE_lists]
      have := join_len ((keyE e).map Lib.itoa) fun x hx => by
        obtain ⟨n, hn, rfl⟩ := List.mem_map.1 hx
        exact itoa_len (hkI n hn).1 (hkI n hn).2
      simp at this ⊢
      omega
    refine TW.call0 (cap := []) rfl rfl en41 rfl (Args.cons rfl ct (Args.cons rfl ct Args.nil)) (join_c hO (by omega) hjl) ?_
    rintro y6 w6 ⟨hb6, rfl⟩
    refine TW.assign rfl rfl rfl ct ?_
    refine TW.nil (KW.pick [2, 3, 7, 8, 9] [(2, _, _), (3, _, _), (7, _, _), (8, _, _), (9, _, _)] rfl (KW.then_ ?_))
    refine CW.ret ?_
    refine ret1 Tryd.results29 rfl (⟨hbW.step hb6, rfl⟩)
end Go.Proofs.YthjcgmjcpmodlaaDoor

namespace Go.PF
open Go.RowKit
/-- nothing of before has turned but S -/
structure Bar (S : Nat → Prop) (w w' : World) : Prop where
  os : w'.os = w.os
  tape : w'.tape = w.tape
  output : w'.output = w.output
  size : w.heap.size ≤ w'.heap.size
  block : ∀ k, k < w.heap.size → ¬ S k → w'.heap[k]? = w.heap[k]?
theorem Bar.refl {S : Nat → Prop} (w : World) : Bar S w w := ⟨rfl, rfl, rfl, Nat.le_refl _, fun _ _ _ => rfl⟩
theorem Bar.trans {S : Nat → Prop} {a b c : World} (h : Bar S a b) (k : Bar S b c) : Bar S a c :=
  ⟨k.os.trans h.os, k.tape.trans h.tape, k.output.trans h.output, Nat.le_trans h.size k.size, fun i hi hn => (k.block i (Nat.lt_of_lt_of_le hi h.size) hn).trans (h.block i hi hn)⟩
theorem Bar.of_below {S : Nat → Prop} {w w' : World} (h : Below w.heap.size w w') : Bar S w w' := ⟨h.os, h.tape, h.output, h.size, fun k hk _ => h.block k hk⟩
theorem Bar.step {S : Nat → Prop} {a b c : World} (h : Bar S a b) (k : Below b.heap.size b c) : Bar S a c := h.trans (.of_below k)
theorem Bar.below {S : Nat → Prop} {w0 w w' : World} (h : Bar S w w') (hb : Below w0.heap.size w0 w) (hS : ∀ k, S k → w0.heap.size ≤ k) : Below w0.heap.size w0 w' :=
  ⟨h.os.trans hb.os, h.tape.trans hb.tape, h.output.trans hb.output, Nat.le_trans hb.size h.size, fun k hk => (h.block k (Nat.lt_of_lt_of_le hk hb.size) (fun hs => by have := hS k hs; omega)).trans (hb.block k hk)⟩
theorem Bar.grown {S : Nat → Prop} {a b c : World} {o : Option Nat} (h : Bar S a b) (hg : b.grownBy c o) (ho : ∀ k, o = some k → S k ∨ a.heap.size ≤ k) : Bar S a c :=
  ⟨hg.os.trans h.os, hg.tape.trans h.tape, hg.output.trans h.output, Nat.le_trans h.size hg.size, fun k hk hn => (hg.block k (Nat.lt_of_lt_of_le hk h.size) (fun e => by
    rcases ho k e.symm with h | h
    · exact hn h
    · omega)).trans (h.block k hk hn)⟩
theorem Bar.blk {S : Nat → Prop} {w w' : World} {k : Nat} {t : TypeId} {cs : List Value} (h : Bar S w w') (hB : Blk w k t cs) (hk : ¬ S k) : Blk w' k t cs := (h.block k hB.lt hk).trans hB
end Go.PF
namespace Go.Proofs.YthjcgmjcpmodlaaDoor
open Go.PF Go.RowKit Go.Ord

def nats (xs : List Nat) : List Value := xs.map fun i : Nat => Value.int .i64 (i : Int)
/-- rows of numbers by texts, the map's entries m: every row lies in a block that 'own' gives to this map and key -/
structure IdxM (w : World) (lo b : Nat) (id : Bool) (own : Nat → Bool × ByteArray) (T : Nat) (R : ByteArray → Nat → Prop) (m : List (ByteArray × Value)) : Prop where
  mp : MapL sK w b m
  low : b < lo
  miss : ∀ k, (∀ p ∈ m, p.1 ≠ k) → ∀ j, ¬ R k j
  rows : ∀ p ∈ m, ∃ xs : List Nat, OwnS w 3 1 p.2 xs.length (nats xs) ∧ xs.length ≤ T ∧ (∀ j, j ∈ xs ↔ R p.1 j) ∧ ∀ g, p.2.ownBlock = some g → lo ≤ g ∧ own g = (id, p.1)
variable {w w1 w2 : World} {lo b b' T T' : Nat} {id id' : Bool} {own : Nat → Bool × ByteArray} {R R' : ByteArray → Nat → Prop} {m m' : List (ByteArray × Value)}
theorem IdxM.start (h : MapL sK w b []) (hb : b < lo) : IdxM w lo b id own 0 (fun _ _ => False) [] := ⟨h, hb, fun _ _ _ h => h, fun p hp => by cases hp⟩
theorem IdxM.below (h : IdxM w lo b id own T R m) (hb : Below w.heap.size w w1) : IdxM w1 lo b id own T R m :=
  ⟨h.mp.below hb, h.low, h.miss, fun p hp => by obtain ⟨xs, h1, h2⟩ := h.rows p hp; exact ⟨xs, h1.below hb, h2⟩⟩
theorem IdxM.congr (h : IdxM w lo b id own T R m) (hR : ∀ k j, R k j ↔ R' k j) (hT : T ≤ T') : IdxM w lo b id own T' R' m :=
  ⟨h.mp, h.low, fun k hk j hj => h.miss k hk j ((hR k j).2 hj), fun p hp => by
    obtain ⟨xs, h1, h2, h3, h4⟩ := h.rows p hp
    exact ⟨xs, h1, Nat.le_trans h2 hT, fun j => (h3 j).trans (hR _ j), h4⟩⟩
theorem IdxM.look (h : IdxM w lo b id own T R m) (k : ByteArray) : ∃ v xs, ((k, v) ∈ m ∨ ((∀ p ∈ m, p.1 ≠ k) ∧ v = .slice none 0 0)) ∧ OwnS w 3 1 v xs.length (nats xs) ∧ xs.length ≤ T ∧ (∀ j, j ∈ xs ↔ R k j) ∧ ∀ g, v.ownBlock = some g → lo ≤ g ∧ own g = (id, k) := by
  by_cases hk : ∃ v, (k, v) ∈ m
  · obtain ⟨v, hv⟩ := hk
    obtain ⟨xs, h1, h2, h3, h4⟩ := h.rows _ hv
    exact ⟨v, xs, .inl hv, h1, h2, h3, h4⟩
  · have hn : ∀ p ∈ m, p.1 ≠ k := fun p hp e => hk ⟨p.2, by rw [← e]; exact hp⟩
    exact ⟨_, [], .inr ⟨hn, rfl⟩, OwnS.nil _ _ _, Nat.zero_le _, fun j => ⟨fun h => (by cases h), fun hj => absurd hj (h.miss k hn j)⟩, fun g hg => by simp [Value.ownBlock] at hg⟩
def ownT (own : Nat → Bool × ByteArray) (v : Value) (p : Bool × ByteArray) (g : Nat) : Bool × ByteArray := if v.ownBlock = some g then p else own g
/-- a number at the end of a row -/
theorem IdxM.put {k : ByteArray} {v v' : Value} {xs : List Nat} {i : Nat} (h : IdxM w lo b id own T R m) (hx : xs.length ≤ T) (hxR : ∀ j, j ∈ xs ↔ R k j) (hvo : ∀ g, v.ownBlock = some g → lo ≤ g ∧ own g = (id, k))
    (happ : AppE w v.ownBlock 3 1 (xs.length + 1) (nats xs ++ [.int .i64 (i : Int)]) v' w1) (hlo : lo ≤ w.heap.size) (hg : w.grownBy w1 v.ownBlock) (hm2 : MapL sK w2 b (lput m k v')) (hb2 : But b w1 w2) :
    IdxM w2 lo b id (ownT own v' (id, k)) (T + 1) (fun k' j => R k' j ∨ (k' = k ∧ j = i)) (lput m k v') := by
  have hv'lo : ∀ g, v'.ownBlock = some g → lo ≤ g := fun g hg' => by
    rcases happ.2 with e | ⟨g', e, h⟩
    · rw [e] at hg'; exact (hvo g hg').1
    · rw [e] at hg'; cases hg'; omega
  have hlow := h.low
  refine ⟨hm2, h.low, fun k' hk j hj => ?_, fun p hp => ?_⟩
  · rcases hj with hj | ⟨rfl, _⟩
    · by_cases e : k' = k
      · exact hk _ (mem_lput.2 (.inl rfl)) e.symm
      · exact h.miss k' (fun p hp e' => hk p (mem_lput.2 (.inr ⟨hp, fun e2 => e (by rw [← e', e2])⟩)) e') j hj
    · exact hk _ (mem_lput.2 (.inl rfl)) rfl
  · rcases mem_lput.1 hp with rfl | ⟨hp, hne⟩
    · refine ⟨xs ++ [i], ?_, by simp; omega, fun j => ?_, fun g hg' => ⟨hv'lo g hg', ?_⟩⟩
      · have h1 : OwnS w1 3 1 v' (xs ++ [i]).length (nats (xs ++ [i])) := by
          have := happ.1
          simpa [nats] using this
        exact h1.kept fun g hg' => hb2.block g (h1.lt hg') (fun e => by have := hv'lo g hg'; cases e; omega)
      · rw [List.mem_append, List.mem_singleton, hxR]
        simp
      · unfold ownT
        rw [if_pos hg']
    · obtain ⟨ys, h1, h2, h3, h4⟩ := h.rows p hp
      refine ⟨ys, ?_, by omega, fun j => ?_, fun g hg' => ⟨(h4 g hg').1, ?_⟩⟩
      · have h5 : OwnS w1 3 1 p.2 ys.length (nats ys) := h1.kept fun g hg' => hg.block g (h1.lt hg') (fun e => by
          have a1 := (hvo g e.symm).2
          have a2 := (h4 g hg').2
          rw [a1] at a2
          exact hne (Prod.mk.inj a2).2.symm)
        exact h5.kept fun g hg' => hb2.block g (h5.lt hg') (fun e => by have := (h4 g hg').1; cases e; omega)
      · rw [h3]
        exact ⟨.inl, fun h => h.resolve_right fun h => hne h.1⟩
      · unfold ownT
        rw [if_neg fun e => ?_]
        · exact (h4 g hg').2
        rcases happ.2 with e2 | ⟨g', e2, hge⟩
        · have a1 := (hvo g (e2 ▸ e)).2
          have a2 := (h4 g hg').2
          rw [a1] at a2
          exact hne (Prod.mk.inj a2).2.symm
        · rw [e2] at e
          cases e
          have := h1.lt hg'
          omega
theorem IdxM.other {k : ByteArray} {v v' : Value} {n : Nat} {zs : List Value} (h : IdxM w lo b id own T R m) (hid : id' ≠ id) (hvo : ∀ g, v.ownBlock = some g → lo ≤ g ∧ own g = (id', k))
    (happ : AppE w v.ownBlock 3 1 n zs v' w1) (hlo : lo ≤ w.heap.size) (hb : b ≠ b') (hb' : b' < lo) (hg : w.grownBy w1 v.ownBlock) (hb2 : But b' w1 w2) :
    IdxM w2 lo b id (ownT own v' (id', k)) T R m := by
  have hlow := h.low
  have hk : ∀ g, g < w.heap.size → (v.ownBlock ≠ some g) → g ≠ b' → w2.heap[g]? = w.heap[g]? := fun g hl hn hne =>
    (hb2.block g (Nat.lt_of_lt_of_le hl hg.size) (fun e => hne (by cases e; rfl))).trans (hg.block g hl (fun e => hn e.symm))
  refine ⟨h.mp.kept (hk b h.mp.lt (fun e => by have := (hvo b e).1; omega) hb), h.low, h.miss, fun p hp => ?_⟩
  obtain ⟨ys, h1, h2, h3, h4⟩ := h.rows p hp
  have hne : ∀ g, p.2.ownBlock = some g → v.ownBlock ≠ some g := fun g hg' e => by
    have a1 := (hvo g e).2
    have a2 := (h4 g hg').2
    rw [a1] at a2
    exact hid (Prod.mk.inj a2).1
  refine ⟨ys, h1.kept fun g hg' => hk g (h1.lt hg') (hne g hg') (fun e => by have := (h4 g hg').1; omega), h2, h3, fun g hg' => ⟨(h4 g hg').1, ?_⟩⟩
  unfold ownT
  rw [if_neg fun e => ?_]
  · exact (h4 g hg').2
  rcases happ.2 with e2 | ⟨g', e2, hge⟩
  · exact hne g hg' (e2 ▸ e)
  · rw [e2] at e
    cases e
    have := h1.lt hg'
    omega
end Go.Proofs.YthjcgmjcpmodlaaDoor

namespace Go.Proofs.YthjcgmjcpmodlaaDoor
open Go.PF Go.RowKit Go.Ord

def RL (l : List Sc) (r : List Rc) (i : Nat) (k : ByteArray) (j : Nat) : Prop := j < i ∧ ∃ x, r[j]? = some x ∧ Val l x ∧ x.label = k
def RH (l : List Sc) (r : List Rc) (i : Nat) (k : ByteArray) (j : Nat) : Prop := j < i ∧ ∃ x, r[j]? = some x ∧ Val l x ∧ k ∈ x.cont
/-- what the maps hold -/
def Tabs2 (w : World) (l : List Sc) (r : List Rc) (lo bl bh i : Nat) : Prop := ∃ own m1 m2, IdxM w lo bl false own i (RL l r i) m1 ∧ IdxM w lo bh true own (i * 40) (RH l r i) m2
theorem rl_skip {l : List Sc} {r : List Rc} {i : Nat} {x : Rc} (hx : r[i]? = some x) (hv : ¬ Val l x) (k : ByteArray) (j : Nat) : RL l r i k j ↔ RL l r (i + 1) k j := by
  constructor
  · rintro ⟨h1, h2⟩; exact ⟨by omega, h2⟩
  · rintro ⟨h1, y, h2, h3, h4⟩
    refine ⟨?_, y, h2, h3, h4⟩
    rcases Nat.lt_or_ge j i with h | h
    · exact h
    · have : j = i := by omega
      subst this
      rw [hx] at h2
      cases h2
      exact absurd h3 hv
theorem rh_skip {l : List Sc} {r : List Rc} {i : Nat} {x : Rc} (hx : r[i]? = some x) (hv : ¬ Val l x) (k : ByteArray) (j : Nat) : RH l r i k j ↔ RH l r (i + 1) k j := by
  constructor
  · rintro ⟨h1, h2⟩; exact ⟨by omega, h2⟩
  · rintro ⟨h1, y, h2, h3, h4⟩
    refine ⟨?_, y, h2, h3, h4⟩
    rcases Nat.lt_or_ge j i with h | h
    · exact h
    · have : j = i := by omega
      subst this
      rw [hx] at h2
      cases h2
      exact absurd h3 hv
theorem rl_next {l : List Sc} {r : List Rc} {i : Nat} {x : Rc} (hx : r[i]? = some x) (hv : Val l x) (k : ByteArray) (j : Nat) : (RL l r i k j ∨ (k = x.label ∧ j = i)) ↔ RL l r (i + 1) k j := by
  constructor
  · rintro (⟨h1, h2⟩ | ⟨rfl, rfl⟩)
    · exact ⟨by omega, h2⟩
    · exact ⟨by omega, x, hx, hv, rfl⟩
  · rintro ⟨h1, y, h2, h3, h4⟩
    rcases Nat.lt_or_ge j i with h | h
    · exact .inl ⟨h, y, h2, h3, h4⟩
    · have : j = i := by omega
      subst this
      rw [hx] at h2
      cases h2
      exact .inr ⟨h4.symm, rfl⟩
theorem rh_next {l : List Sc} {r : List Rc} {i : Nat} {x : Rc} (hx : r[i]? = some x) (hv : Val l x) (k : ByteArray) (j : Nat) : (RH l r i k j ∨ (j = i ∧ k ∈ x.cont)) ↔ RH l r (i + 1) k j := by
  constructor
  · rintro (⟨h1, h2⟩ | ⟨rfl, h2⟩)
    · exact ⟨by omega, h2⟩
    · exact ⟨by omega, x, hx, hv, h2⟩
  · rintro ⟨h1, y, h2, h3, h4⟩
    rcases Nat.lt_or_ge j i with h | h
    · exact .inl ⟨h, y, h2, h3, h4⟩
    · have : j = i := by omega
      subst this
      rw [hx] at h2
      cases h2
      exact .inr ⟨rfl, h4⟩

set_option maxRecDepth 20000 in
set_option maxHeartbeats 1000000 in
theorem read_c {w : World} {u v : Value} {l : List Sc} {r : List Rc} (hl : SS w u l) (hr : SR w v r) (hsm : r.length ≤ 400) :
    Gives Tryd.prog 20 #[u, v] w fun x w' => Below w.heap.size w w' ∧ ∃ sb bl bh lo, x = .pointer (some ⟨sb, 0, none⟩) ∧ Blk w' sb 57 [u, v, .map (some bl), .map (some bh)] ∧ Tabs2 w' l r lo bl bh r.length := by
  obtain ⟨A, cap, rfl, _⟩ := hr.form
  obtain ⟨B, bcap, rfl, _⟩ := hl.form
  have hmax := hr.len.2.2
  refine gives_of (vs := [.slice B l.length bcap, .slice A r.length cap]) [(0, none, _), (1, none, _)] Tryd.func20 rfl Tryd.ntmps20 rfl rfl ?_
  refine CW.seq (CW.region ?_)
  refine TW.assign rfl rfl rfl ct ?_
  refine TW.nil (KW.pick [0, 1, 4] [(0, _, _), (1, _, _), (4, _, _)] rfl (KW.then_ ?_))
  refine CW.seq (CW.region ?_)
  refine TW.move rfl rfl rfl ct ?_
  refine TW.move rfl rfl rfl ct ?_
  refine TW.makeMapL sK rfl rfl ?_
  rintro bl w1 hbl hw1 hb1 hM1
  refine TW.makeMapL sK rfl rfl ?_
  rintro bh w2 hbh hw2 hb2 hM2
  refine TW.build [0, 1, 2, 3] [.tmp 10, .tmp 11, .tmp 12, .tmp 13] [.slice B l.length bcap, .slice A r.length cap, .map (some bl), .map (some bh)] rfl rfl rfl (Args.cons rfl ct (Args.cons rfl ct (Args.cons rfl ct (Args.cons rfl ct Args.nil)))) (by kernel_rfl) ?_
  refine TW.box rfl rfl rfl rfl ?_
  rintro sb w3 f3
  refine TW.assign rfl rfl rfl ct ?_
  refine TW.nil (KW.pick [0, 1, 4, 5] [(0, _, _), (1, _, _), (4, _, _), (5, _, _)] rfl (KW.then_ ?_))
  refine CW.seq (CW.seq (CW.region ?_))
  refine TW.move rfl rfl rfl ct ?_
  refine TW.lenSlice rfl rfl Tryd.underlying23 rfl ct ?_
  refine TW.move rfl rfl rfl ct ?_
  refine TW.nil (KW.pick [0, 1, 4, 5, 16, 17, 18] [(0, _, _), (1, _, _), (4, _, _), (5, _, _), (16, _, _), (17, _, _), (18, _, _)] rfl (KW.then_ ?_))
  refine CW.block ?_
  have hsb := f3.at_
  have hs3 := f3.size
  have hb03 : Below w.heap.size w w3 := (hb1.step hb2).step f3.below
  have hI1 : IdxM w3 w3.heap.size bl false (fun _ => (false, ByteArray.empty)) 0 (fun _ _ => False) [] := IdxM.start ((hM1.below hb2).below f3.below) (by omega)
  have hI2 : IdxM w3 w3.heap.size bh true (fun _ => (false, ByteArray.empty)) 0 (fun _ _ => False) [] := IdxM.start (hM2.below f3.below) (by omega)
  refine CW.loopS (fun i : Nat => [(0, none, .slice B l.length bcap), (5, none, .pointer (some ⟨sb, 0, none⟩)), (16, none, .slice A r.length cap), (17, none, .int .i64 (r.length : Int)), (18, none, .int .i64 (i : Int))])
    (fun i W => i ≤ r.length ∧ Bar (fun k => k = bl ∨ k = bh) w3 W ∧ Tabs2 W l r w3.heap.size bl bh i) (fun i => r.length - i) 0 [0, 5, 16, 17, 18] ⟨Nat.zero_le _, Bar.refl _, _, _, _, hI1.congr (fun k j => ⟨False.elim, fun h => by have := h.1; omega⟩) (Nat.le_refl _), hI2.congr (fun k j => ⟨False.elim, fun h => by have := h.1; omega⟩) (by omega)⟩ rfl ?_
  rintro i W ⟨hi, hbar, own, m1, m2, hT1, hT2⟩
  have hSlo : ∀ k, (k = bl ∨ k = bh) → w.heap.size ≤ k := fun k hk => by rcases hk with rfl | rfl <;> omega
  have hbW : Below w.heap.size w W := hbar.below hb03 hSlo
  have hWs := hbar.size
  have hsB : Blk W sb 57 [.slice B l.length bcap, .slice A r.length cap, .map (some bl), .map (some bh)] := hbar.blk f3.blk (by omega)
  refine CW.seq (CW.region ?_)
  refine TW.lss rfl rfl rfl ct rfl ct ?_
  refine TW.nil (KW.pick [0, 5, 16, 17, 18, 19] [(0, _, _), (5, _, _), (16, _, _), (17, _, _), (18, _, _), (19, _, _)] rfl (KW.then_ ?_))
  refine CW.seq ?_
  refine CW.condP rfl (fun hlt => ?_) (fun hge => ?_)
  · obtain ⟨x, hx, hxm⟩ := getx (l := r) (k := i) (by omega)
    have hrW := hr.below hbW
    obtain ⟨ad, rfl⟩ := hrW.addr (by omega)
    obtain ⟨cv, hcells, hok⟩ := SR.get hrW hx
    obtain ⟨C, ccap, rfl, _⟩ := hok.ct.form
    have hcmax := hok.ct.len.2.2
    refine CW.skip (KW.then_ (CW.seq (CW.block (CW.seq (CW.region ?_)))))
    refine TW.move rfl rfl rfl ct ?_
    refine TW.indexAddr rfl rfl Tryd.underlying23 sz35 rfl ct rfl ct (fun _ => by (try dsimp only); omega) ?_
    refine TW.loadS _ rfl rfl Tryd.underlying35 sz35 rfl ct (fun _ => hcells) rfl ?_
    refine TW.alloc rfl rfl zc35 ?_
    rintro g4 w4 f4
    refine TW.assign rfl rfl rfl ct ?_
    refine TW.storeBlkF rfl rfl rfl f4.blk sz35 rfl rfl rfl ?_
    rintro w5 hB5 hbut5 hsz5
    refine TW.nil (KW.pick [0, 5, 6, 7, 16, 17, 18] [(0, _, _), (5, _, _), (6, _, _), (7, _, _), (16, _, _), (17, _, _), (18, _, _)] rfl (KW.then_ ?_))
    refine CW.seq (CW.seq (CW.region ?_))
    refine TW.move rfl rfl rfl ct ?_
    have hg4 := f4.at_
    have hb5 : Below W.heap.size W w5 := But.below f4.below hbut5 (by omega)
    refine TW.loadS _ rfl rfl Tryd.underlying35 sz35 rfl ct (fun _ => (fun _ _ h => hB5.fld h)) rfl ?_
    refine TW.call0 (cap := []) rfl rfl en11 rfl (Args.cons rfl ct (Args.cons rfl ct Args.nil)) (valid_c ((hl.below hbW).below hb5) (hok.below hb5)) ?_
    rintro y6 w6 ⟨hb6, rfl⟩
    have hb6' := hb5.step hb6
    have hbar6 := hbar.step hb6'
    by_cases hv : Val l x
    · rw [dec_pos hv]
      refine TW.not rfl rfl rfl ct ?_
      refine TW.nil (KW.pick [0, 5, 6, 7, 16, 17, 18, 26] [(0, _, _), (5, _, _), (6, _, _), (7, _, _), (16, _, _), (17, _, _), (18, _, _), (26, _, _)] rfl (KW.then_ ?_))
      refine CW.cond rfl (fun h1 => ?_) (fun h2 => ?_)
      · exact absurd h1 (by simp)
      have hcl : x.cont.length ≤ 40 := by
        rcases hv.comp.kinds with ⟨_, h⟩ | ⟨_, h, _⟩
        · rw [h]; exact Nat.zero_le _
        · exact h
      obtain ⟨rv, xs, hrv, hO, hxT, hxR, hvo⟩ := hT1.look x.label
      have hT1' := hT1.below hb6'
      have hT2' := hT2.below hb6'
      have hO6 := hO.below hb6'
      have hs6 := hsB.next hb6'
      have hB6 := hB5.next hb6
      have hno : ∀ k, rv.ownBlock = some k → k < w6.heap.size := fun k hk => hO6.lt hk
      have hnsb : rv.ownBlock ≠ some sb := fun e => by have := (hvo _ e).1; omega
      have hnbl : rv.ownBlock ≠ some bl := fun e => by have := (hvo _ e).1; omega
      have hng4 : rv.ownBlock ≠ some g4 := fun e => by have := hO.lt e; omega
      refine CW.skip (KW.then_ (CW.seq ?_))
      refine CW.drawR mixed fun W7 hW7 => ?_
      refine RW.drawRow rv.ownBlock 42 16 (by kernel_rfl) (by kernel_rfl) rfl rfl hW7 ?_
      refine DR.move rfl rfl rfl ct ?_
      refine DR.nilCheck rfl rfl rfl ct ?_
      refine DR.fieldAddr rfl rfl fo57_2 rfl ct ?_
      refine DR.load rfl rfl one55 rfl ct (fun _ => ⟨hs6.fld rfl, hnsb⟩) ?_
      refine DR.fieldAddr rfl rfl fo35_4 rfl ct ?_
      refine DR.load rfl rfl one9 rfl ct (fun _ => ⟨hB6.fld rfl, hng4⟩) ?_
      refine DR.move rfl rfl rfl ct ?_
      refine DR.nilCheck rfl rfl rfl ct ?_
      refine DR.fieldAddr rfl rfl fo57_2 rfl ct ?_
      refine DR.load rfl rfl one55 rfl ct (fun _ => ⟨hs6.fld rfl, hnsb⟩) ?_
      refine DR.fieldAddr rfl rfl fo35_4 rfl ct ?_
      refine DR.load rfl rfl one9 rfl ct (fun _ => ⟨hB6.fld rfl, hng4⟩) ?_
      refine DR.lookup1 sK x.label rfl rfl Tryd.underlying55 ze29 rfl rfl hT1'.mp hnbl hrv ?_
      refine DR.move rfl rfl rfl ct ?_
      refine DR.buildSlice 3 _ hno rfl rfl rfl eo29 (DArgs.cons rfl ct DArgs.nil) rfl rfl rfl rfl rfl ?_
      refine DR.append [.int .i64 (i : Int)] rfl rfl rfl go29 rfl hO6 rfl rfl rfl (fun u hu => by simp at hu; subst hu; rfl) (by omega) (by omega) ?_
      refine DR.nil (DR.finX [0, 5, 6, 7, 16, 17, 18, 30, 32] [(0, _, _), (5, _, _), (6, _, _), (7, _, _), (16, _, _), (17, _, _), (18, _, _), (30, _, _), (32, _, _)] rfl [42] rfl fun vs w8 hg8 hs8 => KW.rk' ?_)
      obtain ⟨v42, rfl, h42⟩ := Sats.one hs8
      refine RW.one (by kernel_rfl) (by kernel_rfl) rfl ?_
      have hM8 : MapL sK w8 bl m1 := hT1'.mp.kept (hg8.block bl hT1'.mp.lt (fun e => hnbl e.symm))
      refine TW.mapUpdateL sK x.label rfl Tryd.underlying55 rfl rfl rfl hM8 ?_
      rintro w9 hsz9 hbut9 hM9
      have h42 : AppE w6 rv.ownBlock 3 1 (xs.length + 1) (nats xs ++ [.int .i64 (i : Int)]) v42 w8 := h42
      have hlo6 : w3.heap.size ≤ w6.heap.size := hbar6.size
      have hT1n := (hT1'.put hxT hxR hvo h42 hlo6 hg8 hM9 hbut9).congr (rl_next hx hv) (Nat.le_refl _)
      have hT2n := hT2'.other (id' := false) (by decide) hvo h42 hlo6 (by omega) (by omega) hg8 hbut9
      have hbar9 : Bar (fun k => k = bl ∨ k = bh) w3 w9 := (hbar6.grown hg8 (fun k hk => .inr (hvo k hk).1)).grown hbut9 (fun k hk => by cases hk; exact .inl (.inl rfl))
      have hg4lo : w3.heap.size ≤ g4 := by omega
      have hB9 : Blk w9 g4 35 (rcV x (.slice C x.cont.length ccap)) := hbut9.blk (GB.blk hg8 hB6 hng4) (by omega)
      refine TW.nil (KW.pick [0, 5, 6, 7, 16, 17, 18] [(0, _, _), (5, _, _), (6, _, _), (7, _, _), (16, _, _), (17, _, _), (18, _, _)] rfl (KW.rk ?_))
      refine RW.end rfl (KW.pick [0, 5, 6, 7, 16, 17, 18] [(0, _, _), (5, _, _), (6, _, _), (7, _, _), (16, _, _), (17, _, _), (18, _, _)] rfl (KW.then_ ?_))
      refine CW.seq (CW.region ?_)
      refine TW.fieldAddr rfl rfl fo35_5 rfl ct ?_
      refine TW.load rfl rfl one33 rfl ct (fun _ => hB9.fld rfl) ?_
      refine TW.lenSlice rfl rfl Tryd.underlying33 rfl ct ?_
      refine TW.move rfl rfl rfl ct ?_
      refine TW.nil (KW.pick [0, 5, 6, 7, 16, 17, 18, 44, 45, 46] [(0, _, _), (5, _, _), (6, _, _), (7, _, _), (16, _, _), (17, _, _), (18, _, _), (44, _, _), (45, _, _), (46, _, _)] rfl (KW.then_ ?_))
      refine CW.block ?_
      refine CW.loopS (fun c : Nat => [(0, none, .slice B l.length bcap), (5, none, .pointer (some ⟨sb, 0, none⟩)), (6, none, .int .i64 (i : Int)), (16, none, .slice (some ad) r.length cap), (17, none, .int .i64 (r.length : Int)), (18, none, .int .i64 (i : Int)), (44, none, .slice C x.cont.length ccap), (45, none, .int .i64 (x.cont.length : Int)), (46, none, .int .i64 (c : Int))])
        (fun c W' => c ≤ x.cont.length ∧ Bar (fun k => k = bl ∨ k = bh) w3 W' ∧ ∃ own m1 m2, IdxM W' w3.heap.size bl false own (i + 1) (RL l r (i + 1)) m1 ∧ IdxM W' w3.heap.size bh true own (i * 40 + c) (fun k j => RH l r i k j ∨ (j = i ∧ k ∈ x.cont.take c)) m2) (fun c => x.cont.length - c) 0 [0, 5, 6, 16, 17, 18, 44, 45, 46] ⟨Nat.zero_le _, hbar9, _, _, _, hT1n, hT2n.congr (fun k j => ⟨.inl, fun h => h.resolve_right fun h => by simp at h⟩) (Nat.le_refl _)⟩ rfl ?_
      rintro c W' ⟨hc, hbar', own', n1, n2, hU1, hU2⟩
      have hbW' : Below w.heap.size w W' := hbar'.below hb03 hSlo
      have hsB' : Blk W' sb 57 [.slice B l.length bcap, .slice (some ad) r.length cap, .map (some bl), .map (some bh)] := hbar'.blk f3.blk (by omega)
      have hlo' := hbar'.size
      have hct' : SL strT (fun k => k < w.heap.size) W' (.slice C x.cont.length ccap) x.cont := hok.ct.mono fun ad2 u2 hF hc2 => (World.cell?_of_block ((hbW'.block _ hF).trans (hbW.block _ hF).symm)).trans hc2
      refine CW.seq (CW.region ?_)
      refine TW.lss rfl rfl rfl ct rfl ct ?_
      refine TW.nil (KW.pick [0, 5, 6, 16, 17, 18, 44, 45, 46, 47] [(0, _, _), (5, _, _), (6, _, _), (16, _, _), (17, _, _), (18, _, _), (44, _, _), (45, _, _), (46, _, _), (47, _, _)] rfl (KW.then_ ?_))
      refine CW.seq ?_
      refine CW.condP rfl (fun hlt2 => ?_) (fun hge2 => ?_)
      · obtain ⟨y, hy, hym⟩ := getx (l := x.cont) (k := c) (by omega)
        obtain ⟨cd, rfl⟩ := hct'.addr (by omega)
        obtain ⟨rv2, ys, hrv2, hO2, hyT, hyR, hvo2⟩ := hU2.look y
        have hno2 : ∀ k, rv2.ownBlock = some k → k < W'.heap.size := fun k hk => hO2.lt hk
        have hnsb2 : rv2.ownBlock ≠ some sb := fun e => by have := (hvo2 _ e).1; omega
        have hnbh2 : rv2.ownBlock ≠ some bh := fun e => by have := (hvo2 _ e).1; omega
        refine CW.skip (KW.then_ (CW.seq (CW.block (CW.seq (CW.region ?_)))))
        refine TW.indexAddr rfl rfl Tryd.underlying33 sz9 rfl ct rfl ct (fun _ => by (try dsimp only); omega) ?_
        refine TW.load rfl rfl one9 rfl ct (fun _ => hct'.getT hy) ?_
        refine TW.assign rfl rfl rfl ct ?_
        refine TW.nil (KW.pick [0, 5, 6, 9, 16, 17, 18, 44, 45, 46] [(0, _, _), (5, _, _), (6, _, _), (9, _, _), (16, _, _), (17, _, _), (18, _, _), (44, _, _), (45, _, _), (46, _, _)] rfl (KW.then_ ?_))
        refine CW.drawR mixed fun W10 hW10 => ?_
        refine RW.drawRow rv2.ownBlock 63 14 (by kernel_rfl) (by kernel_rfl) rfl rfl hW10 ?_
        refine DR.move rfl rfl rfl ct ?_
        refine DR.nilCheck rfl rfl rfl ct ?_
        refine DR.fieldAddr rfl rfl fo57_3 rfl ct ?_
        refine DR.load rfl rfl one55 rfl ct (fun _ => ⟨hsB'.fld rfl, hnsb2⟩) ?_
        refine DR.move rfl rfl rfl ct ?_
        refine DR.move rfl rfl rfl ct ?_
        refine DR.nilCheck rfl rfl rfl ct ?_
        refine DR.fieldAddr rfl rfl fo57_3 rfl ct ?_
        refine DR.load rfl rfl one55 rfl ct (fun _ => ⟨hsB'.fld rfl, hnsb2⟩) ?_
        refine DR.move rfl rfl rfl ct ?_
        refine DR.lookup1 sK y rfl rfl Tryd.underlying55 ze29 rfl rfl hU2.mp hnbh2 hrv2 ?_
        refine DR.move rfl rfl rfl ct ?_
        refine DR.buildSlice 3 _ hno2 rfl rfl rfl eo29 (DArgs.cons rfl ct DArgs.nil) rfl rfl rfl rfl rfl ?_
        refine DR.append [.int .i64 (i : Int)] rfl rfl rfl go29 rfl hO2 rfl rfl rfl (fun u hu => by simp at hu; subst hu; rfl) (by omega) (by omega) ?_
        refine DR.nil (DR.finX [0, 5, 6, 9, 16, 17, 18, 44, 45, 46, 53, 54] [(0, _, _), (5, _, _), (6, _, _), (9, _, _), (16, _, _), (17, _, _), (18, _, _), (44, _, _), (45, _, _), (46, _, _), (53, _, _), (54, _, _)] rfl [63] rfl fun vs w11 hg11 hs11 => KW.rk' ?_)
        obtain ⟨v63, rfl, h63⟩ := Sats.one hs11
        refine RW.one (by kernel_rfl) (by kernel_rfl) rfl ?_
        have hM11 : MapL sK w11 bh n2 := hU2.mp.kept (hg11.block bh hU2.mp.lt (fun e => hnbh2 e.symm))
        refine TW.mapUpdateL sK y rfl Tryd.underlying55 rfl rfl rfl hM11 ?_
        rintro w12 hsz12 hbut12 hM12
        have h63 : AppE W' rv2.ownBlock 3 1 (ys.length + 1) (nats ys ++ [.int .i64 (i : Int)]) v63 w11 := h63
        have hU2n := hU2.put hyT hyR hvo2 h63 hlo' hg11 hM12 hbut12
        have hU1n := hU1.other (id' := true) (by decide) hvo2 h63 hlo' (by omega) (by omega) hg11 hbut12
        have hbar12 : Bar (fun k => k = bl ∨ k = bh) w3 w12 := (hbar'.grown hg11 (fun k hk => .inr (hvo2 k hk).1)).grown hbut12 (fun k hk => by cases hk; exact .inl (.inr rfl))
        refine TW.nil (KW.pick [0, 5, 6, 9, 16, 17, 18, 44, 45, 46] [(0, _, _), (5, _, _), (6, _, _), (9, _, _), (16, _, _), (17, _, _), (18, _, _), (44, _, _), (45, _, _), (46, _, _)] rfl (KW.rk ?_))
        refine RW.end rfl (KW.pick [0, 5, 6, 9, 16, 17, 18, 44, 45, 46] [(0, _, _), (5, _, _), (6, _, _), (9, _, _), (16, _, _), (17, _, _), (18, _, _), (44, _, _), (45, _, _), (46, _, _)] rfl (KW.blockN (KW.then_ ?_)))
        refine CW.region ?_
        refine TW.add rfl rfl rfl ct rfl ct (fun _ => by (try dsimp only); omega) ?_
        refine TW.move rfl rfl rfl ct ?_
        refine TW.nil (KW.pick [0, 5, 6, 9, 16, 17, 18, 44, 45, 46] [(0, _, _), (5, _, _), (6, _, _), (9, _, _), (16, _, _), (17, _, _), (18, _, _), (44, _, _), (45, _, _), (46, _, _)] rfl ?_)
        refine KW.round (c + 1) [0, 5, 6, 16, 17, 18, 44, 45, 46] rfl ⟨by omega, hbar12, _, _, _, hU1n, hU2n.congr (fun k j => ?_) (by omega)⟩ (by omega)
        rw [List.take_add_one, hy]
        simp only [Option.toList_some, List.mem_append, List.mem_singleton]
        constructor
        · rintro ((h | ⟨h1, h2⟩) | ⟨h1, h2⟩)
          · exact .inl h
          · exact .inr ⟨h1, .inl h2⟩
          · exact .inr ⟨h2, .inr h1⟩
        · rintro (h | ⟨h1, h2 | h2⟩)
          · exact .inl (.inl h)
          · exact .inl (.inr ⟨h1, h2⟩)
          · exact .inr ⟨h2, h1⟩
      · have hce : c = x.cont.length := by omega
        subst hce
        refine CW.exit (KW.thenX (KW.thenX (KW.blockX (KW.blockN (KW.then_ (CW.region ?_))))))
        refine TW.add rfl rfl rfl ct rfl ct (fun _ => by (try dsimp only); omega) ?_
        refine TW.move rfl rfl rfl ct ?_
        refine TW.nil (KW.pick [0, 5, 6, 16, 17, 18, 44, 45, 46] [(0, _, _), (5, _, _), (6, _, _), (16, _, _), (17, _, _), (18, _, _), (44, _, _), (45, _, _), (46, _, _)] rfl ?_)
        refine KW.round (i + 1) [0, 5, 16, 17, 18] rfl ⟨by omega, hbar', own', n1, n2, hU1, hU2.congr (fun k j => ?_) (by omega)⟩ (by omega)
        rw [List.take_length]
        exact rh_next hx hv k j
    · rw [dec_neg hv]
      refine TW.not rfl rfl rfl ct ?_
      refine TW.nil (KW.pick [0, 5, 6, 7, 16, 17, 18, 26] [(0, _, _), (5, _, _), (6, _, _), (7, _, _), (16, _, _), (17, _, _), (18, _, _), (26, _, _)] rfl (KW.then_ ?_))
      refine CW.cond rfl (fun h1 => ?_) (fun h2 => ?_)
      · refine CW.exit (KW.thenX (KW.blockX (KW.then_ (CW.region ?_))))
        refine TW.add rfl rfl rfl ct rfl ct (fun _ => by (try dsimp only); omega) ?_
        refine TW.move rfl rfl rfl ct ?_
        refine TW.nil (KW.pick [0, 5, 6, 7, 16, 17, 18] [(0, _, _), (5, _, _), (6, _, _), (7, _, _), (16, _, _), (17, _, _), (18, _, _)] rfl ?_)
        refine KW.round (i + 1) [0, 5, 16, 17, 18] rfl ⟨by omega, hbar6, own, m1, m2, (hT1.below hb6').congr (rl_skip hx hv) (by omega), (hT2.below hb6').congr (rh_skip hx hv) (by omega)⟩ (by omega)
      · exact absurd h2 (by simp)
  · refine CW.exit (KW.thenX (KW.thenX (KW.blockX (KW.then_ (CW.seq (CW.region ?_))))))
    refine TW.move rfl rfl rfl ct ?_
    refine TW.assign rfl rfl rfl ct ?_
    refine TW.nil (KW.pick [0, 4, 5, 16, 17, 18] [(0, _, _), (4, _, _), (5, _, _), (16, _, _), (17, _, _), (18, _, _)] rfl (KW.then_ ?_))
    refine CW.ret ?_
    have hie : i = r.length := by omega
    subst hie
    refine ret1 Tryd.results20 rfl (⟨hbW, sb, bl, bh, _, rfl, hsB, own, m1, m2, hT1, hT2⟩)
end Go.Proofs.YthjcgmjcpmodlaaDoor
