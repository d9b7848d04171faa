/- Texts joined: Ra Rs Rb MapR Shelf Rc Marks Rd Re. -/
import Derived.Test.YtmhfeehkpndadaaGreatQC
import Derived.Test.YtmhfeehkpndadaaGreatQE
import Derived.Maps.RangeRun
import Derived.Shelf.Small.Bits
import Derived.Shelf.Small.Wraps
import Derived.Shelf.Strconv.Itoa0
import Derived.Shelf.Sort.Plain
import Derived.Ground.Names2Prog
import Derived.Shelf.Slices.CompactI
import Derived.Shelf.Slices.SearchI
import Derived.Shelf.Slices.Cells
import Derived.Shelf.Slices.In.SortNone
import Derived.Shelf.Slices.Empties
import Derived.Test.YtmhfeehkpndadaaGreatProg
import Derived.Sort.OwnSortedInts
set_option linter.unusedSimpArgs false
set_option linter.unusedVariables false

namespace Go.Proofs.YtmhfeehkpndadaaGreat
open Go.PF Go.RowKit Go.Ord

/-! ### library: ContainsFunc on numbers, Clone -/
theorem indexI_c {w : World} {v : Value} {l : List Int} {F : Nat → Prop} {k : FuncId} {caps : List Value} {p : Int → Bool} (hl : SL intT F w v l) (hk : enters Tryz.prog k = true) (hp : PredI Tryz.prog w k caps p) :
    Gives Tryz.prog 83 #[v, .func (.func k) #[] caps.toArray] w fun x w' => Below w.heap.size w w' ∧ ((x = .int .i64 (-1) ∧ l.any p = false) ∨ ∃ i : Nat, x = .int .i64 (i : Int) ∧ l.any p = true) := by
  obtain ⟨A, cap, rfl, _⟩ := hl.form
  have hmax : l.length ≤ 9223372036854775807 := hl.len.2.2
  refine gives_of (vs := [.slice A l.length cap, .func (.func k) #[] caps.toArray]) [(0, none, _), (1, none, _)] Tryz.func83 rfl Tryz.ntmps83 rfl rfl ?_
  refine CW.seq (CW.region ?_)
  refine TW.assign rfl rfl rfl ct ?_
  refine TW.nil (KW.pick [0, 1, 4] [(0, _, _), (1, _, _), (4, _, _)] rfl (KW.then_ ?_))
  refine CW.seq (CW.seq (CW.region ?_))
  refine TW.move rfl rfl rfl ct ?_
  refine TW.lenSlice rfl rfl Tryz.underlying24 rfl ct ?_
  refine TW.move rfl rfl rfl ct ?_
  refine TW.nil (KW.pick [0, 1, 4, 7, 8] [(0, _, _), (1, _, _), (4, _, _), (7, _, _), (8, _, _)] rfl (KW.then_ ?_))
  refine CW.block ?_
  refine CW.loopS (fun i : Nat => [(0, none, .slice A l.length cap), (1, none, .func (.func k) #[] caps.toArray), (7, none, .int .i64 (l.length : Int)), (8, none, .int .i64 (i : Int))])
    (fun i W => i ≤ l.length ∧ Below w.heap.size w W ∧ (l.take i).any p = false) (fun i => l.length - i) 0 [0, 1, 7, 8] ⟨Nat.zero_le _, Below.refl _ _, rfl⟩ rfl ?_
  rintro i W ⟨hi, hB, hno⟩
  refine CW.seq (CW.region ?_)
  refine TW.lss rfl rfl rfl ct rfl ct ?_
  refine TW.nil (KW.pick [0, 1, 7, 8, 9] [(0, _, _), (1, _, _), (7, _, _), (8, _, _), (9, _, _)] rfl (KW.then_ ?_))
  refine CW.seq ?_
  refine CW.condP rfl (fun hlt => ?_) (fun hge => ?_)
  · have hil : i < l.length := by omega
    obtain ⟨ad, rfl⟩ := hl.addr (by omega)
    have hlW := hl.below hB
    have hx : l[i]? = some l[i] := List.getElem?_eq_getElem hil
    refine CW.skip (KW.then_ (CW.seq (CW.block (CW.seq (CW.region ?_)))))
    refine TW.move rfl rfl rfl ct ?_
    refine TW.assign rfl rfl rfl ct ?_
    refine TW.nil (KW.pick [0, 1, 5, 7, 8] [(0, _, _), (1, _, _), (5, _, _), (7, _, _), (8, _, _)] rfl (KW.then_ ?_))
    refine CW.seq (CW.region ?_)
    refine TW.move rfl rfl rfl ct ?_
    refine TW.move rfl rfl rfl ct ?_
    refine TW.move rfl rfl rfl ct ?_
    refine TW.indexAddr rfl rfl Tryz.underlying24 sz3 rfl ct rfl ct (fun _ => by (try dsimp only); omega) ?_
    refine TW.load rfl rfl one3 rfl ct (fun _ => hlW.getI hx) ?_
    refine TW.call0 rfl rfl hk rfl (Args.cons rfl ct Args.nil) (hp _ _ hB) ?_
    rintro y1 w1 ⟨hb1, rfl⟩
    refine TW.nil (KW.pick [0, 1, 5, 7, 8, 16] [(0, _, _), (1, _, _), (5, _, _), (7, _, _), (8, _, _), (16, _, _)] rfl (KW.then_ ?_))
    refine CW.cond rfl (fun hyes => ?_) (fun hnot => ?_)
    · refine CW.seq (CW.region ?_)
      refine TW.move rfl rfl rfl ct ?_
      refine TW.assign rfl rfl rfl ct ?_
      refine TW.nil (KW.pick [0, 1, 4, 5, 7, 8] [(0, _, _), (1, _, _), (4, _, _), (5, _, _), (7, _, _), (8, _, _)] rfl (KW.then_ ?_))
      refine CW.ret (KW.blockR (KW.thenR (KW.thenR (KW.blockR (KW.thenR ?_)))))
      refine ret1 Tryz.results83 rfl (⟨hB.step hb1, .inr ⟨i, rfl, ?_⟩⟩)
      rw [List.any_eq_true]
      exact ⟨l[i], List.getElem_mem hil, hyes⟩
    · refine CW.skip (KW.blockN (KW.then_ (CW.region ?_)))
      refine TW.add rfl rfl rfl ct rfl ct (fun _ => by (try dsimp only); omega) ?_
      refine TW.move rfl rfl rfl ct ?_
      refine TW.nil (KW.pick [0, 1, 5, 7, 8] [(0, _, _), (1, _, _), (5, _, _), (7, _, _), (8, _, _)] rfl ?_)
      refine KW.round (i + 1) [0, 1, 7, 8] rfl ⟨by omega, hB.step hb1, ?_⟩ (by omega)
      rw [List.take_add_one, List.any_append, hno, hx]
      simp [hnot]
  · refine CW.exit (KW.thenX (KW.thenX (KW.blockX (KW.then_ (CW.seq (CW.region ?_))))))
    refine TW.assign rfl rfl rfl ct ?_
    refine TW.nil (KW.pick [0, 1, 4, 7, 8] [(0, _, _), (1, _, _), (4, _, _), (7, _, _), (8, _, _)] rfl (KW.then_ ?_))
    refine CW.ret ?_
    refine ret1 Tryz.results83 rfl (⟨hB, .inl ⟨rfl, ?_⟩⟩)
    rw [show i = l.length by omega, List.take_length] at hno
    exact hno

theorem containsI_c {w : World} {v : Value} {l : List Int} {F : Nat → Prop} {k : FuncId} {caps : List Value} {p : Int → Bool} (hl : SL intT F w v l) (hk : enters Tryz.prog k = true) (hp : PredI Tryz.prog w k caps p) :
    Gives Tryz.prog 54 #[v, .func (.func k) #[] caps.toArray] w fun x w' => Below w.heap.size w w' ∧ x = .bool (l.any p) := by
  refine gives_of (vs := [v, .func (.func k) #[] caps.toArray]) [(0, none, _), (1, none, _)] Tryz.func54 rfl Tryz.ntmps54 rfl rfl ?_
  refine CW.seq (CW.region ?_)
  refine TW.assign rfl rfl rfl ct ?_
  refine TW.nil (KW.pick [0, 1, 4] [(0, _, _), (1, _, _), (4, _, _)] rfl (KW.then_ ?_))
  refine CW.seq (CW.region ?_)
  refine TW.move rfl rfl rfl ct ?_
  refine TW.move rfl rfl rfl ct ?_
  refine TW.call0 (cap := []) rfl rfl en83 rfl (Args.cons rfl ct (Args.cons rfl ct Args.nil)) (indexI_c hl hk hp) ?_
  rintro y1 w1 ⟨hb1, h1⟩
  rcases h1 with ⟨rfl, h1⟩ | ⟨i, rfl, h1⟩
  · skip
    refine TW.geq rfl rfl rfl ct rfl ct ?_
    refine TW.assign rfl rfl rfl ct ?_
    refine TW.nil (KW.pick [0, 1, 4] [(0, _, _), (1, _, _), (4, _, _)] rfl (KW.then_ ?_))
    refine CW.ret ?_
    refine ret1 Tryz.results54 rfl (⟨hb1, by rw [h1]; rfl⟩)
  · skip
    refine TW.geq rfl rfl rfl ct rfl ct ?_
    refine TW.assign rfl rfl rfl ct ?_
    refine TW.nil (KW.pick [0, 1, 4] [(0, _, _), (1, _, _), (4, _, _)] rfl (KW.then_ ?_))
    refine CW.ret ?_
    refine ret1 Tryz.results54 rfl (⟨hb1, by rw [h1]; simp⟩)

theorem cloneI_c {w : World} {v : Value} {l : List Int} {F : Nat → Prop} (hl : SL intT F w v l) (hs : l.length ≤ 1000000) : Gives Tryz.prog 56 #[v] w fun x w' => Below w.heap.size w w' ∧ SL intT (fun k => w.heap.size ≤ k) w' x l ∧ ∃ A n c, x = .slice A n c := by
  obtain ⟨A, cap, rfl, _⟩ := hl.form
  refine gives_of (vs := [.slice A l.length cap]) [(0, none, _)] Tryz.func56 rfl Tryz.ntmps56 rfl rfl ?_
  refine CW.seq (CW.region ?_)
  refine TW.assign rfl rfl rfl ct ?_
  refine TW.nil (KW.pick [0, 2] [(0, _, _), (2, _, _)] rfl (KW.then_ ?_))
  refine CW.seq (CW.seq (CW.region ?_))
  refine TW.move rfl rfl rfl ct ?_
  refine TW.eqlNil rfl rfl Tryz.underlying24 rfl ct ?_
  refine TW.nil (KW.pick [0, 2, 4] [(0, _, _), (2, _, _), (4, _, _)] rfl (KW.then_ ?_))
  refine CW.cond rfl (fun hnil => ?_) (fun hsome => ?_)
  · refine CW.seq (CW.region ?_)
    refine TW.assign rfl rfl rfl ct ?_
    refine TW.nil (KW.pick [0, 2] [(0, _, _), (2, _, _)] rfl (KW.then_ ?_))
    refine CW.ret (KW.thenR ?_)
    have h0 : l = [] := by
      cases l with
      | nil => rfl
      | cons a l =>
        obtain ⟨ad, rfl⟩ := hl.addr (by simp)
        cases hnil
    subst h0
    refine ret1 Tryz.results56 rfl (⟨Below.refl _ _, SL.nil _ _ _, _, _, _, rfl⟩)
  · refine CW.skip (KW.then_ (CW.seq (CW.region ?_)))
    refine TW.buildSlice0 3 rfl rfl eo24 ?_
    rintro g w1 f1
    refine TW.move rfl rfl rfl ct ?_
    have hO : OwnS w1 3 1 (.slice (some ⟨g, 0, none⟩) 0 0) 0 [] := OwnS.of_blk f1.blk rfl (by decide)
    have hl1 := hl.below f1.below
    refine TW.append (l.map (Value.int .i64)) rfl rfl go24 rfl hO rfl (by simp) ?_ (fun v hv => by rw [List.mem_map] at hv; obtain ⟨x, _, rfl⟩ := hv; rfl) (by omega) (by omega) ?_
    · intro j u hj
      have := SL.cells (T := intT) (fun x => [Value.int .i64 x]) (fun F w cs x h => h.1) (by decide) hl1 (fun x _ => rfl) j u (by rw [flat_int]; exact hj)
      exact this
    rintro v' w2 hO2 hg2 hn2
    refine TW.assign rfl rfl rfl ct ?_
    refine TW.nil (KW.pick [0, 2] [(0, _, _), (2, _, _)] rfl (KW.then_ ?_))
    refine CW.ret ?_
    obtain ⟨A2, c2, hv2, _⟩ := hO2.form
    have hb2 : Below w.heap.size w w2 := f1.below.grown hg2 f1.below.size (fun q hq => by simp [Value.ownBlock] at hq; have := f1.at_; omega)
    refine ret1 Tryz.results56 rfl (⟨hb2, ?_, A2, _, c2, hv2⟩)
    refine OwnS.toInts (e := 3) (by simpa using hO2) (fun x hx => ?_) (fun q hq => ?_) (by omega)
    rotate_left
    · rcases hn2 with h | h
      · rw [h] at hq; simp [Value.ownBlock] at hq; have := f1.at_; omega
      · rw [h] at hq; cases hq; exact f1.below.size
    obtain ⟨i, hi, rfl⟩ := List.getElem_of_mem hx
    exact hl.rngI (List.getElem?_eq_getElem hi)

/-! ### Rest -/
def gone (S : List Int) (e : Ev) : Bool := e.needs.any fun r => S.contains r
def restS (l : List Ev) (S : List Int) : List Ev := l.filter fun e => !gone S e

def intK : GKey Tryz.prog 3 Int := nowKey (intKey Tryz.prog 3 .i64 Tryz.underlying3) (fun a b => by simp [intKey])
/-- the map of what is withdrawn -/
def Drawn (w : World) (b : Nat) (S : List Int) : Prop := ∃ m, MapL intK w b m ∧ (∀ x, (∃ v, (x, v) ∈ m) ↔ x ∈ S) ∧ ∀ p ∈ m, p.2 = .bool true
theorem Drawn.step {w w' : World} {b : Nat} {S : List Int} (h : Drawn w b S) (hb : Below w.heap.size w w') : Drawn w' b S := by
  obtain ⟨m, h1, h2⟩ := h
  exact ⟨m, h1.below hb, h2⟩

theorem rest11_c {w : World} {g b : Nat} {S : List Int} (hg : Blk w g 80 [.map (some b)]) (hD : Drawn w b S) : PredI Tryz.prog w 55 [.pointer (some ⟨g, 0, none⟩)] fun x => S.contains x := by
  intro x w1 hb1
  have hg1 := hg.next hb1
  obtain ⟨m, hm, hS, hT⟩ := hD.step hb1
  refine gives_of (vs := [.int .i64 x, .pointer (some ⟨g, 0, none⟩)]) [(0, none, _), (1, none, _)] Tryz.func55 rfl Tryz.ntmps55 rfl rfl ?_
  refine CW.seq (CW.region ?_)
  refine TW.assign rfl rfl rfl ct ?_
  refine TW.nil (KW.pick [0, 1, 3] [(0, _, _), (1, _, _), (3, _, _)] rfl (KW.then_ ?_))
  refine CW.seq (CW.region ?_)
  refine TW.load rfl rfl one80 rfl ct (fun _ => hg1.cell 0) ?_
  refine TW.move rfl rfl rfl ct ?_
  refine TW.lookup1 intK x rfl rfl Tryz.underlying80 ze4 rfl rfl hm ?_
  rintro v hv
  refine TW.assign rfl rfl rfl ct ?_
  refine TW.nil (KW.pick [0, 1, 3] [(0, _, _), (1, _, _), (3, _, _)] rfl (KW.then_ ?_))
  refine CW.ret ?_
  refine ret1 Tryz.results55 rfl (⟨Below.refl _ _, ?_⟩)
  rcases hv with hv | ⟨hv, rfl⟩
  · have hvt : v = .bool true := hT _ hv
    rw [hvt]
    have : x ∈ S := (hS x).1 ⟨v, hv⟩
    simp [this]
  · have : ¬ x ∈ S := fun h => by
      obtain ⟨v, hv'⟩ := (hS x).2 h
      exact hv _ hv' rfl
    simp [this]

theorem rest1_c {w : World} {g b : Nat} {S : List Int} {e : Ev} {nv : Value} {F : Nat → Prop} (hg : Blk w g 80 [.map (some b)]) (hD : Drawn w b S) (hn : SL intT F w nv e.needs) :
    Gives Tryz.prog 53 #[.agg #[.int .i64 e.office, .int .i64 e.low, .int .i64 e.high, nv], .pointer (some ⟨g, 0, none⟩)] w fun x w' => Below w.heap.size w w' ∧ x = .bool (!gone S e) := by
  obtain ⟨A, cap, rfl, _⟩ := hn.form
  refine gives_of (vs := [.agg #[.int .i64 e.office, .int .i64 e.low, .int .i64 e.high, .slice A e.needs.length cap], .pointer (some ⟨g, 0, none⟩)]) [(0, none, _), (1, none, _)] Tryz.func53 rfl Tryz.ntmps53 rfl rfl ?_
  refine CW.seq (CW.region ?_)
  refine TW.box rfl rfl rfl rfl ?_
  rintro g1 w1 f1
  refine TW.assign rfl rfl rfl ct ?_
  refine TW.nil (KW.pick [0, 1, 2, 3] [(0, _, _), (1, _, _), (2, _, _), (3, _, _)] rfl (KW.then_ ?_))
  refine CW.seq (CW.region ?_)
  refine TW.fieldAddr rfl rfl fo43_3 rfl ct ?_
  refine TW.load rfl rfl one24 rfl ct (fun _ => f1.blk.fld rfl) ?_
  refine TW.makeFunc rfl rfl (Args.cons rfl ct Args.nil) ?_
  refine TW.call0 (cap := []) rfl rfl en54 rfl (Args.cons rfl ct (Args.cons rfl ct Args.nil)) (containsI_c (hn.below f1.below) en55 (rest11_c (hg.next f1.below) (hD.step f1.below))) ?_
  rintro y2 w2 ⟨hb2, rfl⟩
  refine TW.not rfl rfl rfl ct ?_
  refine TW.assign rfl rfl rfl ct ?_
  refine TW.nil (KW.pick [0, 1, 2, 3] [(0, _, _), (1, _, _), (2, _, _), (3, _, _)] rfl (KW.then_ ?_))
  refine CW.ret ?_
  refine ret1 Tryz.results53 rfl (⟨f1.below.step hb2, rfl⟩)

set_option maxRecDepth 20000 in
theorem rest_c {w : World} {v u : Value} {l : List Ev} {S : List Int} {F : Nat → Prop} (hl : SE w v l) (hS : SL intT F w u S) (hsm : l.length ≤ 1000000) (hne : ∀ e ∈ l, e.needs.length ≤ 1000000) :
    Gives Tryz.prog 29 #[v, u] w fun x w' => Below w.heap.size w w' ∧ SE w' x (restS l S) := by
  obtain ⟨A, cap, rfl, _⟩ := hl.form
  obtain ⟨B, bcap, rfl, _⟩ := hS.form
  have hSmax : S.length ≤ 9223372036854775807 := hS.len.2.2
  refine gives_of (vs := [.slice A l.length cap, .slice B S.length bcap]) [(0, none, _), (1, none, _)] Tryz.func29 rfl Tryz.ntmps29 rfl rfl ?_
  refine CW.seq (CW.region ?_)
  refine TW.assign rfl rfl rfl ct ?_
  refine TW.nil (KW.pick [0, 1, 4] [(0, _, _), (1, _, _), (4, _, _)] rfl (KW.then_ ?_))
  refine CW.seq (CW.region ?_)
  refine TW.makeMapL intK rfl rfl ?_
  rintro b w1 hbw hw1 hb1 hM1
  refine TW.newVar1 rfl zc80 rfl sz80 rfl ?_
  rintro g w2 f2
  refine TW.nil (KW.pick [0, 1, 4, 5] [(0, _, _), (1, _, _), (4, _, _), (5, _, _)] rfl (KW.then_ ?_))
  refine CW.seq (CW.seq (CW.region ?_))
  refine TW.move rfl rfl rfl ct ?_
  refine TW.lenSlice rfl rfl Tryz.underlying24 rfl ct ?_
  refine TW.move rfl rfl rfl ct ?_
  refine TW.nil (KW.pick [0, 1, 4, 5, 13, 14, 15] [(0, _, _), (1, _, _), (4, _, _), (5, _, _), (13, _, _), (14, _, _), (15, _, _)] rfl (KW.then_ ?_))
  refine CW.block ?_
  have hg2 := f2.at_
  refine CW.loopS (fun i : Nat => [(0, none, .slice A l.length cap), (5, none, .pointer (some ⟨g, 0, none⟩)), (13, none, .slice B S.length bcap), (14, none, .int .i64 (S.length : Int)), (15, none, .int .i64 (i : Int))])
    (fun i W => i ≤ S.length ∧ But b w2 W ∧ Drawn W b (S.take i)) (fun i => S.length - i) 0 [0, 5, 13, 14, 15] ⟨Nat.zero_le _, But.of_below (Below.refl _ _), ⟨[], hM1.below f2.below, fun x => by simp, fun p hp => by cases hp⟩⟩ rfl ?_
  rintro i W ⟨hi, hbut, hD⟩
  have hbw2 : Below w.heap.size w W := But.below (hb1.step f2.below) hbut (by omega)
  have hBg : Blk W g 80 [.map (some b)] := hbut.blk f2.blk (by omega)
  refine CW.seq (CW.region ?_)
  refine TW.lss rfl rfl rfl ct rfl ct ?_
  refine TW.nil (KW.pick [0, 5, 13, 14, 15, 16] [(0, _, _), (5, _, _), (13, _, _), (14, _, _), (15, _, _), (16, _, _)] rfl (KW.then_ ?_))
  refine CW.seq ?_
  refine CW.condP rfl (fun hlt => ?_) (fun hge => ?_)
  · have hil : i < S.length := by omega
    have hSW := hS.below hbw2
    obtain ⟨ad, rfl⟩ := hSW.addr (by omega)
    have hx : S[i]? = some S[i] := List.getElem?_eq_getElem hil
    obtain ⟨m, hm, hmS, hmT⟩ := hD
    refine CW.skip (KW.then_ (CW.seq (CW.block (CW.seq (CW.region ?_)))))
    refine TW.indexAddr rfl rfl Tryz.underlying24 sz3 rfl ct rfl ct (fun _ => by (try dsimp only); omega) ?_
    refine TW.load rfl rfl one3 rfl ct (fun _ => hSW.getI hx) ?_
    refine TW.assign rfl rfl rfl ct ?_
    refine TW.nil (KW.pick [0, 5, 7, 13, 14, 15] [(0, _, _), (5, _, _), (7, _, _), (13, _, _), (14, _, _), (15, _, _)] rfl (KW.then_ ?_))
    refine CW.region ?_
    refine TW.load rfl rfl one80 rfl ct (fun _ => hBg.cell 0) ?_
    refine TW.move rfl rfl rfl ct ?_
    refine TW.mapUpdateL intK S[i] (vz := .bool true) rfl Tryz.underlying80 rfl rfl rfl hm ?_
    rintro w3 hs3 hbut3 hM3
    refine TW.nil (KW.pick [0, 5, 7, 13, 14, 15] [(0, _, _), (5, _, _), (7, _, _), (13, _, _), (14, _, _), (15, _, _)] rfl (KW.blockN (KW.then_ ?_)))
    refine CW.region ?_
    refine TW.add rfl rfl rfl ct rfl ct (fun _ => by (try dsimp only); omega) ?_
    refine TW.move rfl rfl rfl ct ?_
    refine TW.nil (KW.pick [0, 5, 7, 13, 14, 15] [(0, _, _), (5, _, _), (7, _, _), (13, _, _), (14, _, _), (15, _, _)] rfl ?_)
    refine KW.round (i + 1) [0, 5, 13, 14, 15] rfl ⟨by omega, hbut.trans hbut3, _, hM3, fun x => ?_, fun p hp => ?_⟩ (by omega)
    · rw [List.take_add_one, hx]
      constructor
      · rintro ⟨v, hv⟩
        rcases mem_lput.1 hv with h | ⟨h, _⟩
        · simp only [Prod.mk.injEq] at h; rw [h.1]; exact List.mem_append_right _ (by simp)
        · exact List.mem_append_left _ ((hmS x).1 ⟨v, h⟩)
      · intro h
        by_cases hxe : x = S[i]
        · exact ⟨.bool true, mem_lput.2 (.inl (by rw [hxe]))⟩
        · rcases List.mem_append.1 h with h | h
          · obtain ⟨v, hv⟩ := (hmS x).2 h
            exact ⟨v, mem_lput.2 (.inr ⟨hv, hxe⟩)⟩
          · simp at h
            exact absurd h hxe
    · rcases mem_lput.1 hp with rfl | ⟨h, _⟩
      · rfl
      · exact hmT p h
  have hD' : Drawn W b S := by
    rw [show i = S.length by omega, List.take_length] at hD
    exact hD
  refine CW.exit (KW.thenX (KW.thenX (KW.blockX (KW.then_ (CW.seq (CW.region ?_))))))
  refine TW.makeFunc rfl rfl (Args.cons rfl ct Args.nil) ?_
  refine TW.assign rfl rfl rfl ct ?_
  refine TW.nil (KW.pick [0, 5, 8, 13, 14, 15] [(0, _, _), (5, _, _), (8, _, _), (13, _, _), (14, _, _), (15, _, _)] rfl (KW.then_ ?_))
  refine CW.seq (CW.region ?_)
  refine TW.assign rfl rfl rfl ct ?_
  refine TW.nil (KW.pick [0, 5, 8, 9, 13, 14, 15] [(0, _, _), (5, _, _), (8, _, _), (9, _, _), (13, _, _), (14, _, _), (15, _, _)] rfl (KW.then_ ?_))
  refine CW.seq (CW.seq (CW.region ?_))
  refine TW.move rfl rfl rfl ct ?_
  refine TW.lenSlice rfl rfl Tryz.underlying23 rfl ct ?_
  refine TW.move rfl rfl rfl ct ?_
  refine TW.nil (KW.pick [0, 5, 8, 9, 13, 14, 15, 23, 24, 25] [(0, _, _), (5, _, _), (8, _, _), (9, _, _), (13, _, _), (14, _, _), (15, _, _), (23, _, _), (24, _, _), (25, _, _)] rfl (KW.then_ ?_))
  refine CW.block ?_
  refine CW.loopS (fun x : Nat × Value × List (List Value × Ev) => [(8, none, .func (.func 53) #[] #[.pointer (some ⟨g, 0, none⟩)]), (9, none, x.2.1), (23, none, .slice A l.length cap), (24, none, .int .i64 (l.length : Int)), (25, none, .int .i64 (x.1 : Int))])
    (fun x W' => x.1 ≤ l.length ∧ Below W.heap.size W W' ∧ RowL evT W' 43 W.heap.size x.2.1 x.2.2 ∧ x.2.2.map (·.2) = restS (l.take x.1) S) (fun x => l.length - x.1) (0, .slice none 0 0, []) [8, 9, 23, 24, 25] ⟨Nat.zero_le _, Below.refl _ _, RowL.nil _ _ _ _, rfl⟩ rfl ?_
  rintro ⟨k, rv, ps⟩ W' ⟨hk, hB, hR, hmap⟩
  dsimp only at hk hB hR hmap
  refine CW.seq (CW.region ?_)
  refine TW.lss rfl rfl rfl ct rfl ct ?_
  refine TW.nil (KW.pick [8, 9, 23, 24, 25, 26] [(8, _, _), (9, _, _), (23, _, _), (24, _, _), (25, _, _), (26, _, _)] rfl (KW.then_ ?_))
  refine CW.seq ?_
  refine CW.condP rfl (fun hlt2 => ?_) (fun hge2 => ?_)
  · have hkl : k < l.length := by omega
    obtain ⟨e, he⟩ : ∃ e, l[k]? = some e := ⟨l[k], List.getElem?_eq_getElem hkl⟩
    have hem := List.mem_of_getElem? he
    have hlW := se_step hl (hbw2.step hB)
    obtain ⟨ad, rfl⟩ := hlW.addr (by omega)
    obtain ⟨nv, hcells, i1, i2, i3, hneeds⟩ := SE.get hlW he
    obtain ⟨C, ncap, rfl, _⟩ := hneeds.form
    have htk : restS (l.take (k + 1)) S = restS (l.take k) S ++ if gone S e then [] else [e] := by
      unfold restS
      rw [List.take_add_one, he, List.filter_append]
      cases hq : gone S e <;> simp [List.filter, hq]
    refine CW.skip (KW.then_ (CW.seq (CW.block (CW.seq (CW.region ?_)))))
    refine TW.indexAddr rfl rfl Tryz.underlying23 sz43 rfl ct rfl ct (fun _ => by (try dsimp only); omega) ?_
    refine TW.loadS _ rfl rfl Tryz.underlying43 sz43 rfl ct (fun _ => hcells) rfl ?_
    refine TW.newVar rfl zc43 rfl sz43 rfl rfl ?_
    rintro g3 w3 f3
    refine TW.nil (KW.pick [8, 9, 11, 23, 24, 25] [(8, _, _), (9, _, _), (11, _, _), (23, _, _), (24, _, _), (25, _, _)] rfl (KW.then_ ?_))
    refine CW.seq (CW.region ?_)
    refine TW.move rfl rfl rfl ct ?_
    have hB3 := hB.step f3.below
    refine TW.loadS _ rfl rfl Tryz.underlying43 sz43 rfl ct (fun _ => (fun _ _ h => f3.blk.fld h)) rfl ?_
    refine TW.call0 rfl rfl en53 rfl (Args.cons rfl ct Args.nil) (rest1_c (hBg.next hB3) (hD'.step hB3) (hneeds.below f3.below)) ?_
    rintro y4 w4 ⟨hb4, rfl⟩
    have hB4 := hB3.step hb4
    have hBk4 := f3.blk.next hb4
    refine TW.nil (KW.pick [8, 9, 11, 23, 24, 25, 31] [(8, _, _), (9, _, _), (11, _, _), (23, _, _), (24, _, _), (25, _, _), (31, _, _)] rfl (KW.then_ ?_))
    refine CW.cond rfl (fun hin => ?_) (fun hout => ?_)
    · have hg0 : gone S e = false := by simpa using hin
      rw [hg0] at htk
      refine CW.seq (CW.region ?_)
      refine TW.fieldAddr rfl rfl fo43_3 rfl ct ?_
      refine TW.load rfl rfl one24 rfl ct (fun _ => hBk4.fld rfl) ?_
      refine TW.call0 (cap := []) rfl rfl en56 rfl (Args.cons rfl ct Args.nil) (cloneI_c ((hneeds.below f3.below).below hb4) (hne e hem)) ?_
      rintro y5 w5 ⟨hb5, hn5, C5, n5, c5, rfl⟩
      have hBk5 := hBk4.next hb5
      refine TW.fieldAddr rfl rfl fo43_3 rfl ct ?_
      refine TW.storeFld rfl sz24 rfl rfl hBk5 (by show 3 < 4; decide) rfl ?_
      rintro w6 hB6 hbut6 hsz6
      refine TW.nil (KW.pick [8, 9, 11, 23, 24, 25] [(8, _, _), (9, _, _), (11, _, _), (23, _, _), (24, _, _), (25, _, _)] rfl (KW.then_ ?_))
      refine CW.region ?_
      refine TW.move rfl rfl rfl ct ?_
      have hB5 := hB4.step hb5
      have hB6' : Below W.heap.size W w6 := hB5.grown hbut6 hB5.size (fun q hq => by cases hq; have := f3.at_; have := hB.size; omega)
      have hg3w : W'.heap.size ≤ g3 := Nat.le_of_eq f3.at_.symm
      refine TW.loadS _ rfl rfl Tryz.underlying43 sz43 rfl ct (fun _ => (fun _ _ h => hB6.fld h)) rfl ?_
      refine TW.buildSlice 43 _ rfl rfl rfl eo23 (Args.cons rfl ct Args.nil) rfl rfl rfl rfl rfl ?_
      rintro g7 w7 f7
      have hW6 : Below W'.heap.size W' w6 := by
        have h5 := (f3.below.step hb4).step hb5
        exact h5.grown hbut6 h5.size (fun q hq => by cases hq; exact hg3w)
      have hR7 := (hR.step hW6).step f7.below
      have hrow : ∀ q, rv.ownBlock = some q → q < W'.heap.size := fun q hq => hR.1.lt hq
      have hn7 : SL intT (RowF w7 rv) w7 (.slice C5 n5 c5) e.needs := by
        have h6 := SL.mono hn5 (w' := w6) (Kept.of_blocks fun k hk hlt => hbut6.block k hlt (fun e => by cases e; have := f3.size; have := hb4.size; omega))
        refine SL.wider (SL.nb intT_nb (h6.below f7.below)) (fun k hk => ⟨hk.2, fun e => ?_⟩)
        have h1 := hrow k e
        have h2 := hk.1
        have := f3.below.size
        have := hb4.size
        omega
      have hfew : ps.length ≤ 1000000 := by
        have h1 : ps.length = (restS (l.take k) S).length := by rw [← hmap]; simp
        have h2 : (restS (l.take k) S).length ≤ (l.take k).length := List.length_filter_le _ _
        have h3 : (l.take k).length ≤ l.length := by rw [List.length_take]; omega
        omega
      refine TW.append [.int .i64 e.office, .int .i64 e.low, .int .i64 e.high, .slice C5 n5 c5] rfl rfl go23 rfl hR7.1 rfl rfl (fun j v hj => ⟨⟨g7, 0, none⟩, rfl, f7.blk.fld hj⟩) (fun v hv => by simp at hv; rcases hv with rfl | rfl | rfl | rfl <;> rfl) (by omega) (by omega) ?_
      rintro rv' w8 hO8 hg8 hnew8
      refine TW.assign rfl rfl rfl ct ?_
      refine TW.nil (KW.pick [8, 9, 11, 23, 24, 25] [(8, _, _), (9, _, _), (11, _, _), (23, _, _), (24, _, _), (25, _, _)] rfl (KW.blockN (KW.then_ ?_)))
      refine CW.region ?_
      refine TW.add rfl rfl rfl ct rfl ct (fun _ => by (try dsimp only); omega) ?_
      refine TW.move rfl rfl rfl ct ?_
      refine TW.nil (KW.pick [8, 9, 11, 23, 24, 25] [(8, _, _), (9, _, _), (11, _, _), (23, _, _), (24, _, _), (25, _, _)] rfl ?_)
      have hW7 : Below W'.heap.size W' w7 := hW6.step f7.below
      have hBW7 : Below W.heap.size W w7 := hB6'.step f7.below
      have hown : ∀ q, rv.ownBlock = some q → W.heap.size ≤ q := hR.2.2
      have hR8 : RowL evT w8 43 W.heap.size rv' (ps ++ [([.int .i64 e.office, .int .i64 e.low, .int .i64 e.high, .slice C5 n5 c5], e)]) := hR7.app hO8 hg8 hnew8 ⟨_, rfl, i1, i2, i3, hn7⟩ hBW7.size
      refine KW.round (k + 1, rv', ps ++ [([.int .i64 e.office, .int .i64 e.low, .int .i64 e.high, .slice C5 n5 c5], e)]) [8, 9, 23, 24, 25] rfl ⟨by show k + 1 ≤ l.length; omega, hBW7.grown hg8 hBW7.size hown, hR8, ?_⟩ (by show l.length - (k + 1) < l.length - k; omega)
      show List.map Prod.snd (ps ++ [_]) = restS (l.take (k + 1)) S
      rw [List.map_append, hmap, htk]
      simp
    · have hg1 : gone S e = true := by simpa using hout
      rw [hg1] at htk
      refine CW.skip (KW.blockN (KW.then_ (CW.region ?_)))
      refine TW.add rfl rfl rfl ct rfl ct (fun _ => by (try dsimp only); omega) ?_
      refine TW.move rfl rfl rfl ct ?_
      refine TW.nil (KW.pick [8, 9, 11, 23, 24, 25] [(8, _, _), (9, _, _), (11, _, _), (23, _, _), (24, _, _), (25, _, _)] rfl ?_)
      refine KW.round (k + 1, rv, ps) [8, 9, 23, 24, 25] rfl ⟨by show k + 1 ≤ l.length; omega, hB4, (hR.step f3.below).step hb4, ?_⟩ (by show l.length - (k + 1) < l.length - k; omega)
      show ps.map (·.2) = restS (l.take (k + 1)) S
      rw [hmap, htk]
      simp
  · refine CW.exit (KW.thenX (KW.thenX (KW.blockX (KW.then_ (CW.seq (CW.region ?_))))))
    refine TW.move rfl rfl rfl ct ?_
    refine TW.assign rfl rfl rfl ct ?_
    refine TW.nil (KW.pick [4, 8, 9, 23, 24, 25] [(4, _, _), (8, _, _), (9, _, _), (23, _, _), (24, _, _), (25, _, _)] rfl (KW.then_ ?_))
    refine CW.ret ?_
    have hke : k = l.length := by omega
    subst hke
    refine ret1 Tryz.results29 rfl (⟨hbw2.step hB, ?_⟩)
    have := hR.sl (by decide)
    rw [hmap, List.take_length] at this
    exact this
end Go.Proofs.YtmhfeehkpndadaaGreat

/- Records, sets of records: plain. -/
namespace Go.Ord
open Go.PF

def insS (n : Int) : List Int → List Int
  | [] => [n]
  | x :: l => if x < n then x :: insS n l else if x = n then x :: l else n :: x :: l
def Inc (l : List Int) : Prop := l.Pairwise (· < ·)
theorem mem_insS {n x : Int} : ∀ {l : List Int}, x ∈ insS n l ↔ x = n ∨ x ∈ l
  | [] => by simp [insS]
  | y :: l => by
    unfold insS
    split
    · rw [List.mem_cons, mem_insS, List.mem_cons]
      constructor
      · rintro (h | h | h)
        · exact .inr (.inl h)
        · exact .inl h
        · exact .inr (.inr h)
      · rintro (h | h | h)
        · exact .inr (.inl h)
        · exact .inl h
        · exact .inr (.inr h)
    · split
      · rename_i h; subst h; simp
      · simp
theorem Inc.insS {n : Int} : ∀ {l : List Int}, Inc l → Inc (insS n l)
  | [], _ => List.pairwise_singleton _ _
  | y :: l, h => by
    have h' := List.pairwise_cons.1 h
    unfold Ord.insS
    split
    · refine List.pairwise_cons.2 ⟨fun x hx => ?_, Inc.insS h'.2⟩
      rcases mem_insS.1 hx with rfl | hx
      · assumption
      · exact h'.1 x hx
    · split
      · exact h
      · refine List.pairwise_cons.2 ⟨fun x hx => ?_, h⟩
        rcases List.mem_cons.1 hx with rfl | hx
        · omega
        · have := h'.1 x hx; omega
def insAll (a : List Int) (l : List Int) : List Int := l.foldl (fun acc n => insS n acc) a
theorem mem_insAll {x : Int} : ∀ {l a : List Int}, x ∈ insAll a l ↔ x ∈ a ∨ x ∈ l
  | [], a => by simp [insAll]
  | n :: l, a => by
    have : insAll a (n :: l) = insAll (insS n a) l := rfl
    rw [this, mem_insAll, mem_insS, List.mem_cons]
    constructor
    · rintro ((h | h) | h)
      · exact .inr (.inl h)
      · exact .inl h
      · exact .inr (.inr h)
    · rintro (h | h | h)
      · exact .inl (.inr h)
      · exact .inl (.inl h)
      · exact .inr h
theorem Inc.insAll : ∀ {l a : List Int}, Inc a → Inc (insAll a l)
  | [], _, h => h
  | n :: l, a, h => Inc.insAll (l := l) (Inc.insS h)
def needsOf (l : List Ev) : List Int := l.flatMap (·.needs)
/-- the records of events -/
def recsS (l : List Ev) : List Int := insAll [] (needsOf l)
theorem mem_recsS {l : List Ev} {x : Int} : x ∈ recsS l ↔ ∃ e ∈ l, x ∈ e.needs := by
  unfold recsS needsOf
  rw [mem_insAll, List.mem_flatMap]
  simp
theorem recsS_inc (l : List Ev) : Inc (recsS l) := Inc.insAll List.Pairwise.nil
theorem Inc.nodup {l : List Int} (h : Inc l) : l.Nodup := h.imp fun h e => by omega
theorem inc_ext : ∀ {a b : List Int}, Inc a → Inc b → (∀ x, x ∈ a ↔ x ∈ b) → a = b
  | [], [], _, _, _ => rfl
  | [], y :: b, _, _, h => by have := (h y).2 (by simp); cases this
  | x :: a, [], _, _, h => by have := (h x).1 (by simp); cases this
  | x :: a, y :: b, ha, hb, h => by
    have ha' := List.pairwise_cons.1 ha
    have hb' := List.pairwise_cons.1 hb
    have hxy : x = y := by
      rcases List.mem_cons.1 ((h x).1 (by simp)) with e | hx
      · exact e
      · rcases List.mem_cons.1 ((h y).2 (by simp)) with e | hy
        · exact e.symm
        · have := ha'.1 y hy
          have := hb'.1 x hx
          omega
    subst hxy
    rw [inc_ext ha'.2 hb'.2 (fun z => ?_)]
    constructor
    · intro hz
      rcases List.mem_cons.1 ((h z).1 (by simp [hz])) with e | hz'
      · subst e; have := ha'.1 z hz; omega
      · exact hz'
    · intro hz
      rcases List.mem_cons.1 ((h z).2 (by simp [hz])) with e | hz'
      · subst e; have := hb'.1 z hz; omega
      · exact hz'
theorem nodup_len {α : Type} [DecidableEq α] : ∀ {l k : List α}, l.Nodup → (∀ x ∈ l, x ∈ k) → l.length ≤ k.length
  | [], _, _, _ => Nat.zero_le _
  | x :: l, k, hn, hs => by
    have hn' := List.nodup_cons.1 hn
    have hx := hs x (by simp)
    have := nodup_len (l := l) (k := k.erase x) hn'.2 (fun y hy => (List.mem_erase_of_ne (fun e => hn'.1 (by rw [← e]; exact hy))).2 (hs y (by simp [hy])))
    rw [List.length_erase_of_mem hx] at this
    have := List.length_pos_of_mem hx
    simp only [List.length_cons]
    omega
/-- sorted, without repetitions -/
theorem inc_sorted {xs : List Int} (hn : xs.Nodup) : Inc (xs.mergeSort fun x y => decide (x ≤ y)) := by
  have h1 : (xs.mergeSort fun x y => decide (x ≤ y)).Pairwise (fun x y => decide (x ≤ y) = true) := List.pairwise_mergeSort (fun a b c h1 h2 => by simp at *; omega) (fun a b => by simp; omega) xs
  have h2 : (xs.mergeSort fun x y => decide (x ≤ y)).Nodup := (List.mergeSort_perm xs _).nodup_iff.2 hn
  refine List.Pairwise.imp₂ (fun a b h3 h4 => ?_) h1 h2
  have : a ≤ b := by simpa using h3
  omega

/-- all sets of k numbers of a list, in order -/
def setsS : List Int → Nat → List (List Int)
  | _, 0 => [[]]
  | [], _ + 1 => []
  | x :: l, k + 1 => (setsS l k).map (x :: ·) ++ setsS l (k + 1)
theorem mem_setsS : ∀ {l : List Int} {k : Nat} {s : List Int}, s ∈ setsS l k ↔ s.Sublist l ∧ s.length = k
  | l, 0, s => by
    have : setsS l 0 = [[]] := by cases l <;> rfl
    rw [this, List.mem_singleton]
    constructor
    · rintro rfl; exact ⟨List.nil_sublist _, rfl⟩
    · intro h; exact List.eq_nil_of_length_eq_zero h.2
  | [], k + 1, s => by
    simp [setsS]
    rintro rfl
    simp
  | x :: l, k + 1, s => by
    simp only [setsS, List.mem_append, List.mem_map]
    constructor
    · rintro (⟨t, ht, rfl⟩ | hs)
      · obtain ⟨h1, h2⟩ := mem_setsS.1 ht
        exact ⟨h1.cons_cons x, by simp [h2]⟩
      · obtain ⟨h1, h2⟩ := mem_setsS.1 hs
        exact ⟨h1.cons x, h2⟩
    · rintro ⟨h1, h2⟩
      cases h1 with
      | cons _ h => exact .inr (mem_setsS.2 ⟨h, h2⟩)
      | cons_cons _ h => exact .inl ⟨_, mem_setsS.2 ⟨h, by simpa using h2⟩, rfl⟩
theorem setsS_short : ∀ (l : List Int) (k : Nat), l.length < k → setsS l k = []
  | l, 0, h => by omega
  | [], k + 1, _ => rfl
  | x :: l, k + 1, h => by
    simp only [setsS]
    rw [setsS_short l k (by simp at h; omega), setsS_short l (k + 1) (by simp at h; omega)]
    rfl
theorem setsS_len : ∀ (l : List Int) (k : Nat), (setsS l k).length ≤ (l.length + 1) ^ k
  | l, 0 => by cases l <;> simp [setsS]
  | [], k + 1 => by simp [setsS]
  | x :: l, k + 1 => by
    have h1 := setsS_len l k
    have h2 := setsS_len l (k + 1)
    have h3 : (l.length + 1) ^ k ≤ (l.length + 2) ^ k := Nat.pow_le_pow_left (by omega) k
    simp only [setsS, List.length_append, List.length_map, List.length_cons]
    rw [Nat.pow_succ] at h2 ⊢
    have h4 : (l.length + 1) ^ k * (l.length + 1) ≤ (l.length + 2) ^ k * (l.length + 1) := Nat.mul_le_mul_right _ h3
    have h5 : (l.length + 1 + 1) ^ k * (l.length + 1 + 1) = (l.length + 2) ^ k * (l.length + 1) + (l.length + 2) ^ k := by rw [show l.length + 1 + 1 = l.length + 2 from rfl, show l.length + 2 = (l.length + 1) + 1 from rfl, Nat.mul_add, Nat.mul_one]
    omega
/-- by the first number -/
def setsAt (l : List Int) (k i : Nat) : List (List Int) := match l[i]? with
  | some x => (setsS (l.drop (i + 1)) k).map (x :: ·)
  | none => []
def setsTo (l : List Int) (k n : Nat) : List (List Int) := (List.range n).flatMap (setsAt l k)
theorem setsTo_succ (l : List Int) (k n : Nat) : setsTo l k (n + 1) = setsTo l k n ++ setsAt l k n := by
  simp [setsTo, List.range_succ, List.flatMap_append]
theorem setsTo_cons (x : Int) (l : List Int) (k : Nat) : ∀ n, setsTo (x :: l) k (n + 1) = (setsS l k).map (x :: ·) ++ setsTo l k n
  | 0 => by simp [setsTo, setsAt]
  | n + 1 => by
    rw [setsTo_succ, setsTo_cons x l k n, setsTo_succ l k n, List.append_assoc]
    rfl
theorem setsS_eq : ∀ (l : List Int) (k : Nat), setsS l (k + 1) = setsTo l k l.length
  | [], k => rfl
  | x :: l, k => by
    show (setsS l k).map (x :: ·) ++ setsS l (k + 1) = setsTo (x :: l) k (l.length + 1)
    rw [setsTo_cons, setsS_eq l k]
theorem setsTo_enough {l : List Int} {k : Nat} : ∀ (n m : Nat), l.length ≤ n + k → setsTo l k (n + m) = setsTo l k n
  | n, 0, _ => rfl
  | n, m + 1, h => by
    rw [← Nat.add_assoc, setsTo_succ, setsTo_enough n m h]
    have : setsAt l k (n + m) = [] := by
      unfold setsAt
      split
      · rw [setsS_short _ _ (by rw [List.length_drop]; rename_i hx; have := (List.getElem?_eq_some_iff.1 hx).1; omega)]
        rfl
      · rfl
    rw [this, List.append_nil]
end Go.Ord

namespace Go.Proofs.YtmhfeehkpndadaaGreat
open Go.PF Go.RowKit Go.Ord

/-- a function value that answers p of an event -/
def PredE (w : World) (k : FuncId) (caps : List Value) (p : Ev → Bool) : Prop := ∀ (e : Ev) (nv : Value) (F : Nat → Prop) (w' : World), Below w.heap.size w w' → SL intT F w' nv e.needs →
  Gives Tryz.prog k (.agg #[.int .i64 e.office, .int .i64 e.low, .int .i64 e.high, nv] :: caps).toArray w' fun u w'' => Below w'.heap.size w' w'' ∧ u = .bool (p e)

theorem indexE_c {w : World} {v : Value} {l : List Ev} {k : FuncId} {caps : List Value} {p : Ev → Bool} (hl : SE w v l) (hk : enters Tryz.prog k = true) (hp : PredE w k caps p) :
    Gives Tryz.prog 93 #[v, .func (.func k) #[] caps.toArray] w fun x w' => Below w.heap.size w w' ∧ ((x = .int .i64 (-1) ∧ l.any p = false) ∨ ∃ i : Nat, x = .int .i64 (i : Int) ∧ l.any p = true) := by
  obtain ⟨A, cap, rfl, _⟩ := hl.form
  have hmax : l.length ≤ 9223372036854775807 := hl.len.2.2
  refine gives_of (vs := [.slice A l.length cap, .func (.func k) #[] caps.toArray]) [(0, none, _), (1, none, _)] Tryz.func93 rfl Tryz.ntmps93 rfl rfl ?_
  refine CW.seq (CW.region ?_)
  refine TW.assign rfl rfl rfl ct ?_
  refine TW.nil (KW.pick [0, 1, 4] [(0, _, _), (1, _, _), (4, _, _)] rfl (KW.then_ ?_))
  refine CW.seq (CW.seq (CW.region ?_))
  refine TW.move rfl rfl rfl ct ?_
  refine TW.lenSlice rfl rfl Tryz.underlying23 rfl ct ?_
  refine TW.move rfl rfl rfl ct ?_
  refine TW.nil (KW.pick [0, 1, 4, 7, 8] [(0, _, _), (1, _, _), (4, _, _), (7, _, _), (8, _, _)] rfl (KW.then_ ?_))
  refine CW.block ?_
  refine CW.loopS (fun i : Nat => [(0, none, .slice A l.length cap), (1, none, .func (.func k) #[] caps.toArray), (7, none, .int .i64 (l.length : Int)), (8, none, .int .i64 (i : Int))])
    (fun i W => i ≤ l.length ∧ Below w.heap.size w W ∧ (l.take i).any p = false) (fun i => l.length - i) 0 [0, 1, 7, 8] ⟨Nat.zero_le _, Below.refl _ _, rfl⟩ rfl ?_
  rintro i W ⟨hi, hB, hno⟩
  refine CW.seq (CW.region ?_)
  refine TW.lss rfl rfl rfl ct rfl ct ?_
  refine TW.nil (KW.pick [0, 1, 7, 8, 9] [(0, _, _), (1, _, _), (7, _, _), (8, _, _), (9, _, _)] rfl (KW.then_ ?_))
  refine CW.seq ?_
  refine CW.condP rfl (fun hlt => ?_) (fun hge => ?_)
  · have hil : i < l.length := by omega
    have hlW := se_step hl hB
    obtain ⟨ad, rfl⟩ := hlW.addr (by omega)
    obtain ⟨e, he⟩ : ∃ e, l[i]? = some e := ⟨l[i], List.getElem?_eq_getElem hil⟩
    obtain ⟨nv, hcells, i1, i2, i3, hneeds⟩ := SE.get hlW he
    refine CW.skip (KW.then_ (CW.seq (CW.block (CW.seq (CW.region ?_)))))
    refine TW.move rfl rfl rfl ct ?_
    refine TW.assign rfl rfl rfl ct ?_
    refine TW.nil (KW.pick [0, 1, 5, 7, 8] [(0, _, _), (1, _, _), (5, _, _), (7, _, _), (8, _, _)] rfl (KW.then_ ?_))
    refine CW.seq (CW.region ?_)
    refine TW.move rfl rfl rfl ct ?_
    refine TW.move rfl rfl rfl ct ?_
    refine TW.move rfl rfl rfl ct ?_
    refine TW.indexAddr rfl rfl Tryz.underlying23 sz43 rfl ct rfl ct (fun _ => by (try dsimp only); omega) ?_
    refine TW.loadS _ rfl rfl Tryz.underlying43 sz43 rfl ct (fun _ => hcells) rfl ?_
    refine TW.call0 rfl rfl hk rfl (Args.cons rfl ct Args.nil) (hp e nv _ _ hB hneeds) ?_
    rintro y1 w1 ⟨hb1, rfl⟩
    refine TW.nil (KW.pick [0, 1, 5, 7, 8, 16] [(0, _, _), (1, _, _), (5, _, _), (7, _, _), (8, _, _), (16, _, _)] rfl (KW.then_ ?_))
    refine CW.cond rfl (fun hyes => ?_) (fun hnot => ?_)
    · refine CW.seq (CW.region ?_)
      refine TW.move rfl rfl rfl ct ?_
      refine TW.assign rfl rfl rfl ct ?_
      refine TW.nil (KW.pick [0, 1, 4, 5, 7, 8] [(0, _, _), (1, _, _), (4, _, _), (5, _, _), (7, _, _), (8, _, _)] rfl (KW.then_ ?_))
      refine CW.ret (KW.blockR (KW.thenR (KW.thenR (KW.blockR (KW.thenR ?_)))))
      refine ret1 Tryz.results93 rfl (⟨hB.step hb1, .inr ⟨i, rfl, ?_⟩⟩)
      rw [List.any_eq_true]
      exact ⟨e, List.mem_of_getElem? he, hyes⟩
    · refine CW.skip (KW.blockN (KW.then_ (CW.region ?_)))
      refine TW.add rfl rfl rfl ct rfl ct (fun _ => by (try dsimp only); omega) ?_
      refine TW.move rfl rfl rfl ct ?_
      refine TW.nil (KW.pick [0, 1, 5, 7, 8] [(0, _, _), (1, _, _), (5, _, _), (7, _, _), (8, _, _)] rfl ?_)
      refine KW.round (i + 1) [0, 1, 7, 8] rfl ⟨by omega, hB.step hb1, ?_⟩ (by omega)
      rw [List.take_add_one, List.any_append, hno, he]
      simp [hnot]
  · refine CW.exit (KW.thenX (KW.thenX (KW.blockX (KW.then_ (CW.seq (CW.region ?_))))))
    refine TW.assign rfl rfl rfl ct ?_
    refine TW.nil (KW.pick [0, 1, 4, 7, 8] [(0, _, _), (1, _, _), (4, _, _), (7, _, _), (8, _, _)] rfl (KW.then_ ?_))
    refine CW.ret ?_
    refine ret1 Tryz.results93 rfl (⟨hB, .inl ⟨rfl, ?_⟩⟩)
    rw [show i = l.length by omega, List.take_length] at hno
    exact hno

theorem containsE_c {w : World} {v : Value} {l : List Ev} {k : FuncId} {caps : List Value} {p : Ev → Bool} (hl : SE w v l) (hk : enters Tryz.prog k = true) (hp : PredE w k caps p) :
    Gives Tryz.prog 70 #[v, .func (.func k) #[] caps.toArray] w fun x w' => Below w.heap.size w w' ∧ x = .bool (l.any p) := by
  refine gives_of (vs := [v, .func (.func k) #[] caps.toArray]) [(0, none, _), (1, none, _)] Tryz.func70 rfl Tryz.ntmps70 rfl rfl ?_
  refine CW.seq (CW.region ?_)
  refine TW.assign rfl rfl rfl ct ?_
  refine TW.nil (KW.pick [0, 1, 4] [(0, _, _), (1, _, _), (4, _, _)] rfl (KW.then_ ?_))
  refine CW.seq (CW.region ?_)
  refine TW.move rfl rfl rfl ct ?_
  refine TW.move rfl rfl rfl ct ?_
  refine TW.call0 (cap := []) rfl rfl en93 rfl (Args.cons rfl ct (Args.cons rfl ct Args.nil)) (indexE_c hl hk hp) ?_
  rintro y1 w1 ⟨hb1, h1⟩
  rcases h1 with ⟨rfl, h1⟩ | ⟨i, rfl, h1⟩
  · skip
    refine TW.geq rfl rfl rfl ct rfl ct ?_
    refine TW.assign rfl rfl rfl ct ?_
    refine TW.nil (KW.pick [0, 1, 4] [(0, _, _), (1, _, _), (4, _, _)] rfl (KW.then_ ?_))
    refine CW.ret ?_
    refine ret1 Tryz.results70 rfl (⟨hb1, by rw [h1]; rfl⟩)
  · skip
    refine TW.geq rfl rfl rfl ct rfl ct ?_
    refine TW.assign rfl rfl rfl ct ?_
    refine TW.nil (KW.pick [0, 1, 4] [(0, _, _), (1, _, _), (4, _, _)] rfl (KW.then_ ?_))
    refine CW.ret ?_
    refine ret1 Tryz.results70 rfl (⟨hb1, by rw [h1]; simp⟩)

/-! ### wellFormed -/
structure WfP (d : Dist) (l : List Ev) : Prop where
  wd : WfD d
  few : l.length ≤ 14
  each : ∀ e ∈ l, EOK d e
  pos : ∀ e ∈ l, ∀ r ∈ e.needs, 0 ≤ r
theorem WfP.wfe {d : Dist} {l : List Ev} (h : WfP d l) : WfE d l := ⟨h.wd, by have := h.few; omega, h.each⟩
theorem poss_nil (d : Dist) : Poss d [] := ⟨[], rfl, by simp, List.Pairwise.nil⟩

theorem wf11_c {w : World} : PredI Tryz.prog w 72 [] fun x => decide (x < 0) := by
  intro x w1 hb1
  refine gives_of (vs := [.int .i64 x]) [(0, none, _)] Tryz.func72 rfl Tryz.ntmps72 rfl rfl ?_
  refine CW.seq (CW.region ?_)
  refine TW.assign rfl rfl rfl ct ?_
  refine TW.nil (KW.pick [0, 2] [(0, _, _), (2, _, _)] rfl (KW.then_ ?_))
  refine CW.seq (CW.region ?_)
  refine TW.move rfl rfl rfl ct ?_
  refine TW.lss rfl rfl rfl ct rfl ct ?_
  refine TW.assign rfl rfl rfl ct ?_
  refine TW.nil (KW.pick [0, 2] [(0, _, _), (2, _, _)] rfl (KW.then_ ?_))
  refine CW.ret ?_
  refine ret1 Tryz.results72 rfl (⟨Below.refl _ _, rfl⟩)

def badE (d : Dist) (e : Ev) : Bool := (e.needs.any fun x => decide (x < 0)) || decide (e.office < 0) || decide (e.office ≥ (d.length : Int))
theorem wf1_c {w : World} {g : Nat} {A : Option Addr} {cap : Nat} {d : Dist} (hg : Blk w g 22 [.slice A d.length cap]) : PredE w 71 [.pointer (some ⟨g, 0, none⟩)] (badE d) := by
  intro e nv F w1 hb1 hn
  obtain ⟨C, ccap, rfl, _⟩ := hn.form
  have hg1 := hg.next hb1
  refine gives_of (vs := [.agg #[.int .i64 e.office, .int .i64 e.low, .int .i64 e.high, .slice C e.needs.length ccap], .pointer (some ⟨g, 0, none⟩)]) [(0, none, _), (1, none, _)] Tryz.func71 rfl Tryz.ntmps71 rfl rfl ?_
  refine CW.seq (CW.region ?_)
  refine TW.box rfl rfl rfl rfl ?_
  rintro g2 w2 f2
  refine TW.assign rfl rfl rfl ct ?_
  refine TW.nil (KW.pick [0, 1, 2, 3] [(0, _, _), (1, _, _), (2, _, _), (3, _, _)] rfl (KW.then_ ?_))
  refine CW.seq (CW.region ?_)
  refine TW.fieldAddr rfl rfl fo43_3 rfl ct ?_
  refine TW.load rfl rfl one24 rfl ct (fun _ => f2.blk.fld rfl) ?_
  refine TW.call0 (cap := []) rfl rfl en54 rfl (Args.cons rfl ct (Args.cons rfl ct Args.nil)) (containsI_c (hn.below f2.below) en72 wf11_c) ?_
  rintro y3 w3 ⟨hb3, rfl⟩
  have hB3 := f2.blk.next hb3
  have hg3 := (hg1.next f2.below).next hb3
  refine TW.assign rfl rfl rfl ct ?_
  refine TW.nil (KW.pick [0, 1, 2, 3, 4] [(0, _, _), (1, _, _), (2, _, _), (3, _, _), (4, _, _)] rfl (KW.then_ ?_))
  refine CW.seq (CW.region ?_)
  refine TW.move rfl rfl rfl ct ?_
  refine TW.move rfl rfl rfl ct ?_
  refine TW.fieldAddr rfl rfl fo43_0 rfl ct ?_
  refine TW.load rfl rfl one3 rfl id (fun _ => hB3.fld rfl) ?_
  refine TW.lss rfl rfl rfl id rfl ct ?_
  refine TW.pickOr rfl rfl rfl ct rfl pOr0 ?_
  refine TW.move rfl rfl rfl ct ?_
  refine TW.fieldAddr rfl rfl fo43_0 rfl ct ?_
  refine TW.load rfl rfl one3 rfl id (fun _ => hB3.fld rfl) ?_
  refine TW.load rfl rfl one22 rfl ct (fun _ => hg3.cell 0) ?_
  refine TW.lenSlice rfl rfl Tryz.underlying22 rfl id ?_
  refine TW.geq rfl rfl rfl id rfl id ?_
  refine TW.pickOr rfl rfl rfl ct rfl pOr0 ?_
  refine TW.assign rfl rfl rfl ct ?_
  refine TW.nil (KW.pick [0, 1, 2, 3, 4] [(0, _, _), (1, _, _), (2, _, _), (3, _, _), (4, _, _)] rfl (KW.then_ ?_))
  refine CW.ret ?_
  refine ret1 Tryz.results71 rfl (⟨f2.below.step hb3, rfl⟩)

theorem pwell_c {w : World} {v u : Value} {d : Dist} {l : List Ev} (hd : SD w v d) (hl : SE w u l) : Gives Tryz.prog 43 #[v, u] w fun x w' => Below w.heap.size w w' ∧ x = .bool (dec (WfP d l)) := by
  obtain ⟨A, cap, rfl, hcap⟩ := hd.form
  obtain ⟨B, lcap, rfl, hlcap⟩ := hl.form
  have hlmax : l.length ≤ 9223372036854775807 := hl.len.2.2
  refine gives_of (vs := [.slice A d.length cap, .slice B l.length lcap]) [(0, none, _), (1, none, _)] Tryz.func43 rfl Tryz.ntmps43 rfl rfl ?_
  refine CW.seq (CW.region ?_)
  refine TW.box rfl rfl rfl rfl ?_
  rintro g w1 f1
  refine TW.assign rfl rfl rfl ct ?_
  refine TW.nil (KW.pick [0, 1, 2, 4] [(0, _, _), (1, _, _), (2, _, _), (4, _, _)] rfl (KW.then_ ?_))
  refine CW.seq (CW.seq (CW.region ?_))
  refine TW.load rfl rfl one22 rfl ct (fun _ => f1.blk.cell 0) ?_
  refine TW.call0 (cap := []) rfl rfl en25 rfl (Args.cons rfl ct (Args.cons rfl ct (Args.cons rfl ct Args.nil))) (fit_c (sd_step hd f1.below) (SL.nil evT (fun k => k < w1.heap.size) w1)) ?_
  rintro y2 w2 ⟨hb2, tv, rfl⟩
  have hB2 := f1.below.step hb2
  have hfd : dec (Fitted d []) = dec (WfD d) := dec_congr ⟨fun h => h.1.wd, fun h => ⟨⟨h, by simp, by simp⟩, poss_nil d⟩⟩
  rw [hfd]
  refine TW.move rfl rfl rfl ct ?_
  refine TW.extract rfl rfl rfl rfl ct ?_
  refine TW.extract rfl rfl rfl rfl ct ?_
  refine TW.assign rfl rfl rfl ct ?_
  refine TW.assign rfl rfl rfl ct ?_
  refine TW.nil (KW.pick [0, 1, 2, 4, 6] [(0, _, _), (1, _, _), (2, _, _), (4, _, _), (6, _, _)] rfl (KW.then_ ?_))
  refine CW.seq (CW.region ?_)
  refine TW.move rfl rfl rfl ct ?_
  refine TW.not rfl rfl rfl ct ?_
  refine TW.move rfl rfl rfl ct ?_
  refine TW.move rfl rfl rfl ct ?_
  refine TW.lenSlice rfl rfl Tryz.underlying23 rfl id ?_
  refine TW.gtr rfl rfl rfl id rfl ct ?_
  refine TW.pickOr rfl rfl rfl ct rfl pOr0 ?_
  refine TW.nil (KW.pick [0, 1, 2, 4, 6, 18] [(0, _, _), (1, _, _), (2, _, _), (4, _, _), (6, _, _), (18, _, _)] rfl (KW.then_ ?_))
  refine CW.cond rfl (fun hbad => ?_) (fun hgood => ?_)
  · refine CW.seq (CW.region ?_)
    refine TW.assign rfl rfl rfl ct ?_
    refine TW.nil (KW.pick [0, 1, 2, 4, 6] [(0, _, _), (1, _, _), (2, _, _), (4, _, _), (6, _, _)] rfl (KW.then_ ?_))
    refine CW.ret (KW.thenR ?_)
    refine ret1 Tryz.results43 rfl (⟨hB2, ?_⟩)
    rw [dec_neg]
    intro h
    rw [dec_pos h.wd] at hbad
    simp at hbad
    have := h.few
    omega
  have hwd : WfD d := dec_iff.1 (by cases hq : dec (WfD d) <;> simp_all)
  have hfew : l.length ≤ 14 := by
    simp [dec_pos hwd] at hgood
    omega
  refine CW.skip (KW.then_ (CW.seq (CW.region ?_)))
  refine TW.move rfl rfl rfl ct ?_
  refine TW.makeFunc rfl rfl (Args.cons rfl ct Args.nil) ?_
  refine TW.call0 (cap := []) rfl rfl en70 rfl (Args.cons rfl ct (Args.cons rfl ct Args.nil)) (containsE_c (se_step hl hB2) en71 (wf1_c (f1.blk.next hb2))) ?_
  rintro y3 w3 ⟨hb3, rfl⟩
  refine TW.not rfl rfl rfl ct ?_
  refine TW.assign rfl rfl rfl ct ?_
  refine TW.nil (KW.pick [0, 1, 2, 4, 6] [(0, _, _), (1, _, _), (2, _, _), (4, _, _), (6, _, _)] rfl (KW.then_ ?_))
  refine CW.ret ?_
  refine ret1 Tryz.results43 rfl (⟨hB2.step hb3, ?_⟩)
  cases ha : l.any (badE d) with
  | true =>
    rw [dec_neg]
    · rfl
    · intro h
      rw [List.any_eq_true] at ha
      obtain ⟨e, he, hb⟩ := ha
      have h1 := h.each e he
      have := h1.o1
      have := h1.o2
      unfold badE at hb
      simp at hb
      rcases hb with (⟨x, hx, hx0⟩ | hb) | hb
      · have := h.pos e he x hx; omega
      · omega
      · omega
  | false =>
    rw [dec_pos]
    · rfl
    · rw [List.any_eq_false] at ha
      refine ⟨hwd, hfew, fun e he => ?_, fun e he r hr => ?_⟩
      · have := ha e he
        unfold badE at this
        simp at this
        exact ⟨this.1.2, this.2⟩
      · have := ha e he
        unfold badE at this
        simp at this
        exact this.1.1 r hr
end Go.Proofs.YtmhfeehkpndadaaGreat

/- A walk over a map: its keys, each once, in whatever order; iterators whose values lie in memory. -/
namespace Go.PF
open Go.RowKit Go.ChangeMaps
variable {P : Program} {κ : Type} {kt : TypeId}

/-- a walk over the map m in block bm, its state in block r; pre: the keys that came out; 'last': the last entry -/
def WalkM (K : GKey P kt κ) (w : World) (r bm : Nat) (m : List (κ × Value)) (pre : List κ) (last : Option (κ × Value)) : Prop :=
  ∃ es clock since seen c0, w.heap[bm]? = some (.map es clock) ∧ es.toList.map (fun e => (e.key, e.val)) = m.map (fun p => (K.enc p.1, p.2)) ∧ (es.toList.map (·.born)).Nodup ∧ w.heap[r]? = some (.mapIter (some bm) since seen c0) ∧
    (∀ e ∈ es.toList, e.born < since) ∧ since ≤ c0 ∧ (∀ e ∈ es.toList, ∀ k, e.key = K.enc k → (seen.contains e.born = true ↔ k ∈ pre)) ∧
    since ≤ clock ∧ m.Pairwise (fun p q => p.1 ≠ q.1) ∧ ∀ k v, last = some (k, v) → c0 = clock ∧ ∃ (e : MapEntry) (seen0 : Array Nat), e ∈ es.toList ∧ e.key = K.enc k ∧ e.val = v ∧ seen = seen0.push e.born
theorem WalkM.kept {K : GKey P kt κ} {w w' : World} {r bm : Nat} {m : List (κ × Value)} {pre : List κ} {last : Option (κ × Value)} (h : WalkM K w r bm m pre last) (hr : w'.heap[r]? = w.heap[r]?) (hb : w'.heap[bm]? = w.heap[bm]?) : WalkM K w' r bm m pre last := by
  obtain ⟨es, clock, since, seen, c0, h1, h2, h3, h4, h5⟩ := h
  exact ⟨es, clock, since, seen, c0, hb.trans h1, h2, h3, hr.trans h4, h5⟩
theorem WalkM.iter {K : GKey P kt κ} {w : World} {r bm : Nat} {m : List (κ × Value)} {pre : List κ} {last : Option (κ × Value)} (h : WalkM K w r bm m pre last) : ∃ o, w.heap[r]? = some o ∧ ctl o = true := by
  obtain ⟨es, clock, since, seen, c0, h1, h2, h3, h4, h5⟩ := h
  exact ⟨_, h4, rfl⟩
theorem WalkM.ne {K : GKey P kt κ} {w : World} {r bm : Nat} {m : List (κ × Value)} {pre : List κ} {last : Option (κ × Value)} (h : WalkM K w r bm m pre last) : r ≠ bm := by
  obtain ⟨es, clock, since, seen, c0, h1, h2, h3, h4, h5⟩ := h
  intro e
  rw [e, h1] at h4
  cases h4

theorem mem_of_cells {K : GKey P kt κ} {es : List MapEntry} {m : List (κ × Value)} (h : es.map (fun e => (e.key, e.val)) = m.map (fun p => (K.enc p.1, p.2))) {e : MapEntry} (he : e ∈ es) : ∃ k v, (k, v) ∈ m ∧ e.key = K.enc k ∧ e.val = v := by
  have : (e.key, e.val) ∈ m.map (fun p => (K.enc p.1, p.2)) := by rw [← h]; exact List.mem_map.2 ⟨e, he, rfl⟩
  rw [List.mem_map] at this
  obtain ⟨p, hp, hpe⟩ := this
  simp only [Prod.mk.injEq] at hpe
  exact ⟨p.1, p.2, hp, hpe.1.symm, hpe.2.symm⟩
theorem cells_of_mem {K : GKey P kt κ} {es : List MapEntry} {m : List (κ × Value)} (h : es.map (fun e => (e.key, e.val)) = m.map (fun p => (K.enc p.1, p.2))) {k : κ} {v : Value} (hp : (k, v) ∈ m) : ∃ e ∈ es, e.key = K.enc k ∧ e.val = v := by
  have : (K.enc k, v) ∈ es.map (fun e => (e.key, e.val)) := by rw [h]; exact List.mem_map.2 ⟨(k, v), hp, rfl⟩
  rw [List.mem_map] at this
  obtain ⟨e, he, hee⟩ := this
  simp only [Prod.mk.injEq] at hee
  exact ⟨e, he, hee.1, hee.2⟩

section
variable {r : Option Nat} {Q : Exit → Act → World → Prop} {N : Nat} {ds : List Deferred} {ops rest : List Oper} {E : Env} {w : World}
variable {d : Option Tmp} {ty : TypeId} {pos : String} {af : Array Edge} {gu : Option (Nat × Bool)} {x : Operand}

theorem TW.rangeM (K : GKey P kt κ) {t et : TypeId} {bm : Nat} {m : List (κ × Value)} (hg : gu = none) (hd : okDst N d = true) (ht : P.underlying t = some (.map kt et)) (hx : ev E x = some (none, .map (some bm))) (hm : MapL K w bm m)
    (next : ∀ it w', it = w.heap.size → w'.heap.size = it + 1 → Below w.heap.size w w' → WalkM K w' it bm m [] none → TW P r Q N ds ops rest (ins E d none (.pointer (some ⟨it, 0, none⟩))) w') : TW P r Q N ds ops (⟨d, .range t x, ty, pos, af, gu⟩ :: rest) E w := by
  obtain ⟨⟨es, cl, hh, he, hbn, hbc⟩, hon⟩ := hm
  have hobj : (getObj bm).run P w = .ok (.map es cl) w := by simp [getObj, Sem.run, hh]
  refine TW.eff (v := .pointer (some ⟨w.heap.size, 0, none⟩)) (w' := w.alloc (.mapIter (some bm) cl #[] cl)) hg hd rfl (fun a ha => ?_) (next _ _ rfl (by simp) ((Below.refl _ _).alloc (Nat.le_refl _) _) ?_)
  · simp only [execOp]
    rw [ha.eval hx trivial]
    simp [Instr.range, run_underlying ht, hobj, newObj, Sem.run]
  · have hlt := (Array.getElem?_eq_some_iff.1 hh).1
    refine ⟨es, cl, cl, #[], cl, ?_, he, hbn, heap_alloc_new w _, hbc, Nat.le_refl _, (fun e _ k _ => by simp), Nat.le_refl _, hon, fun k v h => by cases h⟩
    have := (below_alloc w (.mapIter (some bm) cl #[] cl)).block bm hlt
    exact this.trans hh

theorem TW.nextM (K : GKey P kt κ) {it bm : Nat} {m : List (κ × Value)} {pre : List κ} {last : Option (κ × Value)} (hg : gu = none) (hd : okDst N d = true) (hx : ev E x = some (none, .pointer (some ⟨it, 0, none⟩))) (hw : WalkM K w it bm m pre last)
    (n1 : (∀ p ∈ m, p.1 ∈ pre) → TW P r Q N ds ops rest (ins E d none (.tuple #[.bool false])) w)
    (n2 : ∀ k v w', (k, v) ∈ m → k ∉ pre → w'.heap.size = w.heap.size → But it w w' → ExtF it w w' → WalkM K w' it bm m (pre ++ [k]) (some (k, v)) → TW P r Q N ds ops rest (ins E d none (.tuple #[.bool true, K.enc k, v])) w') : TW P r Q N ds ops (⟨d, .next x false, ty, pos, af, gu⟩ :: rest) E w := by
  have hne := hw.ne
  obtain ⟨es, clock, since, seen, c0, h1, h2, h3, h4, h5, h6, h7, hsc, hon, h8⟩ := hw
  rcases run_next_at (P := P) w ty it bm since c0 seen es clock h4 h1 h5 h6 with ⟨h0, hrun⟩ | ⟨e, he, w1, hw1, hrun⟩
  · refine TW.eff (v := .tuple #[.bool false]) (w' := w) hg hd rfl (fun a ha => ?_) (n1 fun p hp => ?_)
    · simp only [execOp]
      rw [ha.eval hx trivial]
      simp [hrun]
    · obtain ⟨e, he, hk, _⟩ := cells_of_mem h2 (k := p.1) (v := p.2) hp
      refine (h7 e he p.1 hk).1 ?_
      cases hs : seen.contains e.born with
      | true => rfl
      | false =>
        exfalso
        have hm : e ∈ (leftOf es seen).toList := by unfold leftOf; simp only [Array.toList_filter, List.mem_filter]; exact ⟨he, by rw [hs]; rfl⟩
        have : (leftOf es seen).toList = [] := by rw [Array.toList_eq_nil_iff]; exact Array.eq_empty_of_size_eq_zero h0
        rw [this] at hm; cases hm
  · have hee : e ∈ es.toList ∧ seen.contains e.born = false := by
      unfold leftOf at he
      simp only [Array.toList_filter, List.mem_filter] at he
      exact ⟨he.1, by simpa using he.2⟩
    obtain ⟨k, v, hkv, hk, hv⟩ := mem_of_cells h2 hee.1
    have hnp : k ∉ pre := fun h => by
      have := (h7 e hee.1 k hk).2 h
      rw [hee.2] at this; cases this
    have hit : it < w.heap.size := (Array.getElem?_eq_some_iff.1 h4).1
    have hheap : w1.heap = w.heap := by rcases hw1 with rfl | rfl <;> rfl
    have hos : w1.os = w.os ∧ w1.tape = w.tape ∧ w1.output = w.output := by rcases hw1 with rfl | rfl <;> exact ⟨rfl, rfl, rfl⟩
    have hext : ExtF it w (setBlock w1 it (.mapIter (some bm) since (seen.push e.born) clock)) := by
      refine ⟨hos.1, hos.2.1, hos.2.2, by simp [setBlock, hheap], fun q o ho hc => ?_⟩
      by_cases hq : it = q
      · subst hq
        rw [h4] at ho
        cases ho
        rcases hc with h | h
        · omega
        · cases h
      · simp [setBlock, hheap, Array.getElem?_setIfInBounds_ne hq]; exact ho
    refine TW.eff (v := .tuple #[.bool true, K.enc k, v]) (w' := setBlock w1 it (.mapIter (some bm) since (seen.push e.born) clock)) hg hd rfl (fun a ha => ?_) (n2 k v _ hkv hnp (by simp [setBlock, hheap]) ⟨hos.1, hos.2.1, hos.2.2, by simp [setBlock, hheap], fun q hq hn => ?_⟩ hext ?_)
    · simp only [execOp]
      rw [ha.eval hx trivial]
      simp [hrun, hk, hv]
    · have : it ≠ q := fun e => hn (by rw [e])
      simp [setBlock, hheap, Array.getElem?_setIfInBounds_ne this]
    · refine ⟨es, clock, since, seen.push e.born, clock, ?_, h2, h3, by simp [setBlock, hheap, hit], h5, hsc, fun e' he' k' hk' => ?_, hsc, hon, fun k' v' hkv' => ?_⟩
      · simp [setBlock, hheap, Array.getElem?_setIfInBounds_ne hne]; exact h1
      · rw [List.mem_append, List.mem_singleton, ← h7 e' he' k' hk']
        simp only [Array.contains_iff_mem, Array.mem_push]
        constructor
        · rintro (h | h)
          · exact .inl h
          · right
            have hinj : e' = e := by
              obtain ⟨i, hi, hie⟩ := List.getElem_of_mem he'
              obtain ⟨j, hj, hje⟩ := List.getElem_of_mem hee.1
              have : i = j := by
                have hn := List.pairwise_iff_getElem.1 h3
                rcases Nat.lt_trichotomy i j with q | q | q
                · have := hn i j (by simpa using hi) (by simpa using hj) q
                  simp only [List.getElem_map, hie, hje] at this
                  exact absurd h this
                · exact q
                · have := hn j i (by simpa using hj) (by simpa using hi) q
                  simp only [List.getElem_map, hie, hje] at this
                  exact absurd h.symm this
              subst this
              rw [← hie, ← hje]
            rw [hinj, hk] at hk'
            exact (K.inj _ _ hk').symm
        · rintro (h | rfl)
          · exact .inl h
          · right
            -- one entry a key
            have hlen : es.toList.length = m.length := by have := congrArg List.length h2; simpa using this
            obtain ⟨i, hi, hie⟩ := List.getElem_of_mem he'
            obtain ⟨j, hj, hje⟩ := List.getElem_of_mem hee.1
            have key : ∀ (i : Nat) (hi : i < es.toList.length), es.toList[i].key = K.enc (m[i]'(by omega)).1 := fun i hi => by
              have := congrArg (fun l => l[i]?) h2
              simp only [List.getElem?_map, List.getElem?_eq_getElem hi, List.getElem?_eq_getElem (show i < m.length by omega), Option.map_some, Option.some.injEq, Prod.mk.injEq] at this
              exact this.1
            have e1 : (m[i]'(by omega)).1 = k' := K.inj _ _ (by rw [← key i hi, hie, hk'])
            have e2 : (m[j]'(by omega)).1 = k' := K.inj _ _ (by rw [← key j hj, hje, hk])
            have hn := List.pairwise_iff_getElem.1 hon
            have hij : i = j := by
              rcases Nat.lt_trichotomy i j with q | q | q
              · exact absurd (e1.trans e2.symm) (hn i j (by omega) (by omega) q)
              · exact q
              · exact absurd (e2.trans e1.symm) (hn j i (by omega) (by omega) q)
            subst hij
            rw [← hie, ← hje]
      · cases hkv'
        exact ⟨rfl, e, seen, hee.1, hk, hv, rfl⟩
theorem TW.entryM (K : GKey P kt κ) {it bm : Nat} {m : List (κ × Value)} {pre : List κ} {k : κ} {v : Value} (hg : gu = none) (hd : okDst N d = true) (hx : ev E x = some (none, .pointer (some ⟨it, 0, none⟩))) (hw : WalkM K w it bm m pre (some (k, v)))
    (next : TW P r Q N ds ops rest (ins E d none (.tuple #[K.enc k, v])) w) : TW P r Q N ds ops (⟨d, .entry x, ty, pos, af, gu⟩ :: rest) E w := by
  obtain ⟨es, clock, since, seen, c0, h1, h2, h3, h4, h5, h6, h7, hsc, hon, h8⟩ := hw
  obtain ⟨rfl, e, seen0, he, hk, hv, rfl⟩ := h8 k v rfl
  refine TW.eff (v := .tuple #[K.enc k, v]) (w' := w) hg hd rfl (fun a ha => ?_) next
  simp only [execOp]
  rw [ha.eval hx trivial]
  have := run_entry_at (P := P) w it bm since seen0 es c0 e h4 h1 he h3
  simp [this, hk, hv]
theorem MapL.keys {K : GKey P kt κ} {b : Nat} {m : List (κ × Value)} (h : MapL K w b m) : (m.map (·.1)).Nodup := by
  unfold List.Nodup
  rw [List.pairwise_map]
  exact h.once
end

/-! ### iterators whose values lie in memory -/
/-- An iterator: like IterOK, but what it hands over is known in the world. -/
def IterW {α : Type} (P : Program) (gf : FuncId) (cap : List Value) (enc : α → List Value) (Pos : List α → α → (Nat → Prop) → World → Prop) (Done : List α → Prop) (own : Nat → Prop) (w0 : World) : Prop :=
  ∀ (l : Nat) (J Jx : List α → (Nat → Prop) → World → Prop) (W : World) (M : Nat → Prop),
    (∀ k, own k → k < w0.heap.size → W.heap[k]? = w0.heap[k]?) → w0.heap.size ≤ W.heap.size → l < W.heap.size → (∀ k, own k → ¬ M k ∧ k ≠ l) → (∀ k, M k → k < W.heap.size) →
    (∀ pre M W1 W2, J pre M W1 → ExtF W.heap.size W1 W2 → J pre M W2) → (∀ pre M W1 W2, Jx pre M W1 → ExtF W.heap.size W1 W2 → Jx pre M W2) →
    (∀ pre x M W1, J pre M W1 → Pos pre x M W1 → (∀ k, M k → k < W1.heap.size) → l < W1.heap.size → Yields P l (enc x).toArray W1 (Rnd l J Jx (pre ++ [x]) M W1)) →
    J [] M W →
    Gives P gf (.func (.yield l) #[] #[] :: cap).toArray W fun _ W' => (∃ xs M', Done xs ∧ J xs M' W') ∨ (∃ pre M', Jx pre M' W')
section
variable {r : Option Nat} {Q : Exit → Act → World → Prop} {N : Nat} {ds : List Deferred} {ops rest : List Oper} {E : Env} {w : World} {G : Option Bool}
/-- The range statement over such an iterator, outside of any round. J: what holds between two rounds; Jx: what holds where a round has left by c. -/
theorem CW.rangeW {α : Type} {g : Operand} {ps : List Tmp} {assign body : Code} {gf : FuncId} {cap : List Value} {enc : α → List Value} {Pos : List α → α → (Nat → Prop) → World → Prop} {Done : List α → Prop} {own : Nat → Prop}
    (hg : ev E g = some (none, .func (.func gf) #[] cap.toArray)) (he : enters P gf = true) (hit : IterW P gf cap enc Pos Done own w) (hps : ps.all (fun t => Nat.blt t N) = true) (hlen : ∀ x, (enc x).length = ps.length)
    (J : List α → (Nat → Prop) → World → Prop) (Jx : Code → List α → (Nat → Prop) → World → Prop) (M : Nat → Prop) (hM : ∀ k, M k → k < w.heap.size ∧ ¬ own k) (hown : ∀ k, own k → k < w.heap.size)
    (hJ : ∀ pre M W1 W2, J pre M W1 → ExtF w.heap.size W1 W2 → J pre M W2) (hJx : ∀ c pre M W1 W2, Jx c pre M W1 → ExtF w.heap.size W1 W2 → Jx c pre M W2) (h0 : J [] M w)
    (round : ∀ D L pre x M W, w.heap.size ≤ D → D < L → J pre M W → Pos pre x M W → (∀ k, M k → k < W.heap.size) → ¬ M L → ¬ M D → RecIs N E ps assign body D W L .ready none →
      CW P (some L) (Exit.then (fun a1 W1 => ∃ W2, (Instr.beginRound L).run P W1 = .ok () W2 ∧
        body.wpIn (FR (some L)) 0 P (rndPost P L (Rnd L (fun pre M' W' => J pre M' W' ∧ ¬ M' L ∧ ¬ M' D ∧ RecIs N E ps assign body D W' L .ready none) (fun pre M' W' => ∃ c, Jx c pre M' W' ∧ RecIs N E ps assign body D W' L .done (some c)) (pre ++ [x]) M W)) a1 W2) (fun _ _ _ => False)) N [] assign (insP E ps (enc x)) W)
    (done : ∀ D xs M W, w.heap.size ≤ D → Done xs → J xs M W → ¬ M D → W.heap[D]? = some (.deferred (some [])) → KW N ({ target := .collected D, args := #[] } :: ds) (Q .normal) E W)
    (stop : ∀ D c pre M W, w.heap.size ≤ D → Jx c pre M W → W.heap[D]? = some (.deferred (some [])) → CW P none Q N ({ target := .collected D, args := #[] } :: ds) c E W) :
    CW P none Q N ds (.rangeFunc g ps.toArray assign body) E w := by
  intro a ha
  refine wpIn_rangeFunc fun fn _ => ?_
  obtain ⟨W1, hW1⟩ : ∃ W1, (w.alloc (.deferred (some []))).alloc (.loop { state := .ready, pending := none, fn := fn, tmps := a.tmps, params := ps.toArray, assign := assign, body := body, defers := w.heap.size }) = W1 := ⟨_, rfl⟩
  have hsz : W1.heap.size = w.heap.size + 2 := by rw [← hW1]; simp
  have hL1 : W1.heap[w.heap.size + 1]? = some (.loop { state := .ready, pending := none, fn := fn, tmps := a.tmps, params := ps.toArray, assign := assign, body := body, defers := w.heap.size }) := by
    rw [← hW1]; have := World.alloc_heap_new (w.alloc (.deferred (some []))) (.loop { state := .ready, pending := none, fn := fn, tmps := a.tmps, params := ps.toArray, assign := assign, body := body, defers := w.heap.size }); rwa [World.size_alloc] at this
  have hD1 : W1.heap[w.heap.size]? = some (.deferred (some [])) := by
    rw [← hW1]; exact (Below.heap_alloc _ _ _ (by simp)).trans (World.alloc_heap_new w _)
  have hb1 : Below w.heap.size w W1 := by
    rw [← hW1]; exact ((Below.refl _ w).alloc (Nat.le_refl _) _).alloc (by simp) _
  have hrec : RecIs N E ps assign body w.heap.size W1 (w.heap.size + 1) .ready none := ⟨fn, a.tmps, ⟨ha.size, rfl, ha.slots⟩, hL1⟩
  let J' : List α → (Nat → Prop) → World → Prop := fun pre M W => (J pre M W ∧ ¬ M (w.heap.size + 1) ∧ ¬ M w.heap.size ∧ RecIs N E ps assign body w.heap.size W (w.heap.size + 1) .ready none) ∧ W.heap[w.heap.size]? = some (.deferred (some []))
  let Jx' : List α → (Nat → Prop) → World → Prop := fun pre M W => (∃ c, Jx c pre M W ∧ RecIs N E ps assign body w.heap.size W (w.heap.size + 1) .done (some c)) ∧ W.heap[w.heap.size]? = some (.deferred (some []))
  have hM' : ∀ k, M k → k < w.heap.size := fun k hk => (hM k hk).1
  have hgives := hit (w.heap.size + 1) J' Jx' W1 M (fun k hk hlt => hb1.block k hlt) (by omega) (by omega)
    (fun k hk => ⟨fun hm => (hM k hm).2 hk, by have := hown k hk; omega⟩) (fun k hk => by have := hM' k hk; omega)
    (fun pre M Wa Wb ⟨⟨h1, h2, h3, h4⟩, h5⟩ hx => ⟨⟨hJ _ _ _ _ h1 (hx.less (by omega)), h2, h3, h4.ext hx (by omega)⟩, hx.block _ _ h5 (.inl (by omega))⟩)
    (fun pre M Wa Wb ⟨⟨c, h1, h2⟩, h5⟩ hx => ⟨⟨c, hJx _ _ _ _ _ h1 (hx.less (by omega)), h2.ext hx (by omega)⟩, hx.block _ _ h5 (.inl (by omega))⟩)
    (fun pre x M2 Wa ⟨⟨h1, h2, h3, h4⟩, h5⟩ hpos hMlt hlt => by
      have hy := Yields.of_round (P := P) (R := Rnd (w.heap.size + 1) (fun pre M' W' => J pre M' W' ∧ ¬ M' (w.heap.size + 1) ∧ ¬ M' w.heap.size ∧ RecIs N E ps assign body w.heap.size W' (w.heap.size + 1) .ready none) (fun pre M' W' => ∃ c, Jx c pre M' W' ∧ RecIs N E ps assign body w.heap.size W' (w.heap.size + 1) .done (some c)) (pre ++ [x]) M2 Wa) (vs := enc x) h4 (hlen x) hps
        (round w.heap.size (w.heap.size + 1) pre x M2 Wa (Nat.le_refl _) (by omega) h1 hpos hMlt h2 h3 h4)
      refine hy.mono fun b W' hR => ⟨hR.size, hR.kept, fun hb => ?_, fun hb => ?_⟩
      · obtain ⟨M', hj, hm⟩ := hR.yes hb
        exact ⟨M', ⟨hj, (hR.kept _ (by omega) h3 (by omega)).trans h5⟩, hm⟩
      · obtain ⟨M', hj⟩ := hR.no hb
        exact ⟨M', hj, (hR.kept _ (by omega) h3 (by omega)).trans h5⟩)
    ⟨⟨hJ _ _ _ _ h0 (.of_below hb1), fun hm => by have := hM' _ hm; omega, fun hm => by have := hM' _ hm; omega, hrec⟩, hD1⟩
  refine ⟨w.heap.size + 1, [{ target := .collected w.heap.size, args := #[] }], W1, { target := .fn (.func gf) cap.toArray, args := #[.func (.yield (w.heap.size + 1)) #[] #[]] }, W1, gf,
    (.func (.yield (w.heap.size + 1)) #[] #[] :: cap).toArray, W1, ?_, ?_, fun _ _ => trivial, ?_, fun h => by simp [Fence.wide] at h, ?_⟩
  · rw [← hW1]; exact run_enterLoop_outer _ _ _ _ _
  · simp only [resolve, ha.eval hg trivial]
    simp [Deferred.ofValue, Act.eval]
  · simp [invoke, run_enters he]
  · refine CallsIn.mono (callsIn_of hgives) ?_
    rintro e W2 ⟨v, rfl, hR⟩
    rcases hR with ⟨xs, M', hdone, ⟨h1, h2, h3, fn', tmps', hf', hh'⟩, h5⟩ | ⟨pre, M', ⟨c, h1, fn', tmps', hf', hh'⟩, h5⟩
    · have hlt : w.heap.size + 1 < W2.heap.size := (Array.getElem?_eq_some_iff.1 hh').1
      refine ⟨_, _, run_endLoop hh' (by simp), ?_⟩
      refine done w.heap.size xs M' _ (Nat.le_refl _) hdone (hJ _ _ _ _ h1 (ExtF.putObj hh' rfl (by omega))) h3 ((World.putObj_heap_other (by omega)).trans h5) _ ⟨ha.size, by simp [ha.defers], ha.slots⟩
    · have hlt : w.heap.size + 1 < W2.heap.size := (Array.getElem?_eq_some_iff.1 hh').1
      refine ⟨_, _, run_endLoop hh' (by simp), ?_⟩
      exact stop w.heap.size c pre M' _ (Nat.le_refl _) (hJx _ _ _ _ _ h1 (ExtF.putObj hh' rfl (by omega))) ((World.putObj_heap_other (by omega)).trans h5) _ ⟨ha.size, by simp [ha.defers], ha.slots⟩

end
end Go.PF

/-
  DERIVED: THE SHELF's CONTRACTS AT THIS DUMP, IN PLAIN WORDS (tools/lay-plain.mjs out of 'TryzShelf.lean', which tools/lay-shelf.mjs wrote): THE SAME DECLARATIONS UNDER THE SAME NAMES: 'import', 'namespace', 'open', 'def', 'theorem' AND NOTHING ELSE: no command of the shelf's: FOR A HAND-IN. Each laying: the table of numbers ('.._ren') and one theorem, a field a fact of the dump's own or the kernel's comparison; each contract: ONE APPLICATION.
-/
namespace Go.Proofs
open Go.Shelf
def Tryz.lays128_ren : Go.Shelf.Ren := ⟨fun | 128 => 105 | n => n, fun | 51 => 71 | 3 => 3 | 4 => 4 | 46 => 57 | 5 => 5 | 9 => 9 | n => n, fun | n => n⟩
theorem Tryz.lays128 : Go.Proofs.Lays.n128 Tryz.prog Tryz.lays128_ren := {
  mixed := by kernel_rfl
  f128 := Tryz.func105.trans (congrArg some (by kernel_rfl))
  t3 := Tryz.underlying3
  a3 := Tryz.isAgg3
  z3 := Tryz.sizeOf3
  v3 := Tryz.zeroValue3
  t4 := Tryz.underlying4
  a4 := Tryz.isAgg4
  z4 := Tryz.sizeOf4
  v4 := Tryz.zeroValue4
  t5 := Tryz.underlying5
  a5 := Tryz.isAgg5
  z5 := Tryz.sizeOf5
  v5 := Tryz.zeroValue5
  t9 := Tryz.underlying9
  a9 := Tryz.isAgg9
  z9 := Tryz.sizeOf9
  v9 := Tryz.zeroValue9
  t46 := Tryz.underlying57
  a46 := Tryz.isAgg57
  z46 := Tryz.sizeOf57
  v46 := Tryz.zeroValue57
  t51 := Tryz.underlying71
  a51 := Tryz.isAgg71
  z51 := Tryz.sizeOf71
  v51 := Tryz.zeroValue71 }
theorem Tryz.bits_Len32 (x : Int) (w : World) (h0 : 0 ≤ x) (h1 : x ≤ 4294967295) :
    Calls Tryz.prog 105 #[.int .u32 x] w fun e w' => e = .returned (.int .i64 (Lib.bitLen x.toNat)) ∧ w' = w := Any.bits_Len32 Tryz.lays128 x w h0 h1
def Tryz.lays125_ren : Go.Shelf.Ren := ⟨fun | 125 => 89 | 128 => 105 | 129 => 106 | n => n, fun | 46 => 57 | 3 => 3 | 51 => 71 | 53 => 118 | 4 => 4 | 5 => 5 | 9 => 9 | n => n, fun | n => n⟩
theorem Tryz.lays125 : Go.Proofs.Lays.n125 Tryz.prog Tryz.lays125_ren := {
  mixed := by kernel_rfl
  f125 := Tryz.func89.trans (congrArg some (by kernel_rfl))
  f128 := Tryz.func105.trans (congrArg some (by kernel_rfl))
  f129 := Tryz.func106.trans (congrArg some (by kernel_rfl))
  t3 := Tryz.underlying3
  a3 := Tryz.isAgg3
  z3 := Tryz.sizeOf3
  v3 := Tryz.zeroValue3
  t4 := Tryz.underlying4
  a4 := Tryz.isAgg4
  z4 := Tryz.sizeOf4
  v4 := Tryz.zeroValue4
  t5 := Tryz.underlying5
  a5 := Tryz.isAgg5
  z5 := Tryz.sizeOf5
  v5 := Tryz.zeroValue5
  t9 := Tryz.underlying9
  a9 := Tryz.isAgg9
  z9 := Tryz.sizeOf9
  v9 := Tryz.zeroValue9
  t46 := Tryz.underlying57
  a46 := Tryz.isAgg57
  z46 := Tryz.sizeOf57
  v46 := Tryz.zeroValue57
  t51 := Tryz.underlying71
  a51 := Tryz.isAgg71
  z51 := Tryz.sizeOf71
  v51 := Tryz.zeroValue71
  t53 := Tryz.underlying118
  a53 := Tryz.isAgg118
  z53 := Tryz.sizeOf118
  v53 := Tryz.zeroValue118 }
theorem Tryz.bits_Len (x : Int) (w : World) (h0 : 0 ≤ x) (h1 : x ≤ 18446744073709551615) :
    Calls Tryz.prog 89 #[.int .u64 x] w fun e w' => e = .returned (.int .i64 (Lib.bitLen x.toNat)) ∧ w' = w := Any.bits_Len Tryz.lays125 x w h0 h1
def Tryz.lays215_ren : Go.Shelf.Ren := ⟨fun | 215 => 92 | n => n, fun | 3 => 3 | 4 => 4 | n => n, fun | n => n⟩
theorem Tryz.lays215 : Go.Proofs.Lays.n215 Tryz.prog Tryz.lays215_ren := {
  mixed := by kernel_rfl
  f215 := Tryz.func92.trans (congrArg some (by kernel_rfl))
  t3 := Tryz.underlying3
  a3 := Tryz.isAgg3
  z3 := Tryz.sizeOf3
  v3 := Tryz.zeroValue3
  t4 := Tryz.underlying4
  a4 := Tryz.isAgg4
  z4 := Tryz.sizeOf4
  v4 := Tryz.zeroValue4 }
open Go.RowKit in
theorem Tryz.cmp_isNaN_int (x : Int) (w : World) :
    Calls Tryz.prog 92 #[.int .i64 x] w fun e w' => e = .returned (.bool false) ∧ w' = w := Any.cmp_isNaN_int Tryz.lays215 x w
def Tryz.lays122_ren : Go.Shelf.Ren := ⟨fun | 122 => 80 | 215 => 92 | n => n, fun | 3 => 3 | 4 => 4 | n => n, fun | n => n⟩
theorem Tryz.lays122 : Go.Proofs.Lays.n122 Tryz.prog Tryz.lays122_ren := {
  mixed := by kernel_rfl
  f122 := Tryz.func80.trans (congrArg some (by kernel_rfl))
  f215 := Tryz.func92.trans (congrArg some (by kernel_rfl))
  t3 := Tryz.underlying3
  a3 := Tryz.isAgg3
  z3 := Tryz.sizeOf3
  v3 := Tryz.zeroValue3
  t4 := Tryz.underlying4
  a4 := Tryz.isAgg4
  z4 := Tryz.sizeOf4
  v4 := Tryz.zeroValue4 }
open Go.RowKit in
theorem Tryz.cmp_Compare_int (x y : Int) (w : World) :
    Calls Tryz.prog 80 #[.int .i64 x, .int .i64 y] w fun e w' => e = .returned (.int .i64 (Lib.compareInt x y)) ∧ w' = w := Any.cmp_Compare_int Tryz.lays122 x y w
def Tryz.lays129_ren : Go.Shelf.Ren := ⟨fun | 129 => 106 | n => n, fun | 53 => 118 | 3 => 3 | 4 => 4 | 46 => 57 | 5 => 5 | 9 => 9 | n => n, fun | n => n⟩
theorem Tryz.lays129 : Go.Proofs.Lays.n129 Tryz.prog Tryz.lays129_ren := {
  mixed := by kernel_rfl
  f129 := Tryz.func106.trans (congrArg some (by kernel_rfl))
  t3 := Tryz.underlying3
  a3 := Tryz.isAgg3
  z3 := Tryz.sizeOf3
  v3 := Tryz.zeroValue3
  t4 := Tryz.underlying4
  a4 := Tryz.isAgg4
  z4 := Tryz.sizeOf4
  v4 := Tryz.zeroValue4
  t5 := Tryz.underlying5
  a5 := Tryz.isAgg5
  z5 := Tryz.sizeOf5
  v5 := Tryz.zeroValue5
  t9 := Tryz.underlying9
  a9 := Tryz.isAgg9
  z9 := Tryz.sizeOf9
  v9 := Tryz.zeroValue9
  t46 := Tryz.underlying57
  a46 := Tryz.isAgg57
  z46 := Tryz.sizeOf57
  v46 := Tryz.zeroValue57
  t53 := Tryz.underlying118
  a53 := Tryz.isAgg118
  z53 := Tryz.sizeOf118
  v53 := Tryz.zeroValue118 }
theorem Tryz.bits_Len64 (x : Int) (w : World) (h0 : 0 ≤ x) (h1 : x ≤ 18446744073709551615) :
    Calls Tryz.prog 106 #[.int .u64 x] w fun e w' => e = .returned (.int .i64 (Lib.bitLen x.toNat)) ∧ w' = w := Any.bits_Len64 Tryz.lays129 x w h0 h1
def Tryz.lays189_ren : Go.Shelf.Ren := ⟨fun | 189 => 62 | 125 => 89 | 257 => 88 | 128 => 105 | 129 => 106 | 294 => 97 | 295 => 98 | 296 => 99 | 297 => 100 | 298 => 101 | 299 => 102 | 216 => 67 | 300 => 103 | 301 => 104 | 328 => 113 | 329 => 114 | 330 => 115 | 331 => 116 | 332 => 117 | 215 => 92 | 343 => 122 | n => n, fun | 28 => 24 | 3 => 3 | 46 => 57 | 0 => 0 | 51 => 71 | 53 => 118 | 4 => 4 | 183 => 126 | 182 => 125 | 131 => 54 | 5 => 5 | 9 => 9 | 218 => 144 | 222 => 148 | 228 => 152 | 229 => 104 | n => n, fun | n => n⟩
theorem Tryz.lays189 : Go.Proofs.Lays.n189 Tryz.prog Tryz.lays189_ren := {
  mixed := by kernel_rfl
  f125 := Tryz.func89.trans (congrArg some (by kernel_rfl))
  f128 := Tryz.func105.trans (congrArg some (by kernel_rfl))
  f129 := Tryz.func106.trans (congrArg some (by kernel_rfl))
  f189 := Tryz.func62.trans (congrArg some (by kernel_rfl))
  f215 := Tryz.func92.trans (congrArg some (by kernel_rfl))
  f216 := Tryz.func67.trans (congrArg some (by kernel_rfl))
  f257 := Tryz.func88.trans (congrArg some (by kernel_rfl))
  f294 := Tryz.func97.trans (congrArg some (by kernel_rfl))
  f295 := Tryz.func98.trans (congrArg some (by kernel_rfl))
  f296 := Tryz.func99.trans (congrArg some (by kernel_rfl))
  f297 := Tryz.func100.trans (congrArg some (by kernel_rfl))
  f298 := Tryz.func101.trans (congrArg some (by kernel_rfl))
  f299 := Tryz.func102.trans (congrArg some (by kernel_rfl))
  f300 := Tryz.func103.trans (congrArg some (by kernel_rfl))
  f301 := Tryz.func104.trans (congrArg some (by kernel_rfl))
  f328 := Tryz.func113.trans (congrArg some (by kernel_rfl))
  f329 := Tryz.func114.trans (congrArg some (by kernel_rfl))
  f330 := Tryz.func115.trans (congrArg some (by kernel_rfl))
  f331 := Tryz.func116.trans (congrArg some (by kernel_rfl))
  f332 := Tryz.func117.trans (congrArg some (by kernel_rfl))
  f343 := Tryz.func122.trans (congrArg some (by kernel_rfl))
  t0 := Tryz.underlying0
  a0 := Tryz.isAgg0
  z0 := Tryz.sizeOf0
  v0 := Tryz.zeroValue0
  t3 := Tryz.underlying3
  a3 := Tryz.isAgg3
  z3 := Tryz.sizeOf3
  v3 := Tryz.zeroValue3
  t4 := Tryz.underlying4
  a4 := Tryz.isAgg4
  z4 := Tryz.sizeOf4
  v4 := Tryz.zeroValue4
  t5 := Tryz.underlying5
  a5 := Tryz.isAgg5
  z5 := Tryz.sizeOf5
  v5 := Tryz.zeroValue5
  t9 := Tryz.underlying9
  a9 := Tryz.isAgg9
  z9 := Tryz.sizeOf9
  v9 := Tryz.zeroValue9
  t28 := Tryz.underlying24
  a28 := Tryz.isAgg24
  z28 := Tryz.sizeOf24
  v28 := Tryz.zeroValue24
  t46 := Tryz.underlying57
  a46 := Tryz.isAgg57
  z46 := Tryz.sizeOf57
  v46 := Tryz.zeroValue57
  t51 := Tryz.underlying71
  a51 := Tryz.isAgg71
  z51 := Tryz.sizeOf71
  v51 := Tryz.zeroValue71
  t53 := Tryz.underlying118
  a53 := Tryz.isAgg118
  z53 := Tryz.sizeOf118
  v53 := Tryz.zeroValue118
  t131 := Tryz.underlying54
  a131 := Tryz.isAgg54
  z131 := Tryz.sizeOf54
  v131 := Tryz.zeroValue54
  t182 := Tryz.underlying125
  a182 := Tryz.isAgg125
  z182 := Tryz.sizeOf125
  v182 := Tryz.zeroValue125
  t183 := Tryz.underlying126
  a183 := Tryz.isAgg126
  z183 := Tryz.sizeOf126
  v183 := Tryz.zeroValue126
  t218 := Tryz.underlying144
  a218 := Tryz.isAgg144
  z218 := Tryz.sizeOf144
  v218 := Tryz.zeroValue144
  t222 := Tryz.underlying148
  a222 := Tryz.isAgg148
  z222 := Tryz.sizeOf148
  v222 := Tryz.zeroValue148
  t228 := Tryz.underlying152
  a228 := Tryz.isAgg152
  z228 := Tryz.sizeOf152
  v228 := Tryz.zeroValue152
  t229 := Tryz.underlying104
  a229 := Tryz.isAgg104
  z229 := Tryz.sizeOf104
  v229 := Tryz.zeroValue104 }
open Go.Sort Go.RowKit in
theorem Tryz.slices_Sort_int (blk off cap : Nat) (zs : List Int) (w : World) (hH : Holds (Value.int .i64) w blk off zs.toArray) (hblk : blk < w.heap.size) (hsz : zs.length < 4611686018427387904) :
    Calls Tryz.prog 62 #[.slice (some ⟨blk, off, none⟩) zs.length cap] w fun e w' =>
      e = .returned (.tuple #[]) ∧ ∃ n os, w' = grow (putRow (Value.int .i64) (Sort.ahead w n) blk off (zs.mergeSort fun x y => decide (x ≤ y)).toArray) os := Any.slices_Sort_int Tryz.lays189 blk off cap zs w hH hblk hsz
def Tryz.laysNm220_ren : Go.Shelf.Ren := ⟨fun | 20 => 63 | n => n, fun | 22 => 24 | 3 => 3 | 4 => 4 | 0 => 0 | n => n, fun | n => n⟩
theorem Tryz.laysNm220 : Go.Proofs.Lays2.n20 Tryz.prog Tryz.laysNm220_ren := {
  mixed := by kernel_rfl
  f20 := Tryz.func63.trans (congrArg some (by kernel_rfl))
  t0 := Tryz.underlying0
  a0 := Tryz.isAgg0
  z0 := Tryz.sizeOf0
  v0 := Tryz.zeroValue0
  t3 := Tryz.underlying3
  a3 := Tryz.isAgg3
  z3 := Tryz.sizeOf3
  v3 := Tryz.zeroValue3
  t4 := Tryz.underlying4
  a4 := Tryz.isAgg4
  z4 := Tryz.sizeOf4
  v4 := Tryz.zeroValue4
  t22 := Tryz.underlying24
  a22 := Tryz.isAgg24
  z22 := Tryz.sizeOf24
  v22 := Tryz.zeroValue24
  i3 := by kernel_rfl }
open Go.RowKit Go.Lib Go.Sort in
theorem Tryz.slices_Compact_int_arr (blk off cap : Nat) (d : Array Int) (w : World) (hH : Holds encI w blk off d) (hsz : d.size ≤ 9223372036854775807) (hcap : d.size ≤ cap) :
    Calls Tryz.prog 63 #[.slice (some ⟨blk, off, none⟩) d.size cap] w fun e w' => e = .returned (.slice (some ⟨blk, off, none⟩) (compactUpTo d d.size).length cap) ∧ ∃ q, w' = putRow encI (Sort.ahead w q) blk off (compactUpTo d d.size ++ List.replicate (d.size - (compactUpTo d d.size).length) 0).toArray := Any.slices_Compact_int_arr Tryz.laysNm220 blk off cap d w hH hsz hcap
open Go.RowKit Go.Lib Go.Sort in
theorem Tryz.slices_Compact_int (blk off cap : Nat) (zs : List Int) (w : World) (hH : Holds (Value.int .i64) w blk off zs.toArray) (hsz : zs.length ≤ 9223372036854775807) (hcap : zs.length ≤ cap) :
    Calls Tryz.prog 63 #[.slice (some ⟨blk, off, none⟩) zs.length cap] w fun e w' => e = .returned (.slice (some ⟨blk, off, none⟩) (Lib.compact zs).length cap) ∧ ∃ q, w' = putRow (Value.int .i64) (Sort.ahead w q) blk off (Lib.compact zs ++ List.replicate (zs.length - (Lib.compact zs).length) 0).toArray := Any.slices_Compact_int Tryz.laysNm220 blk off cap zs w hH hsz hcap
open Go.RowKit Go.Lib Go.Sort in
theorem Tryz.slices_Compact_int_empty (a : Option Addr) (cap : Nat) (w : World) :
    Calls Tryz.prog 63 #[.slice a 0 cap] w fun e w' => e = .returned (.slice a 0 cap) ∧ w' = w := Any.slices_Compact_int_empty Tryz.laysNm220 a cap w
def Tryz.laysNm237_ren : Go.Shelf.Ren := ⟨fun | 37 => 92 | n => n, fun | 3 => 3 | 4 => 4 | n => n, fun | n => n⟩
theorem Tryz.laysNm237 : Go.Proofs.Lays2.n37 Tryz.prog Tryz.laysNm237_ren := {
  mixed := by kernel_rfl
  f37 := Tryz.func92.trans (congrArg some (by kernel_rfl))
  t3 := Tryz.underlying3
  a3 := Tryz.isAgg3
  z3 := Tryz.sizeOf3
  v3 := Tryz.zeroValue3
  t4 := Tryz.underlying4
  a4 := Tryz.isAgg4
  z4 := Tryz.sizeOf4
  v4 := Tryz.zeroValue4 }
open Go.RowKit Go.Lib in
theorem Tryz.cmp_isNaN_int2 (x : Int) (w : World) :
    Calls Tryz.prog 92 #[.int .i64 x] w fun e w' => e = .returned (.bool false) ∧ w' = w := Any.cmp_isNaN_int2 Tryz.laysNm237 x w
def Tryz.laysNm232_ren : Go.Shelf.Ren := ⟨fun | 32 => 68 | n => n, fun | 3 => 3 | 4 => 4 | n => n, fun | n => n⟩
theorem Tryz.laysNm232 : Go.Proofs.Lays2.n32 Tryz.prog Tryz.laysNm232_ren := {
  mixed := by kernel_rfl
  f32 := Tryz.func68.trans (congrArg some (by kernel_rfl))
  t3 := Tryz.underlying3
  a3 := Tryz.isAgg3
  z3 := Tryz.sizeOf3
  v3 := Tryz.zeroValue3
  t4 := Tryz.underlying4
  a4 := Tryz.isAgg4
  z4 := Tryz.sizeOf4
  v4 := Tryz.zeroValue4 }
open Go.RowKit Go.Lib in
theorem Tryz.slices_isNaN_int2 (x : Int) (w : World) :
    Calls Tryz.prog 68 #[.int .i64 x] w fun e w' => e = .returned (.bool false) ∧ w' = w := Any.slices_isNaN_int2 Tryz.laysNm232 x w
def Tryz.laysNm231_ren : Go.Shelf.Ren := ⟨fun | 31 => 67 | 37 => 92 | n => n, fun | 3 => 3 | 4 => 4 | n => n, fun | n => n⟩
theorem Tryz.laysNm231 : Go.Proofs.Lays2.n31 Tryz.prog Tryz.laysNm231_ren := {
  mixed := by kernel_rfl
  f31 := Tryz.func67.trans (congrArg some (by kernel_rfl))
  f37 := Tryz.func92.trans (congrArg some (by kernel_rfl))
  t3 := Tryz.underlying3
  a3 := Tryz.isAgg3
  z3 := Tryz.sizeOf3
  v3 := Tryz.zeroValue3
  t4 := Tryz.underlying4
  a4 := Tryz.isAgg4
  z4 := Tryz.sizeOf4
  v4 := Tryz.zeroValue4 }
open Go.RowKit Go.Lib in
theorem Tryz.cmp_Less_int2 (x y : Int) (w : World) :
    Calls Tryz.prog 67 #[.int .i64 x, .int .i64 y] w fun e w' => e = .returned (.bool (decide (x < y))) ∧ w' = w := Any.cmp_Less_int2 Tryz.laysNm231 x y w
def Tryz.laysNm225_ren : Go.Shelf.Ren := ⟨fun | 25 => 39 | 31 => 67 | 32 => 68 | 37 => 92 | n => n, fun | 22 => 24 | 3 => 3 | 4 => 4 | 40 => 57 | 0 => 0 | n => n, fun | n => n⟩
theorem Tryz.laysNm225 : Go.Proofs.Lays2.n25 Tryz.prog Tryz.laysNm225_ren := {
  mixed := by kernel_rfl
  f25 := Tryz.func39.trans (congrArg some (by kernel_rfl))
  f31 := Tryz.func67.trans (congrArg some (by kernel_rfl))
  f32 := Tryz.func68.trans (congrArg some (by kernel_rfl))
  f37 := Tryz.func92.trans (congrArg some (by kernel_rfl))
  t0 := Tryz.underlying0
  a0 := Tryz.isAgg0
  z0 := Tryz.sizeOf0
  v0 := Tryz.zeroValue0
  t3 := Tryz.underlying3
  a3 := Tryz.isAgg3
  z3 := Tryz.sizeOf3
  v3 := Tryz.zeroValue3
  t4 := Tryz.underlying4
  a4 := Tryz.isAgg4
  z4 := Tryz.sizeOf4
  v4 := Tryz.zeroValue4
  t22 := Tryz.underlying24
  a22 := Tryz.isAgg24
  z22 := Tryz.sizeOf24
  v22 := Tryz.zeroValue24
  t40 := Tryz.underlying57
  a40 := Tryz.isAgg57
  z40 := Tryz.sizeOf57
  v40 := Tryz.zeroValue57 }
open Go.RowKit Go.Lib in
theorem Tryz.slices_BinarySearch_int (b off n c : Nat) (zs : List Int) (x : Int) (w : World) (hz : n ≤ zs.length) (hbig : n < 4611686018427387904) (hc : ∀ j, j < zs.length → w.cell? ⟨b, off + j, none⟩ = some (.int .i64 (zs.getD j 0))) (hs : (zs.take n).Pairwise (· ≤ ·)) :
    Calls Tryz.prog 39 #[.slice (some ⟨b, off, none⟩) n c, .int .i64 x] w fun e w' => e = .returned (.tuple #[.int .i64 ((zs.take n).countP (· < x) : Nat), .bool ((zs.take n).contains x)]) ∧ ∃ q, w' = w.drewN q := Any.slices_BinarySearch_int Tryz.laysNm225 b off n c zs x w hz hbig hc hs
open Go.RowKit Go.Lib Go.Sort in
theorem Tryz.slices_Compact_int_cells (b off n c : Nat) (zs : List Int) (w : World) (hz : n ≤ zs.length) (hbig : n ≤ 9223372036854775807) (hcap : n ≤ c) (hc : ∀ j, j < zs.length → w.cell? ⟨b, off + j, none⟩ = some (.int .i64 (zs.getD j 0))) (hf : ∀ j, j < n → w.frozen? ⟨b, off + j, none⟩ = false) :
    Calls Tryz.prog 63 #[.slice (some ⟨b, off, none⟩) n c] w fun e w' => e = .returned (.slice (some ⟨b, off, none⟩) (Lib.compact (zs.take n)).length c) ∧ ∃ q, w' = (w.drewN q).setCells b off ((Lib.compact (zs.take n) ++ List.replicate (n - (Lib.compact (zs.take n)).length) 0).map (Value.int .i64)) := Any.slices_Compact_int_cells Tryz.laysNm220 b off n c zs w hz hbig hcap hc hf
open Go.RowKit Go.Sort in
theorem Tryz.slices_Sort_int_none (p : Option Addr) (cap : Nat) (w : World) :
    Calls Tryz.prog 62 #[.slice p 0 cap] w fun e w' => e = .returned (.tuple #[]) ∧ w' = w := Any.slices_Sort_int_none Tryz.lays189 p cap w
open Go.RowKit Go.Lib in
theorem Tryz.slices_BinarySearch_int_empty (a : Option Addr) (c : Nat) (x : Int) (w : World) :
    Calls Tryz.prog 39 #[.slice a 0 c, .int .i64 x] w fun e w' => e = .returned (.tuple #[.int .i64 0, .bool false]) ∧ w' = w := Any.slices_BinarySearch_int_empty Tryz.laysNm225 a c x w
end Go.Proofs

namespace Go.Proofs.YtmhfeehkpndadaaGreat
open Go.PF Go.RowKit Go.Ord

theorem Below.putCtl {n D : Nat} {w0 w : World} {o : Obj} (h : Below n w0 w) (hD : n ≤ D) : Below n w0 (w.putObj D o) :=
  ⟨h.os, h.tape, h.output, by simpa [World.putObj] using h.size, fun i hi => (World.putObj_heap_other (by omega)).trans (h.block i hi)⟩
theorem sort_c {w : World} {v : Value} {xs : List Int} (h : OwnS w 3 1 v xs.length (xs.map (Value.int .i64))) (hn : xs.length < 4611686018427387904) :
    Gives Tryz.prog 62 #[v] w fun _ w' => w.grownBy w' v.ownBlock ∧ OwnS w' 3 1 v xs.length ((xs.mergeSort fun x y => decide (x ≤ y)).map (Value.int .i64)) := by
  rcases h.2 with ⟨rfl, h0⟩ | ⟨g, cap, cur, rfl, hg, hh, h1, h2, h3, h4⟩
  · have hx : xs = [] := List.eq_nil_of_length_eq_zero h0
    subst hx
    refine (Tryz.slices_Sort_int_none none 0 w).mono ?_
    rintro e w' ⟨rfl, rfl⟩
    exact ⟨_, rfl, ⟨rfl, rfl, rfl, Nat.le_refl _, fun _ _ _ => rfl⟩, by simpa using OwnS.nil w' _ 1⟩
  · have hH := holds_of_blockI (ss := xs) hh (by rw [Nat.mul_one] at h4; exact h4)
    refine (Tryz.slices_Sort_int g 0 cap xs w hH (Array.getElem?_eq_some_iff.1 hh).1 hn).mono ?_
    rintro e w' ⟨rfl, n, os, rfl⟩
    exact ⟨_, rfl, grownBy_sortedI _, ownsRow_sortedI (by simp [List.length_mergeSort]) hg hh h1 h2 h3⟩

/-! ### maps.Keys, slices.Sorted -/
def keyPos (ks : List Int) (pre : List Int) (x : Int) : Prop := (pre ++ [x]).Nodup ∧ ∀ y ∈ pre ++ [x], y ∈ ks
def keyAll (ks : List Int) (xs : List Int) : Prop := xs.Nodup ∧ ∀ y, y ∈ xs ↔ y ∈ ks

set_option maxRecDepth 20000 in
theorem keys_iter {w : World} {g bm : Nat} {m : List (Int × Value)} (hg : Blk w g 94 [.map (some bm)]) (hm : MapL intK w bm m) :
    IterOK Tryz.prog 94 [.pointer (some ⟨g, 0, none⟩)] (fun x : Int => [.int .i64 x]) (keyPos (m.map (·.1))) (keyAll (m.map (·.1))) (fun k => k = g ∨ k = bm) w := by
  intro yl J Jx W M hown hsz hyl hM hMlt hJ hJx hy h0
  have hgW : Blk W g 94 [.map (some bm)] := (hown g (.inl rfl) hg.lt).trans hg
  have hmW : MapL intK W bm m := hm.kept (hown bm (.inr rfl) hm.lt)
  have hkn := hm.keys
  refine gives_of (vs := [.func (.yield yl) #[] #[], .pointer (some ⟨g, 0, none⟩)]) [(0, none, _), (1, none, _)] Tryz.func94 rfl Tryz.ntmps94 rfl rfl ?_
  refine CW.seq (CW.region ?_)
  refine TW.load rfl rfl one94 rfl ct (fun _ => hgW.cell 0) ?_
  refine TW.rangeM intK rfl rfl Tryz.underlying94 rfl hmW ?_
  rintro it w1 hit hw1 hb1 hwk
  refine TW.nil (KW.pick [0, 1, 5] [(0, _, _), (1, _, _), (5, _, _)] rfl (KW.then_ ?_))
  refine CW.block ?_
  refine CW.loopS (fun x : List Int × (Nat → Prop) × Option (Int × Value) => [(0, none, .func (.yield yl) #[] #[]), (5, none, .pointer (some ⟨it, 0, none⟩))])
    (fun x W' => J x.1 x.2.1 W' ∧ WalkM intK W' it bm m x.1 x.2.2 ∧ W.heap.size < W'.heap.size ∧ (∀ k, x.2.1 k → k < W'.heap.size) ∧ ¬ x.2.1 it ∧ ¬ x.2.1 bm ∧ x.1.Nodup ∧ ∀ y ∈ x.1, y ∈ m.map (·.1))
    (fun x => m.length - x.1.length) ([], M, none) [0, 5]
    ⟨hJ _ _ _ _ h0 (.of_below hb1), hwk, by show W.heap.size < w1.heap.size; omega, fun k hk => by have := hMlt k hk; show k < w1.heap.size; omega, fun h => by have := hMlt _ h; omega, (hM bm (.inr rfl)).1, List.nodup_nil, fun y hy => by cases hy⟩ rfl ?_
  rintro ⟨pre, M1, lst⟩ W1 ⟨hj, hwk1, hsz1, hM1, hMit, hMbm, hnd, hsub⟩
  dsimp only at hj hwk1 hM1 hMit hMbm hnd hsub hsz1
  refine CW.seq (CW.region ?_)
  refine TW.nextM intK rfl rfl rfl hwk1 (fun hall => ?_) (fun k v w2 hkv hkn' hs2 hbut2 hext2 hwk2 => ?_)
  · skip
    refine TW.extract rfl rfl rfl rfl ct ?_
    refine TW.nil (KW.pick [0, 5, 7] [(0, _, _), (5, _, _), (7, _, _)] rfl (KW.then_ ?_))
    refine CW.seq ?_
    refine CW.cond rfl (fun h1 => ?_) (fun h2 => ?_)
    · exact absurd h1 (by simp)
    · refine CW.exit (KW.thenX (KW.thenX (KW.blockX ?_)))
      refine end0 Tryz.results94 (.inl ⟨pre, M1, ⟨hnd, fun y => ⟨fun h => hsub y h, fun h => ?_⟩⟩, hj⟩)
      rw [List.mem_map] at h
      obtain ⟨p, hp, rfl⟩ := h
      exact hall p hp
  · skip
    refine TW.extract rfl rfl rfl rfl ct ?_
    refine TW.nil (KW.pick [0, 5, 7] [(0, _, _), (5, _, _), (7, _, _)] rfl (KW.then_ ?_))
    refine CW.seq ?_
    refine CW.cond rfl (fun h1 => ?_) (fun h2 => ?_)
    · refine CW.skip (KW.then_ (CW.block (CW.seq (CW.region ?_))))
      refine TW.entryM intK rfl rfl rfl hwk2 ?_
      refine TW.extract rfl rfl rfl rfl ct ?_
      refine TW.assign rfl rfl rfl ct ?_
      refine TW.nil (KW.pick [0, 3, 5] [(0, _, _), (3, _, _), (5, _, _)] rfl (KW.then_ ?_))
      refine CW.seq (CW.region ?_)
      refine TW.move rfl rfl rfl ct ?_
      refine TW.move rfl rfl rfl ct ?_
      have hpos : keyPos (m.map (·.1)) pre k := by
        refine ⟨List.nodup_append.2 ⟨hnd, by simp, fun a ha b hb e => ?_⟩, fun y hy => ?_⟩
        · rw [List.mem_singleton] at hb
          subst hb
          subst e
          exact hkn' ha
        · rcases List.mem_append.1 hy with h | h
          · exact hsub y h
          · rw [List.mem_singleton] at h
            subst h
            exact List.mem_map.2 ⟨(y, v), hkv, rfl⟩
      have hj2 : J pre M1 w2 := hJ _ _ _ _ hj (hext2.less (by omega))
      refine TW.yield rfl rfl rfl (Args.cons rfl ct Args.nil) (hy pre k M1 w2 hj2 hpos (fun q hq => by have := hM1 q hq; omega) (by omega)) ?_
      rintro yb W3 hR
      refine TW.not rfl rfl rfl ct ?_
      refine TW.nil (KW.pick [0, 3, 5, 13] [(0, _, _), (3, _, _), (5, _, _), (13, _, _)] rfl (KW.then_ ?_))
      refine CW.cond rfl (fun hno => ?_) (fun hgo => ?_)
      · refine CW.ret (KW.blockR (KW.thenR (KW.blockR ?_)))
        refine ret0 Tryz.results94 (.inr ?_)
        obtain ⟨M', hx⟩ := hR.no (by simpa using hno)
        exact ⟨_, M', hx⟩
      · refine CW.skip (KW.blockN ?_)
        obtain ⟨M', hj3, hm3⟩ := hR.yes (by simpa using hgo)
        have hitlt : it < w2.heap.size := by obtain ⟨o, ho, _⟩ := hwk2.iter; exact (Array.getElem?_eq_some_iff.1 ho).1
        have hbmlt : bm < w2.heap.size := by have := hmW.lt; omega
        refine KW.round (pre ++ [k], M', some (k, v)) [0, 5] rfl ⟨hj3, hwk2.kept (hR.kept it hitlt hMit (by omega)) (hR.kept bm hbmlt hMbm (hM bm (.inr rfl)).2), by have := hR.size; show W.heap.size < W3.heap.size; omega, fun q hq => (hm3 q hq).2, fun h => ?_, fun h => ?_, hpos.1, hpos.2⟩ ?_
        · rcases (hm3 _ h).1 with h | h
          · exact hMit h
          · omega
        · rcases (hm3 _ h).1 with h | h
          · exact hMbm h
          · omega
        · have hle := nodup_len (l := pre ++ [k]) (k := m.map (·.1)) hpos.1 hpos.2
          show m.length - (pre ++ [k]).length < m.length - pre.length
          simp at hle ⊢
          omega
    · exact absurd h2 (by simp)

theorem keys_c {w : World} {bm : Nat} : Gives Tryz.prog 74 #[.map (some bm)] w fun u w' => Below w.heap.size w w' ∧ ∃ g, u = .func (.func 94) #[] [.pointer (some ⟨g, 0, none⟩)].toArray ∧ Blk w' g 94 [.map (some bm)] := by
  refine gives_of (vs := [.map (some bm)]) [(0, none, _)] Tryz.func74 rfl Tryz.ntmps74 rfl rfl ?_
  refine CW.seq (CW.region ?_)
  refine TW.box rfl rfl rfl rfl ?_
  rintro g w1 f1
  refine TW.assign rfl rfl rfl ct ?_
  refine TW.nil (KW.pick [0, 1, 2] [(0, _, _), (1, _, _), (2, _, _)] rfl (KW.then_ ?_))
  refine CW.seq (CW.region ?_)
  refine TW.makeFunc rfl rfl (Args.cons rfl ct Args.nil) ?_
  refine TW.assign rfl rfl rfl ct ?_
  refine TW.nil (KW.pick [0, 1, 2] [(0, _, _), (1, _, _), (2, _, _)] rfl (KW.then_ ?_))
  refine CW.ret ?_
  refine ret1 Tryz.results74 rfl (⟨f1.below, g, rfl, f1.blk⟩)

theorem IterOK.later {α : Type} {gf : FuncId} {cap : List Value} {enc : α → List Value} {Pos : List α → α → Prop} {Done : List α → Prop} {own : Nat → Prop} {w w' : World} (h : IterOK Tryz.prog gf cap enc Pos Done own w) (hb : Below w.heap.size w w') : IterOK Tryz.prog gf cap enc Pos Done own w' := by
  intro l J Jx W M h1 h2
  exact h l J Jx W M (fun k hk hlt => (h1 k hk (Nat.lt_of_lt_of_le hlt hb.size)).trans (hb.block k hlt)) (Nat.le_trans hb.size h2)

set_option maxRecDepth 20000 in
theorem appendSeq_c {w : World} {gf : FuncId} {cap : List Value} {Pos : List Int → Int → Prop} {Done : List Int → Prop} {own : Nat → Prop} (hit : IterOK Tryz.prog gf cap (fun x : Int => [.int .i64 x]) Pos Done own w) (hen : enters Tryz.prog gf = true) (hown : ∀ k, own k → k < w.heap.size) (hbd : ∀ pre x, Pos pre x → pre.length ≤ 1000000000) :
    Gives Tryz.prog 86 #[.slice none 0 0, .func (.func gf) #[] cap.toArray] w fun v w' => Below w.heap.size w w' ∧ ∃ xs, Done xs ∧ OwnS w' 3 1 v xs.length (xs.map (Value.int .i64)) ∧ ∀ g, v.ownBlock = some g → w.heap.size ≤ g := by
  refine gives_ofM (vs := [.slice none 0 0, .func (.func gf) #[] cap.toArray]) [(0, none, _), (1, none, _)] Tryz.func86 rfl Tryz.ntmps86 rfl rfl ?_
  refine CW.seq (CW.region ?_)
  refine TW.box rfl rfl rfl rfl ?_
  rintro g2 w1 f1
  refine TW.assign rfl rfl rfl ct ?_
  refine TW.nil (KW.pick [0, 1, 2, 4] [(0, _, _), (1, _, _), (2, _, _), (4, _, _)] rfl (KW.then_ ?_))
  refine CW.seq (CW.seq (CW.region ?_))
  refine TW.move rfl rfl rfl ct ?_
  refine TW.nil (KW.pick [0, 1, 2, 4, 6] [(0, _, _), (1, _, _), (2, _, _), (4, _, _), (6, _, _)] rfl (KW.then_ ?_))
  refine CW.block ?_
  have hg2 := f1.at_
  have hs1 := f1.size
  refine CW.range rfl hen (IterOK.later hit f1.below) rfl (fun _ => rfl)
    (fun pre M W => Below w.heap.size w W ∧ ∃ vf, Blk W g2 24 [vf] ∧ OwnS W 3 1 vf pre.length (pre.map (Value.int .i64)) ∧ (∀ q, vf.ownBlock = some q → w1.heap.size ≤ q) ∧ M = fun k => k = g2 ∨ vf.ownBlock = some k)
    (fun c pre M W => False) (fun k => k = g2)
    (fun k hk => by subst hk; exact ⟨by omega, fun h => by have := hown _ h; omega⟩) (fun k hk => by have := hown k hk; omega)
    (fun pre M W1 W2 ⟨a1, vf, a2, a3, a4, a5⟩ hx => ⟨(hx.less (by omega)).below a1 (Nat.le_refl _), vf, a2.ext hx, a3.ext hx, a4, a5⟩)
    (fun c pre M W1 W2 h hx => h)
    ⟨f1.below, .slice none 0 0, f1.blk, OwnS.nil _ _ _, fun q hq => by simp [Value.ownBlock] at hq, by funext k; simp [Value.ownBlock]⟩ ?_ ?_ ?_
  · rintro D L pre p M W hD hL ⟨a1, vf, a2, a3, a4, rfl⟩ hpos hMlt hML hMD hrec
    have hpl := hbd pre p hpos
    refine CW.region ?_
    refine TW.assign rfl rfl rfl ct ?_
    refine TW.nil (KW.pick [0, 1, 2, 4, 5, 7] [(0, _, _), (1, _, _), (2, _, _), (4, _, _), (5, _, _), (7, _, _)] rfl ?_)
    refine KW.begin hrec fun W2 hx hsz hk hrec2 => ?_
    have a2' : Blk W2 g2 24 [vf] := a2.ext hx
    have a3' := a3.ext hx
    have a1' : Below w.heap.size w W2 := (hx.less (by omega)).below a1 (Nat.le_refl _)
    refine CW.block (CW.region ?_)
    refine TW.load rfl rfl one24 rfl ct (fun _ => a2'.cell 0) ?_
    refine TW.move rfl rfl rfl ct ?_
    refine TW.buildSlice 3 _ rfl rfl rfl eo24 (Args.cons rfl ct Args.nil) rfl rfl rfl rfl rfl ?_
    rintro g3 w3 f3
    have o3 := a3'.below f3.below
    refine TW.append [.int .i64 p] rfl rfl go24 rfl o3 rfl rfl (fun j v hj => ⟨⟨g3, 0, none⟩, rfl, f3.blk.fld hj⟩) (fun v hv => by simp at hv; subst hv; rfl) (by omega) (by omega) ?_
    rintro vf' w4 o4 hg4 hn4
    have s3 := f3.below.size
    have hL2 : L < W2.heap.size := hrec2.lt
    have hvlt : ∀ q, vf.ownBlock = some q → q < W2.heap.size := fun q hq => a3'.lt hq
    have hLv : vf.ownBlock ≠ some L := fun e => hML (.inr e)
    have hDv : vf.ownBlock ≠ some D := fun e => hMD (.inr e)
    have hLg : L ≠ g2 := fun e => hML (.inl e)
    have hDg : D ≠ g2 := fun e => hMD (.inl e)
    have b4 : Blk w4 g2 24 [vf] := Blk.keptO (a2'.next f3.below) hg4 (fun e => by have := a4 _ e; omega)
    obtain ⟨A4, c4, hv4, _⟩ := o4.form
    have h14 : vf'.oneCell' = true := by rw [hv4]; rfl
    refine TW.store1 rfl sz24 rfl rfl (b4.cell 0) (b4.frozen 0) h14 ?_
    have rec4 : w4.heap[L]? = W2.heap[L]? := (hg4.block L (by omega) (fun e => hLv e.symm)).trans (f3.below.block L hL2)
    have hw4 : Below w.heap.size w w4 := (a1'.step f3.below).grown hg4 (a1'.step f3.below).size (fun q hq => by have := a4 q hq; omega)
    have hsz4 : W2.heap.size ≤ w4.heap.size := Nat.le_trans s3 hg4.size
    have hnew : ∀ q, vf'.ownBlock = some q → vf.ownBlock = some q ∨ q = w3.heap.size := fun q hq => by
      rcases hn4 with h | h
      · exact .inl (by rw [← h]; exact hq)
      · rw [h] at hq; cases hq; exact .inr rfl
    have hw1 : w1.heap.size ≤ W2.heap.size := by omega
    have o5 : OwnS (w4.setCell ⟨g2, 0, none⟩ vf') 3 1 vf' (pre.length + 1) (pre.map (Value.int .i64) ++ [.int .i64 p]) := o4.kept fun q hq => Below.heap_setCell _ _ _ _ (fun e => by
      have e : q = g2 := e
      rcases hnew q hq with h | h
      · have := a4 q h; omega
      · omega)
    refine KW.endN (hrec2.kept ((Below.heap_setCell _ _ _ _ (by show L ≠ g2; exact hLg)).trans rec4)) fun W5 hx5 hsz5 hk5 hrec5 => ?_
    have hs5 : W5.heap.size = w4.heap.size := by rw [hsz5]; simp
    refine ⟨by omega, fun k hk1 hk2 hk3 => ?_, fun _ => ⟨fun k => k = g2 ∨ vf'.ownBlock = some k, ⟨⟨(hx5.less (by omega)).below (hw4.setCell (by show w.heap.size ≤ g2; omega) _) (Nat.le_refl _), vf', (b4.set 0 vf').ext hx5, by simpa using o5.ext hx5, fun q hq => ?_, rfl⟩, fun h => ?_, fun h => ?_, hrec5⟩, fun k hk => ?_⟩, fun h => by cases h⟩
    · refine (hk5 k hk3).trans ((Below.heap_setCell _ _ _ _ (fun e => hk2 (.inl e))).trans ((hg4.block k (by omega) (fun e => hk2 (.inr e.symm))).trans ((f3.below.block k (by omega)).trans (hk k hk3))))
    · rcases hnew q hq with h | h
      · exact a4 q h
      · omega
    · rcases h with h | h
      · exact hLg h
      · rcases hnew L h with h | h
        · exact hLv h
        · omega
    · rcases h with h | h
      · exact hDg h
      · rcases hnew D h with h | h
        · exact hDv h
        · omega
    · rcases hk with rfl | hk
      · exact ⟨.inl (.inl rfl), by omega⟩
      · rcases hnew k hk with h | h
        · exact ⟨.inl (.inr h), by have := hvlt k h; omega⟩
        · refine ⟨.inr (by omega), ?_⟩
          have := o4.lt hk
          omega
  · rintro D xs M W hD hdone ⟨a1, vf, a2, a3, a4, rfl⟩ hdef
    refine KW.blockN (KW.then_ ?_)
    refine CW.seq (CW.region ?_)
    refine TW.load rfl rfl one24 rfl ct (fun _ => a2.cell 0) ?_
    refine TW.assign rfl rfl rfl ct ?_
    refine TW.nil (KW.pick [0, 1, 2, 4] [(0, _, _), (1, _, _), (2, _, _), (4, _, _)] rfl (KW.then_ ?_))
    refine CW.ret ?_
    have hgD : g2 ≠ D := fun e => by subst e; unfold Blk at a2; rw [hdef] at a2; cases a2
    refine ret1M Tryz.results86 rfl hdef ⟨Below.putCtl a1 (by omega), xs, hdone, a3.kept fun q hq => World.putObj_heap_other (fun e => ?_), fun q hq => by have := a4 q hq; omega⟩
    subst e
    rcases a3.2 with ⟨rfl, _⟩ | ⟨g', cap', cur, hv, _, hh, _⟩
    · simp [Value.ownBlock] at hq
    · rw [hv] at hq
      simp [Value.ownBlock] at hq
      subst hq
      rw [hdef] at hh
      cases hh
  · rintro D c pre M W hD h
    exact h.elim

theorem collect_c {w : World} {gf : FuncId} {cap : List Value} {Pos : List Int → Int → Prop} {Done : List Int → Prop} {own : Nat → Prop} (hit : IterOK Tryz.prog gf cap (fun x : Int => [.int .i64 x]) Pos Done own w) (hen : enters Tryz.prog gf = true) (hown : ∀ k, own k → k < w.heap.size) (hbd : ∀ pre x, Pos pre x → pre.length ≤ 1000000000) :
    Gives Tryz.prog 60 #[.func (.func gf) #[] cap.toArray] w fun v w' => Below w.heap.size w w' ∧ ∃ xs, Done xs ∧ OwnS w' 3 1 v xs.length (xs.map (Value.int .i64)) ∧ ∀ g, v.ownBlock = some g → w.heap.size ≤ g := by
  refine gives_of (vs := [.func (.func gf) #[] cap.toArray]) [(0, none, _)] Tryz.func60 rfl Tryz.ntmps60 rfl rfl ?_
  refine CW.seq (CW.region ?_)
  refine TW.assign rfl rfl rfl ct ?_
  refine TW.nil (KW.pick [0, 2] [(0, _, _), (2, _, _)] rfl (KW.then_ ?_))
  refine CW.seq (CW.region ?_)
  refine TW.move rfl rfl rfl ct ?_
  refine TW.call0 (cap := []) rfl rfl en86 rfl (Args.cons rfl ct (Args.cons rfl ct Args.nil)) (appendSeq_c hit hen hown hbd) ?_
  rintro y1 w1 h1
  refine TW.assign rfl rfl rfl ct ?_
  refine TW.nil (KW.pick [0, 2] [(0, _, _), (2, _, _)] rfl (KW.then_ ?_))
  refine CW.ret ?_
  refine ret1 Tryz.results60 rfl (h1)

theorem sorted_c {w : World} {gf : FuncId} {cap : List Value} {Pos : List Int → Int → Prop} {Done : List Int → Prop} {own : Nat → Prop} (hit : IterOK Tryz.prog gf cap (fun x : Int => [.int .i64 x]) Pos Done own w) (hen : enters Tryz.prog gf = true) (hown : ∀ k, own k → k < w.heap.size) (hbd : ∀ pre x, Pos pre x → pre.length ≤ 1000000000) (hdb : ∀ xs, Done xs → xs.length ≤ 1000000000) :
    Gives Tryz.prog 73 #[.func (.func gf) #[] cap.toArray] w fun v w' => Below w.heap.size w w' ∧ ∃ xs, Done xs ∧ OwnS w' 3 1 v xs.length ((xs.mergeSort fun x y => decide (x ≤ y)).map (Value.int .i64)) ∧ ∀ g, v.ownBlock = some g → w.heap.size ≤ g := by
  refine gives_of (vs := [.func (.func gf) #[] cap.toArray]) [(0, none, _)] Tryz.func73 rfl Tryz.ntmps73 rfl rfl ?_
  refine CW.seq (CW.region ?_)
  refine TW.assign rfl rfl rfl ct ?_
  refine TW.nil (KW.pick [0, 2] [(0, _, _), (2, _, _)] rfl (KW.then_ ?_))
  refine CW.seq (CW.region ?_)
  refine TW.move rfl rfl rfl ct ?_
  refine TW.call0 (cap := []) rfl rfl en60 rfl (Args.cons rfl ct Args.nil) (collect_c hit hen hown hbd) ?_
  rintro y1 w1 ⟨hb1, xs, hd, hO, hg⟩
  refine TW.assign rfl rfl rfl ct ?_
  refine TW.nil (KW.pick [0, 2, 3] [(0, _, _), (2, _, _), (3, _, _)] rfl (KW.then_ ?_))
  refine CW.seq (CW.region ?_)
  refine TW.move rfl rfl rfl ct ?_
  have hxl : xs.length < 4611686018427387904 := by have := hdb xs hd; omega
  refine TW.call0 (cap := []) rfl rfl en62 rfl (Args.cons rfl ct Args.nil) (sort_c hO hxl) ?_
  rintro y2 w2 ⟨hg2, hO2⟩
  refine TW.nil (KW.pick [0, 2, 3] [(0, _, _), (2, _, _), (3, _, _)] rfl (KW.then_ ?_))
  refine CW.seq (CW.region ?_)
  refine TW.move rfl rfl rfl ct ?_
  refine TW.assign rfl rfl rfl ct ?_
  refine TW.nil (KW.pick [0, 2, 3] [(0, _, _), (2, _, _), (3, _, _)] rfl (KW.then_ ?_))
  refine CW.ret ?_
  refine ret1 Tryz.results73 rfl (⟨hb1.grown hg2 hb1.size hg, xs, hd, hO2, hg⟩)

/-! ### recordsOf -/
/-- the count of the records seen -/
def Cnts (w : World) (b : Nat) (S : List Int) (T : Int) : Prop := ∃ m, MapL intK w b m ∧ (∀ x, x ∈ m.map (·.1) ↔ x ∈ S) ∧ ∀ p ∈ m, ∃ c : Int, p.2 = .int .i64 c ∧ 0 ≤ c ∧ c ≤ T

set_option maxRecDepth 20000 in
theorem recordsOf_c {w : World} {v : Value} {l : List Ev} (hl : SE w v l) (hsm : l.length ≤ 1000) (hne : ∀ e ∈ l, e.needs.length ≤ 1000) :
    Gives Tryz.prog 44 #[v] w fun x w' => Below w.heap.size w w' ∧ OwnS w' 3 1 x (recsS l).length ((recsS l).map (Value.int .i64)) ∧ ∀ g, x.ownBlock = some g → w.heap.size ≤ g := by
  obtain ⟨A, cap, rfl, _⟩ := hl.form
  refine gives_of (vs := [.slice A l.length cap]) [(0, none, _)] Tryz.func44 rfl Tryz.ntmps44 rfl rfl ?_
  refine CW.seq (CW.region ?_)
  refine TW.assign rfl rfl rfl ct ?_
  refine TW.nil (KW.pick [0, 2] [(0, _, _), (2, _, _)] rfl (KW.then_ ?_))
  refine CW.seq (CW.region ?_)
  refine TW.makeMapL intK rfl rfl ?_
  rintro b w1 hbw hw1 hb1 hM1
  refine TW.assign rfl rfl rfl ct ?_
  refine TW.nil (KW.pick [0, 2, 3] [(0, _, _), (2, _, _), (3, _, _)] rfl (KW.then_ ?_))
  refine CW.seq (CW.seq (CW.region ?_))
  refine TW.move rfl rfl rfl ct ?_
  refine TW.lenSlice rfl rfl Tryz.underlying23 rfl ct ?_
  refine TW.move rfl rfl rfl ct ?_
  refine TW.nil (KW.pick [0, 2, 3, 9, 10, 11] [(0, _, _), (2, _, _), (3, _, _), (9, _, _), (10, _, _), (11, _, _)] rfl (KW.then_ ?_))
  refine CW.block ?_
  refine CW.loopS (fun i : Nat => [(3, none, .map (some b)), (9, none, .slice A l.length cap), (10, none, .int .i64 (l.length : Int)), (11, none, .int .i64 (i : Int))])
    (fun i W => i ≤ l.length ∧ But b w1 W ∧ Cnts W b (needsOf (l.take i)) (i * 1000)) (fun i => l.length - i) 0 [3, 9, 10, 11] ⟨Nat.zero_le _, But.of_below (Below.refl _ _), [], hM1, fun x => by simp [needsOf], fun p hp => by cases hp⟩ rfl ?_
  rintro i W ⟨hi, hbut, hC⟩
  have hbW : Below w.heap.size w W := But.below hb1 hbut (by omega)
  refine CW.seq (CW.region ?_)
  refine TW.lss rfl rfl rfl ct rfl ct ?_
  refine TW.nil (KW.pick [3, 9, 10, 11, 12] [(3, _, _), (9, _, _), (10, _, _), (11, _, _), (12, _, _)] rfl (KW.then_ ?_))
  refine CW.seq ?_
  refine CW.condP rfl (fun hlt => ?_) (fun hge => ?_)
  · have hil : i < l.length := by omega
    have hlW := se_step hl hbW
    obtain ⟨ad, rfl⟩ := hlW.addr (by omega)
    obtain ⟨e, he⟩ : ∃ e, l[i]? = some e := ⟨l[i], List.getElem?_eq_getElem hil⟩
    obtain ⟨nv, hcells, i1, i2, i3, hneeds⟩ := SE.get hlW he
    obtain ⟨C, ncap, rfl, _⟩ := hneeds.form
    have hnl := hne e (List.mem_of_getElem? he)
    refine CW.skip (KW.then_ (CW.seq (CW.block (CW.seq (CW.region ?_)))))
    refine TW.indexAddr rfl rfl Tryz.underlying23 sz43 rfl ct rfl ct (fun _ => by (try dsimp only); omega) ?_
    refine TW.loadS _ rfl rfl Tryz.underlying43 sz43 rfl ct (fun _ => hcells) rfl ?_
    refine TW.newVar rfl zc43 rfl sz43 rfl rfl ?_
    rintro g2 w2 f2
    refine TW.nil (KW.pick [3, 5, 9, 10, 11] [(3, _, _), (5, _, _), (9, _, _), (10, _, _), (11, _, _)] rfl (KW.then_ ?_))
    refine CW.seq (CW.region ?_)
    refine TW.fieldAddr rfl rfl fo43_3 rfl ct ?_
    refine TW.load rfl rfl one24 rfl ct (fun _ => f2.blk.fld rfl) ?_
    refine TW.lenSlice rfl rfl Tryz.underlying24 rfl ct ?_
    refine TW.move rfl rfl rfl ct ?_
    refine TW.nil (KW.pick [3, 5, 9, 10, 11, 16, 17, 18] [(3, _, _), (5, _, _), (9, _, _), (10, _, _), (11, _, _), (16, _, _), (17, _, _), (18, _, _)] rfl (KW.then_ ?_))
    refine CW.block ?_
    refine CW.loopS (fun j : Nat => [(3, none, .map (some b)), (9, none, .slice (some ad) l.length cap), (10, none, .int .i64 (l.length : Int)), (11, none, .int .i64 (i : Int)), (16, none, .slice C e.needs.length ncap), (17, none, .int .i64 (e.needs.length : Int)), (18, none, .int .i64 (j : Int))])
      (fun j W' => j ≤ e.needs.length ∧ But b w1 W' ∧ But b w2 W' ∧ Cnts W' b (needsOf (l.take i) ++ e.needs.take j) (i * 1000 + j)) (fun j => e.needs.length - j) 0 [3, 9, 10, 11, 16, 17, 18] ⟨Nat.zero_le _, hbut.step f2.below, But.of_below (Below.refl _ _), ?_⟩ rfl ?_
    · obtain ⟨m, h1, h2, h3⟩ := hC
      exact ⟨m, h1.below f2.below, by simpa using h2, by simpa using h3⟩
    rintro j W' ⟨hj, hbut1, hbut2, m, hm, hmk, hmv⟩
    have hbW' : Below w.heap.size w W' := But.below hb1 hbut1 (by omega)
    refine CW.seq (CW.region ?_)
    refine TW.lss rfl rfl rfl ct rfl ct ?_
    refine TW.nil (KW.pick [3, 9, 10, 11, 16, 17, 18, 19] [(3, _, _), (9, _, _), (10, _, _), (11, _, _), (16, _, _), (17, _, _), (18, _, _), (19, _, _)] rfl (KW.then_ ?_))
    refine CW.seq ?_
    refine CW.condP rfl (fun hlt2 => ?_) (fun hge2 => ?_)
    · have hjl : j < e.needs.length := by omega
      have hn' : SL intT (fun k => k < w.heap.size) W' (.slice C e.needs.length ncap) e.needs := by
        obtain ⟨nv', hcells', _, _, _, hneeds'⟩ := SE.get hl he
        have hcw := hcells' 3 nv' rfl
        have hcW := (hbW.cell (block_lt_of_cell hcw)).trans hcw
        have := hcells 3 _ rfl
        rw [hcW] at this
        cases this
        exact hneeds'.below hbW'
      obtain ⟨ad2, rfl⟩ := hn'.addr (by omega)
      have hx : e.needs[j]? = some e.needs[j] := List.getElem?_eq_getElem hjl
      refine CW.skip (KW.then_ (CW.seq (CW.block (CW.seq (CW.region ?_)))))
      refine TW.indexAddr rfl rfl Tryz.underlying24 sz3 rfl ct rfl ct (fun _ => by (try dsimp only); omega) ?_
      refine TW.load rfl rfl one3 rfl ct (fun _ => hn'.getI hx) ?_
      refine TW.assign rfl rfl rfl ct ?_
      refine TW.nil (KW.pick [3, 7, 9, 10, 11, 16, 17, 18] [(3, _, _), (7, _, _), (9, _, _), (10, _, _), (11, _, _), (16, _, _), (17, _, _), (18, _, _)] rfl (KW.then_ ?_))
      refine CW.region ?_
      refine TW.move rfl rfl rfl ct ?_
      refine TW.move rfl rfl rfl ct ?_
      refine TW.lookup1 intK e.needs[j] rfl rfl Tryz.underlying94 ze3 rfl rfl hm ?_
      rintro vc hvc
      obtain ⟨c, rfl, hc0, hc1⟩ : ∃ c : Int, vc = .int .i64 c ∧ 0 ≤ c ∧ c ≤ i * 1000 + j := by
        rcases hvc with h | ⟨_, rfl⟩
        · exact hmv _ h
        · exact ⟨0, rfl, by omega, by omega⟩
      refine TW.add rfl rfl rfl ct rfl ct (fun _ => by (try dsimp only); omega) ?_
      refine TW.mapUpdateL intK e.needs[j] rfl Tryz.underlying94 rfl rfl rfl hm ?_
      rintro w4 hs4 hbut4 hM4
      refine TW.nil (KW.pick [3, 7, 9, 10, 11, 16, 17, 18] [(3, _, _), (7, _, _), (9, _, _), (10, _, _), (11, _, _), (16, _, _), (17, _, _), (18, _, _)] rfl (KW.blockN (KW.then_ ?_)))
      refine CW.region ?_
      refine TW.add rfl rfl rfl ct rfl ct (fun _ => by (try dsimp only); omega) ?_
      refine TW.move rfl rfl rfl ct ?_
      refine TW.nil (KW.pick [3, 7, 9, 10, 11, 16, 17, 18] [(3, _, _), (7, _, _), (9, _, _), (10, _, _), (11, _, _), (16, _, _), (17, _, _), (18, _, _)] rfl ?_)
      refine KW.round (j + 1) [3, 9, 10, 11, 16, 17, 18] rfl ⟨by omega, hbut1.trans hbut4, hbut2.trans hbut4, _, hM4, fun x => ?_, fun p hp => ?_⟩ (by omega)
      · rw [List.take_add_one, hx, ← List.append_assoc, List.mem_append, ← hmk x, List.mem_map, List.mem_map]
        constructor
        · rintro ⟨p, hp, rfl⟩
          rcases mem_lput.1 hp with rfl | ⟨h, _⟩
          · exact .inr (by simp)
          · exact .inl ⟨p, h, rfl⟩
        · rintro (⟨p, hp, rfl⟩ | h)
          · by_cases hpe : p.1 = e.needs[j]
            · exact ⟨_, mem_lput.2 (.inl rfl), hpe.symm⟩
            · exact ⟨p, mem_lput.2 (.inr ⟨hp, hpe⟩), rfl⟩
          · simp at h
            exact ⟨_, mem_lput.2 (.inl rfl), h.symm⟩
      · rcases mem_lput.1 hp with rfl | ⟨h, _⟩
        · exact ⟨c + 1, rfl, by omega, by omega⟩
        · obtain ⟨c', h1, h2, h3⟩ := hmv p h
          exact ⟨c', h1, h2, by omega⟩
    · refine CW.exit (KW.thenX (KW.thenX (KW.blockX (KW.blockN (KW.then_ (CW.region ?_))))))
      refine TW.add rfl rfl rfl ct rfl ct (fun _ => by (try dsimp only); omega) ?_
      refine TW.move rfl rfl rfl ct ?_
      refine TW.nil (KW.pick [3, 9, 10, 11, 16, 17, 18] [(3, _, _), (9, _, _), (10, _, _), (11, _, _), (16, _, _), (17, _, _), (18, _, _)] rfl ?_)
      refine KW.round (i + 1) [3, 9, 10, 11] rfl ⟨by omega, hbut1, m, hm, fun x => ?_, fun p hp => ?_⟩ (by omega)
      · rw [hmk x, show j = e.needs.length by omega, List.take_length, List.take_add_one, he]
        simp [needsOf, List.flatMap_append]
      · obtain ⟨c', h1, h2, h3⟩ := hmv p hp
        exact ⟨c', h1, h2, by omega⟩
  · obtain ⟨m, hm, hmk, hmv⟩ := hC
    rw [show i = l.length by omega, List.take_length] at hmk
    have hmlen : m.length ≤ 1000000 := by
      have h1 := nodup_len (l := m.map (·.1)) (k := needsOf l) hm.keys (fun x hx => (hmk x).1 hx)
      have h2 : ∀ (q : List Ev), (∀ e ∈ q, e.needs.length ≤ 1000) → (needsOf q).length ≤ q.length * 1000 := by
        intro q
        induction q with
        | nil => intro _; simp [needsOf]
        | cons a q ih =>
          intro hq
          have := ih (fun e he => hq e (by simp [he]))
          have h3 := hq a (by simp)
          unfold needsOf at this ⊢
          simp only [List.flatMap_cons, List.length_append, List.length_cons]
          omega
      have := h2 l hne
      simp at h1
      omega
    refine CW.exit (KW.thenX (KW.thenX (KW.blockX (KW.then_ (CW.seq (CW.region ?_))))))
    refine TW.move rfl rfl rfl ct ?_
    refine TW.call0 (cap := []) rfl rfl en74 rfl (Args.cons rfl ct Args.nil) (keys_c) ?_
    rintro y5 w5 ⟨hb5, g5, rfl, hB5⟩
    have q1 : ∀ k, (k = g5 ∨ k = b) → k < w5.heap.size := fun k hk => by
      rcases hk with rfl | rfl
      · exact hB5.lt
      · exact (hm.below hb5).lt
    have q2 : ∀ pre x, keyPos (m.map (·.1)) pre x → pre.length ≤ 1000000000 := fun pre x hp => by
      have := nodup_len (l := pre ++ [x]) (k := m.map (·.1)) hp.1 hp.2
      simp at this
      omega
    have q3 : ∀ xs, keyAll (m.map (·.1)) xs → xs.length ≤ 1000000000 := fun xs hx => by
      have := nodup_len (l := xs) (k := m.map (·.1)) hx.1 (fun y hy => (hx.2 y).1 hy)
      simp at this
      omega
    refine TW.call0 (cap := []) rfl rfl en73 rfl (Args.cons rfl ct Args.nil) (sorted_c (keys_iter hB5 (hm.below hb5)) en94 q1 q2 q3) ?_
    rintro y6 w6 ⟨hb6, xs, hxs, hO6, hg6⟩
    have hrec : recsS l = xs.mergeSort fun x y => decide (x ≤ y) := by
      refine inc_ext (recsS_inc l) (inc_sorted hxs.1) (fun x => ?_)
      rw [List.mem_mergeSort, hxs.2 x, hmk x, mem_recsS]
      unfold needsOf
      rw [List.mem_flatMap]
    refine TW.assign rfl rfl rfl ct ?_
    refine TW.nil (KW.pick [2, 3, 9, 10, 11] [(2, _, _), (3, _, _), (9, _, _), (10, _, _), (11, _, _)] rfl (KW.then_ ?_))
    refine CW.ret ?_
    refine ret1 Tryz.results44 rfl (⟨(hbW.step hb5).step hb6, ?_, fun q hq => by have := hg6 q hq; have := hb5.size; have := hbW.size; omega⟩)
    rw [hrec, List.length_mergeSort]
    exact hO6
end Go.Proofs.YtmhfeehkpndadaaGreat

/- Loops whose rounds leave marks of ranges behind. -/
namespace Go.PF
open Go.RowKit
section
variable {P : Program} {r : Option Nat} {Q : Exit → Act → World → Prop} {N : Nat} {ds : List Deferred}
/-- The loop: 'E x', 'J x w': what holds at a round's head for the ghost x; 'm x': a measure. -/
theorem CW.loopD0 {α : Type} {c : Code} {E0 : Env} {w : World} (Dd : α → List Deferred) (E : α → Env) (J : α → World → Prop) (m : α → Nat) (x0 : α) (h0 : J x0 w) (hE : ∀ a, Fit N ds E0 a → Fit N (Dd x0) (E x0) a)
    (round : ∀ x w, J x w → CW P r (Exit.then (fun a' w' => ∃ x', Fit N (Dd x') (E x') a' ∧ J x' w' ∧ m x' < m x) Q) N (Dd x) c (E x) w) : CW P r Q N ds (.loop c) E0 w := by
  classical
  intro a ha
  let I : Act → World → Prop := fun a w => ∃ x, Fit N (Dd x) (E x) a ∧ J x w
  let M : Act → World → Nat → Prop := fun a w n => ∃ x, Fit N (Dd x) (E x) a ∧ J x w ∧ m x = n
  -- the least measure of a ghost that fits
  have hex : ∀ a w, I a w → ∃ n, M a w n ∧ ∀ k, M a w k → n ≤ k := by
    intro a w ⟨x, h1, h2⟩
    have key : ∀ k, (∃ j, j ≤ k ∧ M a w j) → ∃ n, M a w n ∧ ∀ k, M a w k → n ≤ k := by
      intro k
      induction k with
      | zero =>
        rintro ⟨j, hj, hm⟩
        have : j = 0 := by omega
        subst this
        exact ⟨0, hm, fun k _ => Nat.zero_le k⟩
      | succ k ih =>
        rintro ⟨j, hj, hm⟩
        by_cases hk : ∃ j, j ≤ k ∧ M a w j
        · exact ih hk
        · refine ⟨j, hm, fun i hi => ?_⟩
          rcases Nat.lt_or_ge i j with hlt | hge
          · exact absurd ⟨i, by omega, hi⟩ hk
          · exact hge
    exact key (m x) ⟨m x, Nat.le_refl _, x, h1, h2, rfl⟩
  let μ : Act → World → Nat := fun a w => if h : I a w then Classical.choose (hex a w h) else 0
  have hμ : ∀ a w, I a w → ∃ x, Fit N (Dd x) (E x) a ∧ J x w ∧ m x = μ a w := by
    intro a w h
    have := (Classical.choose_spec (hex a w h)).1
    simpa [μ, h] using this
  have hμle : ∀ a w x, Fit N (Dd x) (E x) a → J x w → μ a w ≤ m x := by
    intro a w x h1 h2
    have hI : I a w := ⟨x, h1, h2⟩
    have := (Classical.choose_spec (hex a w hI)).2 (m x) ⟨x, h1, h2, rfl⟩
    simpa [μ, hI] using this
  refine wpIn_loop I μ ⟨x0, hE a ha, h0⟩ fun a1 w1 hI => ?_
  obtain ⟨x, h1, h2, h3⟩ := hμ a1 w1 hI
  refine wpIn_mono (round x w1 h2 a1 h1) fun e a2 w2 hq => ?_
  cases e with
  | normal =>
    obtain ⟨x', q1, q2, q3⟩ := hq
    exact ⟨⟨x', q1, q2⟩, by rw [← h3]; exact Nat.lt_of_le_of_lt (hμle a2 w2 x' q1 q2) q3⟩
  | _ => exact hq


def markOf (D : Nat) : Deferred := { target := .collected D, args := #[] }
/-- The loop, by slots, with marks. -/
theorem CW.loopD {α : Type} {c : Code} {E : Env} {w : World} (Dd : α → List Deferred) (F : α → Env) (J : α → World → Prop) (m : α → Nat) (x0 : α) (is : List Nat) (hD : Dd x0 = ds) (h0 : J x0 w) (hE : PF.pick E is = some (F x0))
    (round : ∀ x w, J x w → CW P r (Exit.then (fun a' w' => ∃ x', Fit N (Dd x') (F x') a' ∧ J x' w' ∧ m x' < m x) Q) N (Dd x) c (F x) w) : CW P r Q N ds (.loop c) E w :=
  CW.loopD0 Dd F J m x0 h0 (fun _ ha => by rw [hD]; exact ha.pick hE) round
theorem KW.roundD {α : Type} {E : Env} {w : World} {Dd : α → List Deferred} {F : α → Env} {J : α → World → Prop} {m : α → Nat} {x : α} (x' : α) (is : List Nat) (hD : Dd x' = ds) (hp : PF.pick E is = some (F x')) (hJ : J x' w) (hm : m x' < m x) :
    KW N ds (Exit.then (fun a' w' => ∃ x', Fit N (Dd x') (F x') a' ∧ J x' w' ∧ m x' < m x) Q .normal) E w :=
  fun _ ha => ⟨x', by rw [hD]; exact ha.pick hp, hJ, hm⟩

variable {fn : Func} {R : Value → World → Prop} {E : Env} {w : World}
theorem leaves_marks (hres : fn.results = #[]) {tmps : Array Value} {n : Nat} : ∀ (Ds : List Nat) (w : World), Ds.Nodup → (∀ D ∈ Ds, n ≤ D ∧ w.heap[D]? = some (.deferred (some []))) → (∀ w', ExtF n w w' → R (.tuple #[]) w') →
    LeavesInM (FR none) 0 P fn tmps (fun e w' => ∃ v, e = .returned v ∧ R v w') (Ds.map markOf) .returning w
  | [], w, _, _, hR => ⟨.tuple #[], results_none hres _ _ _, .tuple #[], rfl, hR w (ExtF.refl _ _)⟩
  | D :: Ds, w, hn, hD, hR => by
    have hn' := List.nodup_cons.1 hn
    obtain ⟨h1, h2⟩ := hD D (by simp)
    have hext : ExtF n w (w.putObj D (.deferred none)) := ExtF.putObj h2 rfl h1
    refine ⟨by simp, .inl ⟨D, _, rfl, run_takeDeferred h2, ?_⟩⟩
    refine leaves_marks hres Ds _ hn'.2 (fun D' hD' => ?_) (fun w' hx => hR w' (hext.trans hx))
    obtain ⟨h3, h4⟩ := hD D' (by simp [hD'])
    exact ⟨h3, (World.putObj_heap_other (fun e => hn'.1 (by rw [← e]; exact hD'))).trans h4⟩
/-- Leaving a function without results, with marks. -/
theorem retMs {n : Nat} (Ds : List Nat) (hres : fn.results = #[]) (hn : Ds.Nodup) (hD : ∀ D ∈ Ds, n ≤ D ∧ w.heap[D]? = some (.deferred (some []))) (hR : ∀ w', ExtF n w w' → R (.tuple #[]) w') (e : Exit) (he : e = .ret ∨ e = .normal) :
    KW N (Ds.map markOf) (bodyPostM (FR none) 0 P fn (fun e w' => ∃ v, e = .returned v ∧ R v w') e) E w := by
  intro a ha
  have key : LeavesInM (FR none) 0 P fn a.tmps (fun e w' => ∃ v, e = .returned v ∧ R v w') a.defers .returning w := by
    rw [ha.defers]
    exact leaves_marks hres Ds w hn hD hR
  rcases he with rfl | rfl
  · exact key
  · exact key
theorem ret2M0 {s t : Nat} {v u : Value} (hres : fn.results = #[.tmp s, .tmp t]) (hs : look E s = some (none, v)) (ht : look E t = some (none, u)) (hR : R (.tuple #[v, u]) w) : KW N [] (bodyPostM (FR none) 0 P fn (fun e w' => ∃ v, e = .returned v ∧ R v w') .ret) E w := by
  intro a ha
  have key : LeavesInM (FR none) 0 P fn a.tmps (fun e w' => ∃ v, e = .returned v ∧ R v w') a.defers .returning w := by
    rw [ha.defers]
    exact ⟨.tuple #[v, u], by rw [results_tmp2 hres a.tmps P w, (ha.slots s none v hs).1 trivial, (ha.slots t none u ht).1 trivial], _, rfl, hR⟩
  exact key
theorem ret2M {D s t : Nat} {v u : Value} (hres : fn.results = #[.tmp s, .tmp t]) (hs : look E s = some (none, v)) (ht : look E t = some (none, u)) (hD : w.heap[D]? = some (.deferred (some []))) (hR : R (.tuple #[v, u]) (w.putObj D (.deferred none))) :
    KW N ({ target := .collected D, args := #[] } :: []) (bodyPostM (FR none) 0 P fn (fun e w' => ∃ v, e = .returned v ∧ R v w') .ret) E w :=
  retM (fun a W ha _ => by rw [results_tmp2 hres a.tmps P W, (ha.slots s none v hs).1 trivial, (ha.slots t none u ht).1 trivial]) hD hR .ret (.inl rfl)
theorem Sats.eight {e1 e2 e3 e4 e5 e6 e7 e8 : Ent} {vs : List Value} {w : World} (h : Sats [e1, e2, e3, e4, e5, e6, e7, e8] vs w) : ∃ a b c d e f g i, vs = [a, b, c, d, e, f, g, i] ∧ e1.sat a w ∧ e2.sat b w ∧ e3.sat c w ∧ e4.sat d w ∧ e5.sat e w ∧ e6.sat f w ∧ e7.sat g w ∧ e8.sat i w := by
  match vs, h with
  | [a, b, c, d, e, f, g, i], ⟨h1, h2, h3, h4, h5, h6, h7, h8, _⟩ => exact ⟨a, b, c, d, e, f, g, i, rfl, h1, h2, h3, h4, h5, h6, h7, h8⟩
end
end Go.PF

namespace Go.Proofs.YtmhfeehkpndadaaGreat
open Go.PF Go.RowKit Go.Ord

theorem SL.dropS {α : Type} {T : Ty α} {F : Nat → Prop} {w : World} {A : Option Addr} {n c : Nat} {l : List α} (h : SL T F w (.slice A n c) l) {i : Nat} (hi : i ≤ l.length) : SL T F w (.slice (if c = i then A else A.map (·.add (i * T.n))) (n - i) (c - i)) (l.drop i) := by
  obtain ⟨A', c', hv, h1, h2, h3⟩ := h
  simp only [Value.slice.injEq] at hv
  obtain ⟨rfl, rfl, rfl⟩ := hv
  refine ⟨_, _, by rw [List.length_drop], by rw [List.length_drop]; omega, by rw [List.length_drop]; omega, fun j x hx => ?_⟩
  rw [List.getElem?_drop] at hx
  have hlt := (List.getElem?_eq_some_iff.1 hx).1
  obtain ⟨ad, cs, rfl, hF, hc, hr⟩ := h3 (i + j) x hx
  rw [if_neg (by omega)]
  refine ⟨ad.add (i * T.n), cs, rfl, by rw [add_block]; exact hF, fun k u hu => ?_, hr⟩
  have := hc k u hu
  rw [add_add ad (i * T.n) (j * T.n), ← Nat.add_mul]
  exact this

/-- what sets returns -/
def SetsV (b : Nat) (v : Value) (n : Nat) (u : Value) (W : World) : Prop := ∃ gs gl, u = .func (.func 75) #[] [.pointer (some ⟨gs, 0, none⟩), .pointer (some ⟨gl, 0, none⟩)].toArray ∧ Blk W gs 3 [.int .i64 (n : Int)] ∧ Blk W gl 24 [v] ∧ b ≤ gs ∧ b ≤ gl
theorem SetsV.mono (b : Nat) (v : Value) (n : Nat) : Ent.mono (.pr (SetsV b v n)) := fun _ _ _ hb ⟨gs, gl, h1, h2, h3, h4⟩ => ⟨gs, gl, h1, h2.next hb, h3.next hb, h4⟩

theorem sets_c {w : World} {A : Option Addr} {k c n : Nat} : Gives Tryz.prog 45 #[.slice A k c, .int .i64 (n : Int)] w fun u w' => Below w.heap.size w w' ∧ SetsV w.heap.size (.slice A k c) n u w' := by
  refine gives_of (vs := [.slice A k c, .int .i64 (n : Int)]) [(0, none, _), (1, none, _)] Tryz.func45 rfl Tryz.ntmps45 rfl rfl ?_
  refine CW.seq (CW.region ?_)
  refine TW.box rfl rfl rfl rfl ?_
  rintro g1 w1 f1
  refine TW.box rfl rfl rfl rfl ?_
  rintro g2 w2 f2
  refine TW.assign rfl rfl rfl ct ?_
  refine TW.nil (KW.pick [0, 1, 2, 3, 4] [(0, _, _), (1, _, _), (2, _, _), (3, _, _), (4, _, _)] rfl (KW.then_ ?_))
  refine CW.seq (CW.region ?_)
  refine TW.makeFunc rfl rfl (Args.cons rfl ct (Args.cons rfl ct Args.nil)) ?_
  refine TW.assign rfl rfl rfl ct ?_
  refine TW.nil (KW.pick [0, 1, 2, 3, 4] [(0, _, _), (1, _, _), (2, _, _), (3, _, _), (4, _, _)] rfl (KW.then_ ?_))
  refine CW.ret ?_
  refine ret1 Tryz.results45 rfl (⟨f1.below.step f2.below, g2, g1, rfl, f2.blk, f1.blk.next f2.below, ?_, ?_⟩)
  · have := f2.at_; have := f1.below.size; omega
  · have := f1.at_; omega

def setPos (l : List Int) (n : Nat) (w : World) (pre : List (Value × List Int)) (x : Value × List Int) (M : Nat → Prop) (W : World) : Prop := (∃ suf, setsS l n = pre.map (·.2) ++ x.2 :: suf) ∧ SL intT (fun k => w.heap.size ≤ k ∧ ¬ M k) W x.1 x.2

set_option maxRecDepth 20000 in
set_option maxHeartbeats 1000000 in
theorem sets_iter : ∀ (n : Nat) {F : Nat → Prop} {v : Value} {l : List Int} {w : World} {gs gl : Nat}, SL intT F w v l → (∀ k, F k → k < w.heap.size) → n ≤ l.length → l.length ≤ 1000 → Blk w gs 3 [.int .i64 (n : Int)] → Blk w gl 24 [v] →
    IterW Tryz.prog 75 [.pointer (some ⟨gs, 0, none⟩), .pointer (some ⟨gl, 0, none⟩)] (fun x : Value × List Int => [x.1]) (setPos l n w) (fun xs => xs.map (·.2) = setsS l n) (fun k => k = gs ∨ k = gl ∨ F k) w := by
  intro n
  induction n with
  | zero =>
    intro F v l w gs gl hl hF hn hsm hgs hgl yl J Jx W M hown hsz hyl hM hMlt hJ hJx hy h0
    have hgsW : Blk W gs 3 [.int .i64 ((0 : Nat) : Int)] := (hown gs (.inl rfl) hgs.lt).trans hgs
    refine gives_ofM (vs := [.func (.yield yl) #[] #[], .pointer (some ⟨gs, 0, none⟩), .pointer (some ⟨gl, 0, none⟩)]) [(0, none, _), (1, none, _), (2, none, _)] Tryz.func75 rfl Tryz.ntmps75 rfl rfl ?_
    refine CW.seq (CW.region ?_)
    refine TW.box rfl rfl rfl rfl ?_
    rintro g3 w1 f1
    refine TW.nil (KW.pick [0, 1, 2, 3] [(0, _, _), (1, _, _), (2, _, _), (3, _, _)] rfl (KW.then_ ?_))
    refine CW.seq (CW.seq (CW.region ?_))
    refine TW.load rfl rfl one3 rfl ct (fun _ => (hgsW.next f1.below).cell 0) ?_
    refine TW.eql rfl rfl rfl ct rfl ct ?_
    refine TW.nil (KW.pick [0, 1, 2, 3, 7] [(0, _, _), (1, _, _), (2, _, _), (3, _, _), (7, _, _)] rfl (KW.then_ ?_))
    refine CW.condP rfl (fun h1 => ?_) (fun h2 => ?_)
    · refine CW.seq (CW.region ?_)
      refine TW.load rfl rfl one48 rfl ct (fun _ => f1.blk.cell 0) ?_
      refine TW.buildSlice0 3 rfl rfl eo24 ?_
      rintro g4 w2 f2
      have hb2 := f1.below.step f2.below
      have hj2 : J [] M w2 := hJ _ _ _ _ h0 (.of_below hb2)
      have hs2 := hb2.size
      have hset0 : setsS l 0 = [[]] := by cases l <;> rfl
      refine TW.yield rfl rfl rfl (Args.cons rfl ct Args.nil) (hy [] (.slice (some ⟨g4, 0, none⟩) 0 0, []) M w2 hj2 ⟨⟨[], by rw [hset0]; rfl⟩, ⟨_, _, rfl, Nat.le_refl _, by simp, fun i x hx => by simp at hx⟩⟩ (fun k hk => by have := hMlt k hk; omega) (by omega)) ?_
      rintro yb W3 hR
      refine TW.nil (KW.pick [0, 1, 2, 3] [(0, _, _), (1, _, _), (2, _, _), (3, _, _)] rfl (KW.then_ ?_))
      refine CW.ret (KW.thenR ?_)
      refine retMs (n := W.heap.size) [] Tryz.results75 List.nodup_nil (fun D hD => by cases hD) (fun w' hx => ?_) .ret (.inl rfl)
      cases yb with
      | true =>
        obtain ⟨M', hj3, _⟩ := hR.yes rfl
        exact .inl ⟨_, M', by rw [hset0]; rfl, hJ _ _ _ _ hj3 hx⟩
      | false =>
        obtain ⟨M', hj3⟩ := hR.no rfl
        exact .inr ⟨_, M', hJx _ _ _ _ hj3 hx⟩
    · exact absurd rfl h2
  | succ m ih =>
    intro F v l w gs gl hl hF hn hsm hgs hgl yl J Jx W M hown hsz hyl hM hMlt hJ hJx hy h0
    obtain ⟨A, cap, rfl, _⟩ := hl.form
    obtain ⟨ad, rfl⟩ := hl.addr (by omega)
    have mem : ∀ W' : World, (∀ k, (k = gs ∨ k = gl ∨ F k) → k < w.heap.size → W'.heap[k]? = w.heap[k]?) → Blk W' gs 3 [.int .i64 ((m + 1 : Nat) : Int)] ∧ Blk W' gl 24 [.slice (some ad) l.length cap] ∧ SL intT F W' (.slice (some ad) l.length cap) l := fun W' h =>
      ⟨(h gs (.inl rfl) hgs.lt).trans hgs, (h gl (.inr (.inl rfl)) hgl.lt).trans hgl, hl.mono (Kept.of_blocks fun k hk hlt => h k (.inr (.inr hk)) hlt)⟩
    obtain ⟨m1, m2, m3⟩ := mem W hown
    refine gives_ofM (vs := [.func (.yield yl) #[] #[], .pointer (some ⟨gs, 0, none⟩), .pointer (some ⟨gl, 0, none⟩)]) [(0, none, _), (1, none, _), (2, none, _)] Tryz.func75 rfl Tryz.ntmps75 rfl rfl ?_
    refine CW.seq (CW.region ?_)
    refine TW.box rfl rfl rfl rfl ?_
    rintro g3 w1 f1
    refine TW.nil (KW.pick [0, 1, 2, 3] [(0, _, _), (1, _, _), (2, _, _), (3, _, _)] rfl (KW.then_ ?_))
    refine CW.seq (CW.seq (CW.region ?_))
    have hg3 := f1.at_
    have hs1 := f1.size
    refine TW.load rfl rfl one3 rfl ct (fun _ => (m1.next f1.below).cell 0) ?_
    refine TW.eql rfl rfl rfl ct rfl ct ?_
    refine TW.nil (KW.pick [0, 1, 2, 3, 7] [(0, _, _), (1, _, _), (2, _, _), (3, _, _), (7, _, _)] rfl (KW.then_ ?_))
    refine CW.condP rfl (fun h1 => ?_) (fun h2 => ?_)
    · exfalso
      omega
    refine CW.skip (KW.then_ (CW.seq (CW.region ?_)))
    refine TW.load rfl rfl one24 rfl ct (fun _ => (m2.next f1.below).cell 0) ?_
    refine TW.lenSlice rfl rfl Tryz.underlying24 rfl ct ?_
    refine TW.load rfl rfl one3 rfl ct (fun _ => (m1.next f1.below).cell 0) ?_
    refine TW.sub rfl rfl rfl ct rfl ct (fun _ => by (try dsimp only); omega) ?_
    refine TW.add rfl rfl rfl ct rfl ct (fun _ => by (try dsimp only); omega) ?_
    refine TW.move rfl rfl rfl ct ?_
    refine TW.nil (KW.pick [0, 1, 2, 3, 15, 16] [(0, _, _), (1, _, _), (2, _, _), (3, _, _), (15, _, _), (16, _, _)] rfl (KW.then_ ?_))
    refine CW.block ?_
    refine CW.loopD (fun x : Nat × List (Value × List Int) × (Nat → Prop) × List Nat => x.2.2.2.map markOf) (fun x => [(1, none, .pointer (some ⟨gs, 0, none⟩)), (2, none, .pointer (some ⟨gl, 0, none⟩)), (3, none, .pointer (some ⟨g3, 0, none⟩)), (15, none, .int .i64 ((l.length : Int) - ((m + 1 : Nat) : Int) + 1)), (16, none, .int .i64 (x.1 : Int))])
      (fun x W' => J x.2.1 x.2.2.1 W' ∧ x.1 ≤ l.length - m ∧ x.2.1.map (·.2) = setsTo l m x.1 ∧ w1.heap.size ≤ W'.heap.size ∧ (∀ k, x.2.2.1 k → k < W'.heap.size) ∧ (∀ k, (k = gs ∨ k = gl ∨ F k) → k < w.heap.size → W'.heap[k]? = w.heap[k]? ∧ ¬ x.2.2.1 k) ∧ Blk W' g3 48 [.func (.yield yl) #[] #[]] ∧ ¬ x.2.2.1 g3 ∧ x.2.2.2.Nodup ∧
        ∀ D ∈ x.2.2.2, w1.heap.size ≤ D ∧ W'.heap[D]? = some (.deferred (some [])) ∧ ¬ x.2.2.1 D) (fun x => l.length - m - x.1)
      (0, [], M, []) [1, 2, 3, 15, 16] rfl ⟨hJ _ _ _ _ h0 (.of_below f1.below), Nat.zero_le _, rfl, Nat.le_refl _, fun k hk => by have := hMlt k hk; show k < w1.heap.size; omega, fun k hk hlt => ⟨(f1.below.block k (by omega)).trans (hown k hk hlt), (hM k hk).1⟩, f1.blk, fun h => by have := hMlt _ h; omega, List.nodup_nil, fun D hD => by cases hD⟩ rfl ?_
    rintro ⟨i, pre, M1, Ds⟩ W1 ⟨hj, hi, hpre, hsz1, hM1, hk1, hB3, hM3, hnd, hDs⟩
    dsimp only at hj hi hpre hsz1 hM1 hk1 hB3 hM3 hnd hDs
    refine CW.seq (CW.region ?_)
    refine TW.lss rfl rfl rfl ct rfl ct ?_
    refine TW.nil (KW.pick [1, 2, 3, 15, 16, 17] [(1, _, _), (2, _, _), (3, _, _), (15, _, _), (16, _, _), (17, _, _)] rfl (KW.then_ ?_))
    refine CW.seq ?_
    refine CW.condP rfl (fun hlt => ?_) (fun hge => ?_)
    · have hil : i < l.length - m := by omega
      have hill : i < l.length := by omega
      obtain ⟨n1, n2, n3⟩ := mem W1 (fun k hk hlt => (hk1 k hk hlt).1)
      have hx : l[i]? = some l[i] := List.getElem?_eq_getElem hill
      refine CW.skip (KW.then_ (CW.seq (CW.block (CW.seq (CW.region ?_)))))
      refine TW.move rfl rfl rfl ct ?_
      refine TW.newVar1 rfl zc3 rfl sz3 rfl ?_
      rintro g4 w4 f4
      refine TW.nil (KW.pick [1, 2, 3, 4, 15, 16] [(1, _, _), (2, _, _), (3, _, _), (4, _, _), (15, _, _), (16, _, _)] rfl (KW.then_ ?_))
      refine CW.seq (CW.draw mixed (by kernel_rfl) ?_)
      have hg4 := f4.at_
      have n1' := n1.next f4.below
      have n2' := n2.next f4.below
      have n3' := n3.below f4.below
      refine DW.load rfl rfl one24 rfl ct (fun _ => n2'.cell 0) ?_
      refine DW.load rfl rfl one3 rfl ct (fun _ => f4.blk.cell 0) ?_
      refine DW.add rfl rfl rfl ct rfl ct (fun _ => by (try dsimp only); omega) ?_
      refine DW.sliceL rfl rfl Tryz.underlying24 sz3 rfl ct rfl ct (fun _ => by (try dsimp only); omega) ?_
      refine DW.load rfl rfl one3 rfl ct (fun _ => n1'.cell 0) ?_
      refine DW.sub rfl rfl rfl ct rfl ct (fun _ => by (try dsimp only); omega) ?_
      have e1 : ((i : Int) + 1).toNat = i + 1 := by omega
      have hdrop : SL intT F w4 (.slice (if cap = ((i : Int) + 1).toNat then some ad else (some ad).map (·.add (((i : Int) + 1).toNat * 1))) (l.length - ((i : Int) + 1).toNat) (cap - ((i : Int) + 1).toNat)) (l.drop (i + 1)) := by
        have := SL.dropS n3' (i := i + 1) (by omega)
        rw [e1]
        exact this
      have hcall : ∀ w' : World, Below w4.heap.size w4 w' → Gives Tryz.prog 45 #[.slice (if cap = ((i : Int) + 1).toNat then some ad else (some ad).map (·.add (((i : Int) + 1).toNat * 1))) (l.length - ((i : Int) + 1).toNat) (cap - ((i : Int) + 1).toNat), .int .i64 (((m + 1 : Nat) : Int) - 1)] w' fun u w'' => Below w'.heap.size w' w'' ∧ SetsV w4.heap.size (.slice (if cap = ((i : Int) + 1).toNat then some ad else (some ad).map (·.add (((i : Int) + 1).toNat * 1))) (l.length - ((i : Int) + 1).toNat) (cap - ((i : Int) + 1).toNat)) m u w'' := fun w' hb' => by
        rw [show (((m + 1 : Nat) : Int) - 1) = (m : Int) by omega]
        exact sets_c.mono fun u w'' ⟨h1, gs', gl', h2, h3, h4, h5, h6⟩ => ⟨h1, gs', gl', h2, h3, h4, Nat.le_trans hb'.size h5, Nat.le_trans hb'.size h6⟩
      refine DW.call (.pr (SetsV w4.heap.size (.slice (if cap = ((i : Int) + 1).toNat then some ad else (some ad).map (·.add (((i : Int) + 1).toNat * 1))) (l.length - ((i : Int) + 1).toNat) (cap - ((i : Int) + 1).toNat)) m)) ?_ rfl rfl en45 rfl ct (DArgs.cons rfl ct (DArgs.cons rfl ct DArgs.nil)) (fun _ w' hb' => hcall w' hb') ?_
      · exact SetsV.mono _ _ _
      refine DW.nil (DW.finP [1, 2, 3, 4, 15, 16, 25] rfl fun vs w5 hb5 hs5 => KW.then_ ?_)
      obtain ⟨v1, v2, v3, v4, v15, v16, v25, rfl, h1, h2, h3, h4, h15, h16, h25⟩ := Sats.seven hs5
      refine CW.block ?_
      cases h1
      cases h2
      cases h3
      cases h4
      cases h15
      cases h16
      obtain ⟨gs', gl', rfl, hgs', hgl', hgs1, hgl1⟩ := h25
      have hb45 := f4.below.step hb5
      have hs45 := hb45.size
      have hs4 := f4.below.size
      have hs5 := hb5.size
      have hd5 := hdrop.below hb5
      have hj5 : J pre M1 w5 := hJ _ _ _ _ hj (.of_below hb45)
      have hB35 := hB3.next hb45
      have hB45 := f4.blk.next hb5
      have o1 := n1.next hb45
      have o2 := n2.next hb45
      have o3 := n3.below hb45
      have hgslt := hgs'.lt
      have hgllt := hgl'.lt
      have hset : setsTo l m (i + 1) = setsTo l m i ++ (setsS (l.drop (i + 1)) m).map (l[i] :: ·) := by
        rw [setsTo_succ]
        unfold setsAt
        rw [hx]
      have hsub : ∃ rest, setsS l (m + 1) = setsTo l m (i + 1) ++ rest := by
        rw [setsS_eq]
        refine ⟨(List.range' (i + 1) (l.length - (i + 1))).flatMap (setsAt l m), ?_⟩
        unfold setsTo
        rw [← List.flatMap_append, List.range_eq_range', List.range_eq_range']
        congr 1
        have := List.range'_append_1 (s := 0) (m := i + 1) (n := l.length - (i + 1))
        rw [Nat.zero_add, show i + 1 + (l.length - (i + 1)) = l.length by omega] at this
        exact this.symm
      have hFM1 : ∀ k, F k → k < w.heap.size ∧ ¬ M1 k ∧ k ≠ yl := fun k hk => ⟨hF k hk, (hk1 k (.inr (.inr hk)) (hF k hk)).2, (hM k (.inr (.inr hk))).2⟩
      have hgs1' : gs < w.heap.size ∧ ¬ M1 gs ∧ gs ≠ yl := ⟨hgs.lt, (hk1 gs (.inl rfl) hgs.lt).2, (hM gs (.inl rfl)).2⟩
      have hgl1' : gl < w.heap.size ∧ ¬ M1 gl ∧ gl ≠ yl := ⟨hgl.lt, (hk1 gl (.inr (.inl rfl)) hgl.lt).2, (hM gl (.inr (.inl rfl))).2⟩
      have hg4M : ¬ M1 g4 := fun h => by have := hM1 _ h; omega
      have hit5 := ih (F := F) hd5 (fun k hk => by have := hF k hk; omega) (by rw [List.length_drop]; omega) (by rw [List.length_drop]; omega) hgs' hgl'
      refine CW.rangeW rfl en75 hit5 rfl (fun _ => rfl)
        (fun pre2 Mi Wi => ∃ outs M, Mi = (fun k => M k ∨ k = yl) ∧ J (pre ++ outs) M Wi ∧ outs.map (·.2) = (pre2.map (·.2)).map (l[i] :: ·) ∧ w5.heap.size ≤ Wi.heap.size ∧ (∀ k, M k → k < Wi.heap.size) ∧ (∀ k, k < w5.heap.size → ¬ M1 k → k ≠ yl → Wi.heap[k]? = w5.heap[k]?) ∧ ∀ k, k < w5.heap.size → M k → M1 k)
        (fun c pre2 Mi Wi => c = .ret ∧ (∃ outs M, Jx outs M Wi) ∧ ∀ k, k < w5.heap.size → ¬ M1 k → k ≠ yl → Wi.heap[k]? = w5.heap[k]?)
        (fun k => M1 k ∨ k = yl) ?_ ?_ ?_ ?_ ?_ ?_ ?_ ?_
      · rintro k (hk | rfl)
        · have := hM1 k hk
          refine ⟨by omega, ?_⟩
          rintro (rfl | rfl | h)
          · omega
          · omega
          · exact (hFM1 k h).2.1 hk
        · refine ⟨by omega, ?_⟩
          rintro (rfl | rfl | h)
          · omega
          · omega
          · exact (hFM1 _ h).2.2 rfl
      · rintro k (rfl | rfl | h)
        · exact hgslt
        · exact hgllt
        · have := hF k h; omega
      · rintro pre2 Mi Wa Wb ⟨outs, M2, a1, a2, a3, a4, a5, a6, a7⟩ hx'
        refine ⟨outs, M2, a1, hJ _ _ _ _ a2 (hx'.less (by omega)), a3, Nat.le_trans a4 hx'.size, fun k hk => Nat.lt_of_lt_of_le (a5 k hk) hx'.size, fun k h1 h2 h3 => ?_, a7⟩
        have e := a6 k h1 h2 h3
        rw [Array.getElem?_eq_getElem h1] at e ⊢
        exact hx'.block k _ e (.inl h1)
      · rintro c pre2 Mi Wa Wb ⟨a1, ⟨outs, M2, a2⟩, a6⟩ hx'
        refine ⟨a1, ⟨outs, M2, hJx _ _ _ _ a2 (hx'.less (by omega))⟩, fun k h1 h2 h3 => ?_⟩
        have e := a6 k h1 h2 h3
        rw [Array.getElem?_eq_getElem h1] at e ⊢
        exact hx'.block k _ e (.inl h1)
      · exact ⟨[], M1, rfl, by rw [List.append_nil]; exact hj5, rfl, Nat.le_refl _, fun k hk => by have := hM1 k hk; omega, fun k _ _ _ => rfl, fun k _ h => h⟩
      · rintro D L pre2 x Mi Wi hD hL ⟨outs, M2, rfl, a2, a3, a4, a5, a6, a7⟩ ⟨⟨suf, hsuf⟩, hxs⟩ hMlt2 hML hMD hrec
        have hLM : ¬ M2 L ∧ L ≠ yl := ⟨fun h => hML (.inl h), fun h => hML (.inr h)⟩
        refine CW.region ?_
        refine TW.assign rfl rfl rfl ct ?_
        refine TW.nil (KW.pick [1, 2, 3, 4, 5, 15, 16, 26] [(1, _, _), (2, _, _), (3, _, _), (4, _, _), (5, _, _), (15, _, _), (16, _, _), (26, _, _)] rfl ?_)
        refine KW.begin hrec fun W2 hx2 hsz2 hk2 hrec2 => ?_
        have old : ∀ k, k < w5.heap.size → ¬ M1 k → k ≠ yl → W2.heap[k]? = w5.heap[k]? := fun k h1 h2 h3 => (hk2 k (by omega)).trans (a6 k h1 h2 h3)
        have p2 : Blk W2 gl 24 [.slice (some ad) l.length cap] := (old gl (by omega) hgl1'.2.1 hgl1'.2.2).trans o2
        have p3 : SL intT F W2 (.slice (some ad) l.length cap) l := o3.mono (Kept.of_blocks fun k hk hlt => old k hlt (hFM1 k hk).2.1 (hFM1 k hk).2.2)
        have p4 : Blk W2 g4 3 [.int .i64 (i : Int)] := (old g4 (by have := f4.size; omega) hg4M (by omega)).trans hB45
        have p5 : Blk W2 g3 48 [.func (.yield yl) #[] #[]] := (old g3 (by omega) hM3 (by omega)).trans hB35
        obtain ⟨ad', he', hci, hI⟩ := p3.int hx
        cases he'
        obtain ⟨xv, xl⟩ := x
        dsimp only at hsuf hxs
        obtain ⟨Ax, cx, rfl, _⟩ := hxs.form
        have hxs2 : SL intT (fun k => w5.heap.size ≤ k ∧ ¬ (M2 k ∨ k = yl)) W2 (.slice Ax xl.length cx) xl := hxs.ext hx2
        have hn1 : ∀ (j : Nat) (u : Value), (xl.map (Value.int .i64))[j]? = some u → ∃ ad' : Addr, Ax = some ad' ∧ W2.cell? (ad'.add j) = some u := by
          intro j u hu
          obtain ⟨y, hy, rfl⟩ := by simpa using hu
          obtain ⟨ad', h1, h2, _⟩ := hxs2.int (i := j) hy
          exact ⟨ad', h1, by rw [Nat.mul_one] at h2; exact h2⟩
        have hxlm : xl ∈ setsS (l.drop (i + 1)) m := by rw [hsuf]; simp
        have hxlen : xl.length = m := (mem_setsS.1 hxlm).2
        refine CW.block (CW.seq ?_)
        refine CW.drawR mixed fun W3 hW3 => ?_
        refine RW.draw .own 8 (by kernel_rfl) (by kernel_rfl) rfl rfl hW3 ?_
        refine DW.load rfl rfl one48 rfl ct (fun _ => p5.cell 0) ?_
        refine DW.load rfl rfl one24 rfl ct (fun _ => p2.cell 0) ?_
        refine DW.load rfl rfl one3 rfl ct (fun _ => p4.cell 0) ?_
        refine DW.indexAddr rfl rfl Tryz.underlying24 sz3 rfl ct rfl ct (fun _ => by omega) ?_
        refine DW.load rfl rfl one3 rfl ct (fun _ => hci) ?_
        refine OW.buildSlice 3 _ rfl rfl rfl eo24 (DArgs.cons rfl ct DArgs.nil) rfl rfl rfl rfl rfl ?_
        refine DW.move rfl rfl rfl ct ?_
        refine OW.append (m := xl.length) (A := Ax) (xl.map (Value.int .i64)) rfl rfl go24 rfl (by kernel_rfl) rfl ct hn1 (by simp) (fun u hu => by obtain ⟨y, _, rfl⟩ := List.mem_map.1 hu; rfl) (by omega) (by omega) ?_
        refine DW.nil (DW.finP [27, 34] rfl fun vs w6 hb6 hs6 => KW.rk' ?_)
        obtain ⟨v27, v34, rfl, h27, h34⟩ := Sats.two hs6
        cases h27
        have h34' : OwnS w6 3 1 v34 (1 + xl.length) ([.int .i64 l[i]] ++ xl.map (Value.int .i64)) ∧ ∀ g, v34.ownBlock = some g → W2.heap.size ≤ g := h34
        have hxI : ∀ y ∈ xl, I64 y := fun y hy => by
          obtain ⟨j, hj, hje⟩ := List.getElem_of_mem hy
          obtain ⟨_, _, _, h⟩ := hxs2.int (i := j) (x := y) (by rw [← hje]; exact List.getElem?_eq_getElem hj)
          exact h
        have hsl6 : SL intT (fun k => w.heap.size ≤ k ∧ ¬ M2 k) w6 v34 (l[i] :: xl) := by
          refine OwnS.toInts (e := 3) ?_ (fun y hy => ?_) (fun g hg => ?_) (by simp; omega)
          · have := h34'.1
            rw [Nat.add_comm] at this
            exact this
          · rcases List.mem_cons.1 hy with rfl | hy
            · exact hI
            · exact hxI y hy
          · have := h34'.2 g hg
            refine ⟨by omega, fun h => ?_⟩
            have := a5 g h
            omega
        have hj6 : J (pre ++ outs) M2 w6 := hJ _ _ _ _ (hJ _ _ _ _ a2 (hx2.less (by omega))) (.of_below hb6)
        have hs6' := hb6.size
        have hpos : setPos l (m + 1) w (pre ++ outs) (v34, l[i] :: xl) M2 w6 := by
          refine ⟨?_, hsl6⟩
          obtain ⟨rest, hrest⟩ := hsub
          refine ⟨suf.map (l[i] :: ·) ++ rest, ?_⟩
          rw [hrest, hset, hsuf, List.map_append, List.map_append, hpre, a3]
          simp
        refine RW.one (by kernel_rfl) (by kernel_rfl) rfl ?_
        refine TW.yield rfl rfl rfl (Args.cons rfl ct Args.nil) (hy (pre ++ outs) (v34, l[i] :: xl) M2 w6 hj6 hpos (fun k hk => by have := a5 k hk; omega) (by omega)) ?_
        rintro yb W7 hR
        refine TW.nil (KW.pick [35] [(35, _, _)] rfl (KW.rk ?_))
        refine RW.one (by kernel_rfl) (by kernel_rfl) rfl ?_
        refine TW.not rfl rfl rfl ct ?_
        refine TW.nil (KW.pick [36] [(36, _, _)] rfl (KW.rk ?_))
        refine RW.end rfl (KW.pick [36] [(36, _, _)] rfl (KW.then_ ?_))
        have hL2 : L < W2.heap.size := hrec2.lt
        have hrec7 := hrec2.kept ((hR.kept L (by omega) hLM.1 hLM.2).trans (hb6.block L hL2))
        have hs7 := hR.size
        have kept7 : ∀ k, k < Wi.heap.size → ¬ (M2 k ∨ k = yl) → k ≠ L → W7.heap[k]? = Wi.heap[k]? := fun k h1 h2 h3 =>
          (hR.kept k (by omega) (fun h => h2 (.inl h)) (fun h => h2 (.inr h))).trans ((hb6.block k (by omega)).trans (hk2 k h3))
        have old7 : ∀ k, k < w5.heap.size → ¬ M1 k → k ≠ yl → W7.heap[k]? = w5.heap[k]? := fun k h1 h2 h3 =>
          (kept7 k (by omega) (fun h => h.elim (fun h => h2 (a7 k h1 h)) h3) (by omega)).trans (a6 k h1 h2 h3)
        refine CW.cond rfl (fun hno => ?_) (fun hgo => ?_)
        · refine CW.ret (KW.blockR ?_)
          obtain ⟨M', hjx⟩ := hR.no (by simpa using hno)
          refine KW.endR hrec7 fun W8 hx8 hsz8 hk8 hrec8 => ?_
          refine ⟨by omega, fun k h1 h2 h3 => (hk8 k h3).trans (kept7 k h1 h2 h3), fun h => (by cases h), fun _ => ⟨M', .ret, ⟨rfl, ⟨_, M', hJx _ _ _ _ hjx (hx8.less (by omega))⟩, fun k h1 h2 h3 => (hk8 k (by omega)).trans (old7 k h1 h2 h3)⟩, hrec8⟩⟩
        · refine CW.skip (KW.blockN ?_)
          obtain ⟨M', hj7, hm7⟩ := hR.yes (by simpa using hgo)
          have hM'L : ∀ k, k < Wi.heap.size → M' k → M2 k := fun k h1 h2 => by
            rcases (hm7 k h2).1 with h | h
            · exact h
            · omega
          have hLi : L < Wi.heap.size := by omega
          refine KW.endN hrec7 fun W8 hx8 hsz8 hk8 hrec8 => ?_
          refine ⟨by omega, fun k h1 h2 h3 => (hk8 k h3).trans (kept7 k h1 h2 h3), fun _ => ⟨fun k => M' k ∨ k = yl, ⟨⟨outs ++ [(v34, l[i] :: xl)], M', rfl, ?_, ?_, by omega, fun k hk => by have := (hm7 k hk).2; omega, fun k h1 h2 h3 => (hk8 k (by omega)).trans (old7 k h1 h2 h3), fun k h1 h2 => a7 k h1 (hM'L k (by omega) h2)⟩, ?_, ?_, hrec8⟩, fun k hk => ?_⟩, fun h => by cases h⟩
          · rw [← List.append_assoc]
            exact hJ _ _ _ _ hj7 (hx8.less (by omega))
          · simp [a3]
          · rintro (h | h)
            · exact hLM.1 (hM'L L hLi h)
            · exact hLM.2 h
          · rintro (h | h)
            · exact hMD (.inl (hM'L D (by omega) h))
            · exact hMD (.inr h)
          · rcases hk with hk | rfl
            · obtain ⟨q1, q2⟩ := hm7 k hk
              exact ⟨q1.elim (fun h => .inl (.inl h)) (fun h => .inr (by omega)), by omega⟩
            · exact ⟨.inl (.inr rfl), by omega⟩
      · rintro D xs Mi Wi hD hdone ⟨outs, M2, rfl, a2, a3, a4, a5, a6, a7⟩ hMD hdef
        refine KW.blockN (KW.blockN (KW.then_ ?_))
        refine CW.region ?_
        refine TW.add rfl rfl rfl ct rfl ct (fun _ => by (try dsimp only); omega) ?_
        refine TW.move rfl rfl rfl ct ?_
        refine TW.nil (KW.pick [1, 2, 3, 4, 15, 16] [(1, _, _), (2, _, _), (3, _, _), (4, _, _), (15, _, _), (16, _, _)] rfl ?_)
        have hDlt : D < Wi.heap.size := (Array.getElem?_eq_some_iff.1 hdef).1
        have hM2D : ∀ k, k < W1.heap.size → M2 k → M1 k := fun k h1 h2 => a7 k (by omega) h2
        refine KW.roundD (i + 1, pre ++ outs, M2, D :: Ds) [1, 2, 3, 15, 16] rfl rfl ⟨a2, ?_, ?_, ?_, a5, ?_, ?_, ?_, ?_, ?_⟩ ?_
        · show i + 1 ≤ l.length - m
          omega
        · show (pre ++ outs).map (·.2) = setsTo l m (i + 1)
          rw [List.map_append, hpre, a3, hdone, hset]
        · show w1.heap.size ≤ Wi.heap.size
          omega
        · intro k hk hlt
          have h := hk1 k hk hlt
          have hy' := (hM k hk).2
          exact ⟨(a6 k (by omega) h.2 hy').trans ((hb45.block k (by omega)).trans h.1), fun h' => h.2 (hM2D k (by omega) h')⟩
        · exact (a6 g3 (by omega) hM3 (by omega)).trans hB35
        · exact fun h => hM3 (hM2D g3 (by omega) h)
        · refine List.nodup_cons.2 ⟨fun h => ?_, hnd⟩
          have := (Array.getElem?_eq_some_iff.1 (hDs D h).2.1).1
          omega
        · intro D' hD'
          rcases List.mem_cons.1 hD' with rfl | hD'
          · exact ⟨by omega, hdef, fun h => hMD (.inl h)⟩
          · obtain ⟨q1, q2, q3⟩ := hDs D' hD'
            have q4 := (Array.getElem?_eq_some_iff.1 q2).1
            exact ⟨q1, (a6 D' (by omega) q3 (by omega)).trans ((hb45.block D' q4).trans q2), fun h => q3 (hM2D D' q4 h)⟩
        · show l.length - m - (i + 1) < l.length - m - i
          omega
      · rintro D c pre2 Mi Wi hD ⟨rfl, ⟨outs, M2, hjx⟩, a6⟩ hdef
        refine CW.ret (KW.blockR (KW.blockR (KW.thenR (KW.thenR (KW.blockR ?_)))))
        refine retMs (n := W.heap.size) (D :: Ds) Tryz.results75 ?_ ?_ (fun w' hx => .inr ⟨_, _, hJx _ _ _ _ hjx hx⟩) .ret (.inl rfl)
        · refine List.nodup_cons.2 ⟨fun h => ?_, hnd⟩
          have := (Array.getElem?_eq_some_iff.1 (hDs D h).2.1).1
          omega
        · intro D' hD'
          rcases List.mem_cons.1 hD' with rfl | hD'
          · exact ⟨by omega, hdef⟩
          · obtain ⟨q1, q2, q3⟩ := hDs D' hD'
            have q4 := (Array.getElem?_eq_some_iff.1 q2).1
            exact ⟨by omega, (a6 D' (by omega) q3 (by omega)).trans ((hb45.block D' q4).trans q2)⟩
    · refine CW.exit (KW.thenX (KW.thenX (KW.blockX ?_)))
      have hie : i = l.length - m := by
        have hge' : ¬ ((i : Int) < (l.length : Int) - ((m + 1 : Nat) : Int) + 1) := hge
        omega
      refine retMs (n := W.heap.size) Ds Tryz.results75 hnd (fun D' hD' => ?_) (fun w' hx => .inl ⟨pre, M1, ?_, hJ _ _ _ _ hj hx⟩) .normal (.inr rfl)
      · obtain ⟨q1, q2, q3⟩ := hDs D' hD'
        exact ⟨by omega, q2⟩
      · show pre.map (·.2) = setsS l (m + 1)
        rw [hpre, setsS_eq, hie]
        have := setsTo_enough (l := l) (k := m) (l.length - m) m (by omega)
        rw [show l.length - m + m = l.length by omega] at this
        exact this.symm
end Go.Proofs.YtmhfeehkpndadaaGreat

namespace Go.Proofs.YtmhfeehkpndadaaGreat
open Go.PF Go.RowKit Go.Ord

theorem RowL.ext {α : Type} {T : Ty α} {w w' : World} {e : TypeId} {b n : Nat} {v : Value} {ps : List (List Value × α)} (h : RowL T w e b v ps) (k : ExtF n w w') : RowL T w' e b v ps :=
  ⟨h.1.ext k, fun p hp => T.wider _ _ _ _ _ (fun q hq => ⟨Nat.lt_of_lt_of_le hq.1 k.size, hq.2⟩) (T.mono _ _ _ _ _ k.kept (h.2.1 p hp)), h.2.2⟩
theorem RowL.kept {α : Type} {T : Ty α} {w w' : World} {e : TypeId} {b : Nat} {v : Value} {ps : List (List Value × α)} (h : RowL T w e b v ps) (hs : w.heap.size ≤ w'.heap.size) (g : Nat) (hg : v.ownBlock ≠ some g) (hk : ∀ k, k < w.heap.size → k ≠ g → w'.heap[k]? = w.heap[k]?) (ha : ∀ p ∈ ps, T.rep (fun k => RowF w v k ∧ k ≠ g) w p.1 p.2) : RowL T w' e b v ps :=
  ⟨h.1.kept fun q hq => hk q (h.1.lt hq) (fun e => hg (by rw [← e]; exact hq)), fun p hp => T.wider _ _ _ _ _ (fun q hq => ⟨Nat.lt_of_lt_of_le hq.1.1 hs, hq.1.2⟩) (T.mono _ _ _ _ _ (Kept.of_blocks fun k hF hlt => hk k hlt hF.2) (ha p hp)), h.2.2⟩

/-- An owned row, made by the call: its elements stand for data that is made by the call too, apart from it. -/
def RowN {α : Type} (T : Ty α) (w : World) (e : TypeId) (b : Nat) (v : Value) (ps : List (List Value × α)) : Prop := OwnS w e T.n v ps.length (ps.flatMap (·.1)) ∧ (∀ p ∈ ps, T.rep (fun k => RowF w v k ∧ b ≤ k) w p.1 p.2) ∧ ∀ g, v.ownBlock = some g → b ≤ g
section
variable {α : Type} {T : Ty α} {w w' : World} {e : TypeId} {b : Nat} {v v' : Value} {ps : List (List Value × α)}
theorem RowN.rowL (h : RowN T w e b v ps) : RowL T w e b v ps := ⟨h.1, fun p hp => T.wider _ _ _ _ _ (fun _ hk => hk.1) (h.2.1 p hp), h.2.2⟩
theorem RowN.nil (T : Ty α) (w : World) (e : TypeId) (b : Nat) : RowN T w e b (.slice none 0 0) [] := ⟨OwnS.nil _ _ _, (fun p hp => by cases hp), fun g h => by simp [Value.ownBlock] at h⟩
theorem RowN.ext {n : Nat} (h : RowN T w e b v ps) (k : ExtF n w w') : RowN T w' e b v ps :=
  ⟨h.1.ext k, fun p hp => T.wider _ _ _ _ _ (fun q hq => ⟨⟨Nat.lt_of_lt_of_le hq.1.1 k.size, hq.1.2⟩, hq.2⟩) (T.mono _ _ _ _ _ k.kept (h.2.1 p hp)), h.2.2⟩
theorem RowN.step (h : RowN T w e b v ps) (hb : Below w.heap.size w w') : RowN T w' e b v ps := h.ext (n := 0) (.of_below hb)
theorem RowN.kept (h : RowN T w e b v ps) (hs : w.heap.size ≤ w'.heap.size) (hk : ∀ k, b ≤ k → k < w.heap.size → w'.heap[k]? = w.heap[k]?) : RowN T w' e b v ps :=
  ⟨h.1.kept fun q hq => hk q (h.2.2 q hq) (h.1.lt hq), fun p hp => T.wider _ _ _ _ _ (fun q hq => ⟨⟨Nat.lt_of_lt_of_le hq.1.1 hs, hq.1.2⟩, hq.2⟩) (T.mono _ _ _ _ _ (Kept.of_blocks fun k hF hlt => hk k hF.2 hlt) (h.2.1 p hp)), h.2.2⟩
theorem RowN.setCell (h : RowN T w e b v ps) {g i : Nat} (hg : g < b) (u : Value) : RowN T (w.setCell ⟨g, i, none⟩ u) e b v ps :=
  h.kept (by simp) fun k hk _ => Below.heap_setCell _ _ _ _ (fun e => by have e : k = g := e; omega)
theorem RowN.app {cs : List Value} {x : α} (h : RowN T w e b v ps) (hO : OwnS w' e T.n v' (ps.length + 1) (ps.flatMap (·.1) ++ cs)) (hg : w.grownBy w' v.ownBlock) (hn : v'.ownBlock = v.ownBlock ∨ v'.ownBlock = some w.heap.size)
    (hr : T.rep (fun k => RowF w v k ∧ b ≤ k) w cs x) (hb : b ≤ w.heap.size) : RowN T w' e b v' (ps ++ [(cs, x)]) := by
  have hk : Kept (fun k => RowF w v k ∧ b ≤ k) w w' := Kept.of_blocks fun k hk hlt => hg.block k hlt (fun e => hk.1.2 e.symm)
  have hw : ∀ k, RowF w v k ∧ b ≤ k → RowF w' v' k ∧ b ≤ k := fun k hk => ⟨⟨Nat.lt_of_lt_of_le hk.1.1 hg.size, fun e => by
    rcases hn with h' | h'
    · exact hk.1.2 (by rw [← h']; exact e)
    · rw [h'] at e; cases e; exact absurd hk.1.1 (Nat.lt_irrefl _)⟩, hk.2⟩
  refine ⟨by rw [List.flatMap_append, List.length_append]; simpa using hO, fun p hp => ?_, fun q hq => ?_⟩
  · rcases List.mem_append.1 hp with hp | hp
    · exact T.wider _ _ _ _ _ hw (T.mono _ _ _ _ _ hk (h.2.1 p hp))
    · rw [List.mem_singleton] at hp
      subst hp
      exact T.wider _ _ _ _ _ hw (T.mono _ _ _ _ _ hk hr)
  · rcases hn with h' | h'
    · exact h.2.2 q (by rw [← h']; exact hq)
    · rw [h'] at hq; cases hq; exact hb
theorem RowN.sl (h0 : 0 < T.n) (h : RowN T w e b v ps) : SL T (fun k => b ≤ k ∧ k < w.heap.size) w v (ps.map (·.2)) :=
  OwnS.toSLp ps (fun p hp => T.wider _ _ _ _ _ (fun _ hb => ⟨hb.2, hb.1.1⟩) (h.2.1 p hp)) h0 h.1 rfl (fun g hg => ⟨h.2.2 g hg, h.1.lt hg⟩) h.rowL.big
end

/-- what possible.Worlds answers -/
noncomputable def worldsS (d : Dist) (l : List Ev) (most : Int) : List (List Int) := if dec (WfP d l) = true ∧ 0 ≤ most ∧ most ≤ 3 ∧ (recsS l).length ≤ 14 then (setsS (recsS l) (min most.toNat (recsS l).length)).filter (fun S => dec (Poss d (restS l S))) else []
noncomputable def worldsE (d : Dist) (l : List Ev) (most : Int) : Int := if dec (WfP d l) = true ∧ 0 ≤ most ∧ most ≤ 3 then (if (recsS l).length ≤ 14 then (if worldsS d l most = [] then 280 else 0) else 2) else 1

theorem restS_sub (l : List Ev) (S : List Int) : (restS l S).Sublist l := List.filter_sublist
theorem WfP.rest {d : Dist} {l : List Ev} (h : WfP d l) (S : List Int) : Fitted d (restS l S) ↔ Poss d (restS l S) :=
  ⟨fun h => h.2, fun hp => ⟨⟨h.wd, by have := (restS_sub l S).length_le; have := h.few; omega, fun e he => h.each e ((restS_sub l S).subset he)⟩, hp⟩⟩

set_option maxRecDepth 20000 in
set_option maxHeartbeats 1000000 in
theorem worlds_c {w : World} {dv ev : Value} {d : Dist} {l : List Ev} {most : Int} (hd : SD w dv d) (hl : SE w ev l) (hne : ∀ e ∈ l, e.needs.length ≤ 1000) :
    Gives Tryz.prog 24 #[dv, ev, .int .i64 most] w fun x w' => Below w.heap.size w w' ∧ ∃ v, x = .tuple #[v, .int .i64 (worldsE d l most)] ∧ SL (sliceT intT) (fun k => k < w'.heap.size) w' v (worldsS d l most) := by
  obtain ⟨A, cap, rfl, hcap⟩ := hd.form
  obtain ⟨B, lcap, rfl, hlcap⟩ := hl.form
  refine gives_ofM (vs := [.slice A d.length cap, .slice B l.length lcap, .int .i64 most]) [(0, none, _), (1, none, _), (2, none, _)] Tryz.func24 rfl Tryz.ntmps24 rfl rfl ?_
  refine CW.seq (CW.region ?_)
  refine TW.box rfl rfl rfl rfl ?_
  rintro g3 w1 f1
  refine TW.box rfl rfl rfl rfl ?_
  rintro g4 w2 f2
  refine TW.assign rfl rfl rfl ct ?_
  refine TW.assign rfl rfl rfl ct ?_
  refine TW.nil (KW.pick [0, 1, 2, 3, 4, 6, 7] [(0, _, _), (1, _, _), (2, _, _), (3, _, _), (4, _, _), (6, _, _), (7, _, _)] rfl (KW.then_ ?_))
  refine CW.seq (CW.seq (CW.region ?_))
  have hb12 := f1.below.step f2.below
  refine TW.load rfl rfl one22 rfl ct (fun _ => (f1.blk.next f2.below).cell 0) ?_
  refine TW.load rfl rfl one23 rfl ct (fun _ => f2.blk.cell 0) ?_
  refine TW.call0 (cap := []) rfl rfl en43 rfl (Args.cons rfl ct (Args.cons rfl ct Args.nil)) (pwell_c (sd_step hd hb12) (se_step hl hb12)) ?_
  rintro y3 w3 ⟨hb3, rfl⟩
  have hb03 := hb12.step hb3
  refine TW.not rfl rfl rfl ct ?_
  refine TW.move rfl rfl rfl ct ?_
  refine TW.move rfl rfl rfl ct ?_
  refine TW.lss rfl rfl rfl id rfl ct ?_
  refine TW.pickOr rfl rfl rfl ct rfl pOr0 ?_
  refine TW.move rfl rfl rfl ct ?_
  refine TW.move rfl rfl rfl ct ?_
  refine TW.gtr rfl rfl rfl id rfl ct ?_
  refine TW.pickOr rfl rfl rfl ct rfl pOr0 ?_
  refine TW.nil (KW.pick [0, 1, 2, 3, 4, 6, 7, 24] [(0, _, _), (1, _, _), (2, _, _), (3, _, _), (4, _, _), (6, _, _), (7, _, _), (24, _, _)] rfl (KW.then_ ?_))
  refine CW.cond rfl (fun hbad => ?_) (fun hgood => ?_)
  · refine CW.seq (CW.region ?_)
    refine TW.assign rfl rfl rfl ct ?_
    refine TW.assign rfl rfl rfl ct ?_
    refine TW.nil (KW.pick [0, 1, 2, 3, 4, 6, 7] [(0, _, _), (1, _, _), (2, _, _), (3, _, _), (4, _, _), (6, _, _), (7, _, _)] rfl (KW.then_ ?_))
    refine CW.ret (KW.thenR ?_)
    refine ret2M0 Tryz.results24 rfl rfl (⟨hb03, .slice none 0 0, ?_, ?_⟩)
    · unfold worldsE
      rw [if_neg]
      rintro ⟨h1, h2, h3⟩
      rw [h1] at hbad
      simp at hbad
      omega
    · unfold worldsS
      rw [if_neg]
      · exact SL.nil _ _ _
      rintro ⟨h1, h2, h3, _⟩
      rw [h1] at hbad
      simp at hbad
      omega
  have hW : WfP d l := dec_iff.1 (by cases hq : dec (WfP d l) <;> simp_all)
  have hm : 0 ≤ most ∧ most ≤ 3 := by
    rw [dec_pos hW] at hgood
    simp at hgood
    omega
  have hlf := hW.few
  refine CW.skip (KW.then_ (CW.seq (CW.region ?_)))
  refine TW.load rfl rfl one23 rfl ct (fun _ => ((f2.blk.next hb3).cell 0)) ?_
  refine TW.call0 (cap := []) rfl rfl en44 rfl (Args.cons rfl ct Args.nil) (recordsOf_c (se_step hl hb03) (by omega) hne) ?_
  rintro y4 w4 ⟨hb4, o4, q4⟩
  have hb04 := hb03.step hb4
  obtain ⟨R4, c4, rfl, hc4, _⟩ := o4.form
  have hrecI : ∀ x ∈ recsS l, I64 x := fun x hx => by
    obtain ⟨e, he, hxe⟩ := mem_recsS.1 hx
    obtain ⟨i, hi, hie⟩ := List.getElem_of_mem he
    obtain ⟨ad, cs, _, _, ⟨nv, _, _, _, _, hn⟩, _⟩ := hl.at (i := i) (x := e) (by rw [← hie]; exact List.getElem?_eq_getElem hi)
    obtain ⟨j, hj, hje⟩ := List.getElem_of_mem hxe
    exact hn.rngI (i := j) (x := x) (by rw [← hje]; exact List.getElem?_eq_getElem hj)
  refine TW.assign rfl rfl rfl ct ?_
  refine TW.nil (KW.pick [0, 1, 2, 3, 4, 6, 7, 8] [(0, _, _), (1, _, _), (2, _, _), (3, _, _), (4, _, _), (6, _, _), (7, _, _), (8, _, _)] rfl (KW.then_ ?_))
  refine CW.seq (CW.seq (CW.region ?_))
  refine TW.move rfl rfl rfl ct ?_
  refine TW.lenSlice rfl rfl Tryz.underlying24 rfl ct ?_
  refine TW.gtr rfl rfl rfl ct rfl ct ?_
  refine TW.nil (KW.pick [0, 1, 2, 3, 4, 6, 7, 8, 29] [(0, _, _), (1, _, _), (2, _, _), (3, _, _), (4, _, _), (6, _, _), (7, _, _), (8, _, _), (29, _, _)] rfl (KW.then_ ?_))
  refine CW.condP rfl (fun hbig => ?_) (fun hsmall => ?_)
  · refine CW.seq (CW.region ?_)
    refine TW.assign rfl rfl rfl ct ?_
    refine TW.assign rfl rfl rfl ct ?_
    refine TW.nil (KW.pick [0, 1, 2, 3, 4, 6, 7, 8] [(0, _, _), (1, _, _), (2, _, _), (3, _, _), (4, _, _), (6, _, _), (7, _, _), (8, _, _)] rfl (KW.then_ ?_))
    refine CW.ret (KW.thenR ?_)
    refine ret2M0 Tryz.results24 rfl rfl (⟨hb04, .slice none 0 0, ?_, ?_⟩)
    · unfold worldsE
      rw [if_pos ⟨dec_pos hW, hm⟩, if_neg (by omega)]
    · unfold worldsS
      rw [if_neg (by rintro ⟨_, _, _, h⟩; omega)]
      exact SL.nil _ _ _
  have hsm : (recsS l).length ≤ 14 := by omega
  refine CW.skip (KW.then_ (CW.seq (CW.region ?_)))
  refine TW.alloc rfl rfl zc22 ?_
  rintro g9 w5 f5
  refine TW.nil (KW.pick [0, 1, 2, 3, 4, 6, 7, 8, 9] [(0, _, _), (1, _, _), (2, _, _), (3, _, _), (4, _, _), (6, _, _), (7, _, _), (8, _, _), (9, _, _)] rfl (KW.then_ ?_))
  refine CW.seq (CW.seq (CW.region ?_))
  refine TW.move rfl rfl rfl ct ?_
  refine TW.move rfl rfl rfl ct ?_
  refine TW.move rfl rfl rfl ct ?_
  refine TW.lenSlice rfl rfl Tryz.underlying24 rfl ct ?_
  refine TW.minI rfl rfl rfl ct rfl ct ?_
  have hmin : min most ((recsS l).length : Int) = ((min most.toNat (recsS l).length : Nat) : Int) := by omega
  rw [hmin]
  refine TW.call0 (cap := []) rfl rfl en45 rfl (Args.cons rfl ct (Args.cons rfl ct Args.nil)) (sets_c) ?_
  rintro y6 w6 ⟨hb6, gs, gl, rfl, hgs, hgl, hgs1, hgl1⟩
  have hb05 := hb04.step f5.below
  have hb06 := hb05.step hb6
  refine TW.nil (KW.pick [0, 1, 2, 3, 4, 6, 7, 8, 9, 35] [(0, _, _), (1, _, _), (2, _, _), (3, _, _), (4, _, _), (6, _, _), (7, _, _), (8, _, _), (9, _, _), (35, _, _)] rfl (KW.then_ ?_))
  refine CW.block ?_
  obtain ⟨n, hn⟩ : ∃ n, n = min most.toNat (recsS l).length := ⟨_, rfl⟩
  rw [← hn] at hgs
  have hsz4 := hb4.size
  have hsz3 := hb03.size
  have hsz5 := f5.below.size
  have hsz6 := hb6.size
  have hg9 := f5.at_
  have hg9s := f5.size
  have hsl : SL intT (fun k => (Value.slice R4 (recsS l).length c4).ownBlock = some k) w6 (.slice R4 (recsS l).length c4) (recsS l) := (OwnS.toInts (o4.below (f5.below.step hb6)) hrecI (fun g hg => hg) (by omega))
  have hF4 : ∀ k, (Value.slice R4 (recsS l).length c4).ownBlock = some k → k < w4.heap.size ∧ w3.heap.size ≤ k := fun k hk => ⟨o4.lt hk, q4 k hk⟩
  have hit := sets_iter n hsl (fun k hk => by have := (hF4 k hk).1; omega) (by omega) (by omega) hgs hgl
  have hg3 := f1.at_
  have hg4 := f2.at_
  have hs1 := f1.size
  have hs2 := f2.size
  have hs3 := hb3.size
  have B3 : Blk w6 g3 22 [.slice A d.length cap] := f1.blk.next (f2.below.step (hb3.step (hb4.step (f5.below.step hb6))))
  have B4 : Blk w6 g4 23 [.slice B l.length lcap] := f2.blk.next (hb3.step (hb4.step (f5.below.step hb6)))
  have B9 : Blk w6 g9 22 [.slice none 0 0] := f5.blk.next hb6
  refine CW.rangeW rfl en75 hit rfl (fun _ => rfl)
    (fun pre M W => Below w.heap.size w W ∧ w6.heap.size ≤ W.heap.size ∧ Blk W g3 22 [.slice A d.length cap] ∧ Blk W g4 23 [.slice B l.length lcap] ∧ ∃ vf ps, Blk W g9 22 [vf] ∧ RowN (sliceT intT) W 24 w6.heap.size vf ps ∧ ps.map (·.2) = (pre.map (·.2)).filter (fun S => dec (Poss d (restS l S))) ∧ M = fun k => k = g9 ∨ vf.ownBlock = some k)
    (fun c pre M W => False) (fun k => k = g9) ?_ ?_ ?_ (fun _ _ _ _ _ h _ => h) ?_ ?_ ?_ ?_
  · rintro k rfl
    refine ⟨by omega, ?_⟩
    rintro (rfl | rfl | h)
    · omega
    · omega
    · have := hF4 _ h; omega
  · rintro k (rfl | rfl | h)
    · exact hgs.lt
    · exact hgl.lt
    · have := hF4 k h; omega
  · rintro pre M W1 W2 ⟨a1, a2, a3, a4, vf, ps, a5, a6, a7, a8⟩ hx
    exact ⟨(hx.less (by omega)).below a1 (Nat.le_refl _), Nat.le_trans a2 hx.size, a3.ext hx, a4.ext hx, vf, ps, a5.ext hx, a6.ext hx, a7, a8⟩
  · exact ⟨hb06, Nat.le_refl _, B3, B4, .slice none 0 0, [], B9, RowN.nil _ _ _ _, rfl, by funext k; simp [Value.ownBlock]⟩
  · rintro D L pre ⟨xv, xl⟩ M W hD hL ⟨a1, a2, a3, a4, vf, ps, a5, a6, a7, rfl⟩ ⟨⟨suf, hsuf⟩, hxs⟩ hMlt hML hMD hrec
    dsimp only at hsuf hxs
    obtain ⟨Ax, cx, rfl, _⟩ := hxs.form
    have hps : ps.length ≤ 3375 := by
      have e1 : ps.length = (ps.map (·.2)).length := by simp
      rw [e1, a7]
      have e2 := List.length_filter_le (fun S => dec (Poss d (restS l S))) (pre.map (·.2))
      have e3 := setsS_len (recsS l) n
      rw [hsuf] at e3
      simp at e3 e2
      have e4 : ((recsS l).length + 1) ^ n ≤ 15 ^ n := Nat.pow_le_pow_left (by omega) n
      have e5 : 15 ^ n ≤ 15 ^ 3 := Nat.pow_le_pow_right (by omega) (by omega)
      simp
      omega
    refine CW.region ?_
    refine TW.assign rfl rfl rfl ct ?_
    refine TW.nil (KW.pick [0, 1, 2, 3, 4, 6, 7, 8, 9, 10, 36] [(0, _, _), (1, _, _), (2, _, _), (3, _, _), (4, _, _), (6, _, _), (7, _, _), (8, _, _), (9, _, _), (10, _, _), (36, _, _)] rfl ?_)
    refine KW.begin hrec fun W2 hx2 hsz2 hk2 hrec2 => ?_
    have a1' : Below w.heap.size w W2 := (hx2.less (by omega)).below a1 (Nat.le_refl _)
    have a3' := a3.ext hx2
    have a4' := a4.ext hx2
    have a5' := a5.ext hx2
    have a6' := a6.ext hx2
    have hxs' := hxs.ext hx2
    refine CW.block (CW.seq (CW.draw mixed (by kernel_rfl) ?_))
    refine DW.load rfl rfl one22 rfl ct (fun _ => a3'.cell 0) ?_
    refine DW.load rfl rfl one23 rfl ct (fun _ => a4'.cell 0) ?_
    refine DW.move rfl rfl rfl ct ?_
    refine DW.call (.pr (fun u W => SE W u (restS l xl))) ?_ rfl rfl en29 rfl ct (DArgs.cons rfl ct (DArgs.cons rfl ct DArgs.nil)) (fun _ w' hb' => rest_c (se_step hl (a1'.step hb')) (hxs'.below hb') (by omega) (fun e he => by have := hne e he; omega)) ?_
    · exact fun _ _ _ hb h => se_step h hb
    refine DW.callP (.pr fun u _ => ∃ v, u = .tuple #[v, .bool (dec (Fitted d (restS l xl)))]) (Ent.mono_pure _) rfl rfl en25 rfl ct (PArgs.cons rfl ct (PArgs.cons rfl ct (PArgs.cons rfl ct PArgs.nil))) (fun _ w' hb' vs hs => ?_) ?_
    · obtain ⟨_, u, _, rfl, rfl, hu, rfl⟩ := Sats.three hs
      exact (fit_c (sd_step hd (a1'.step hb')) hu).mono fun x w'' ⟨h1, h2⟩ => ⟨h1, h2⟩
    refine DW.moveP rfl rfl rfl ct (Ent.mono_pure _) ?_
    refine DW.extractP (fun _ _ => True) rfl rfl rfl ct (Ent.mono_pure _) (fun u w' ⟨v', h1⟩ => ⟨_, v', h1, rfl, trivial⟩) ?_
    refine DW.extractP (fun u _ => u = .bool (dec (Fitted d (restS l xl)))) rfl rfl rfl ct (Ent.mono_pure _) (fun u w' ⟨v', h1⟩ => ⟨_, _, h1, rfl, rfl⟩) ?_
    refine DW.assignP rfl rfl rfl ct (Ent.mono_pure _) ?_
    refine DW.assignP rfl rfl rfl ct (Ent.mono_pure _) ?_
    refine DW.nil (DW.finP [9, 10, 12] rfl fun vs W3 hb3 hs3 => KW.then_ ?_)
    obtain ⟨v9, v10, v12, rfl, h9, h10, h12⟩ := Sats.three hs3
    refine CW.seq (CW.region ?_)
    refine TW.move rfl rfl rfl ct ?_
    refine TW.nil (KW.pick [9, 10, 12, 45] [(9, _, _), (10, _, _), (12, _, _), (45, _, _)] rfl (KW.then_ ?_))
    cases h9
    cases h10
    obtain rfl : v12 = _ := h12
    rw [dec_congr (hW.rest xl)]
    have hL2 : L < W2.heap.size := hrec2.lt
    have rec3 : W3.heap[L]? = W2.heap[L]? := hb3.block L hL2
    have s3 := hb3.size
    have a1'' := a1'.step hb3
    have a5'' := a5'.next hb3
    have a6'' := a6'.step hb3
    have hxs'' := hxs'.below hb3
    have hvlt : ∀ q, vf.ownBlock = some q → w6.heap.size ≤ q ∧ q < W2.heap.size := fun q hq => ⟨a6'.2.2 q hq, a6'.1.lt hq⟩
    have hLv : vf.ownBlock ≠ some L := fun e => hML (.inr e)
    have hDv : vf.ownBlock ≠ some D := fun e => hMD (.inr e)
    have hLg : L ≠ g9 := fun e => hML (.inl e)
    have hDg : D ≠ g9 := fun e => hMD (.inl e)
    refine CW.cond rfl (fun hyes => ?_) (fun hno => ?_)
    · refine CW.region ?_
      refine TW.load rfl rfl one22 rfl ct (fun _ => a5''.cell 0) ?_
      refine TW.move rfl rfl rfl ct ?_
      refine TW.buildSlice 24 _ rfl rfl rfl eo22 (Args.cons rfl ct Args.nil) rfl rfl rfl rfl rfl ?_
      rintro g48 w7 f7
      have o7 := a6''.1.below f7.below
      refine TW.append [.slice Ax xl.length cx] rfl rfl go22 rfl o7 rfl rfl (fun j v hj => ⟨⟨g48, 0, none⟩, rfl, f7.blk.fld hj⟩) (fun v hv => by simp at hv; subst hv; rfl) (by omega) (by omega) ?_
      rintro vf' w8 o8 hg8 hn8
      have s7 := f7.below.size
      have s8 := hg8.size
      have b8 : Blk w8 g9 22 [vf] := Blk.keptO (a5''.next f7.below) hg8 (fun e => by have := hvlt _ e; omega)
      obtain ⟨A8, c8, hv8, _⟩ := o8.form
      have h18 : vf'.oneCell' = true := by rw [hv8]; rfl
      refine TW.store1 rfl sz22 rfl rfl (b8.cell 0) (b8.frozen 0) h18 ?_
      have r8 : RowN (sliceT intT) w8 24 w6.heap.size vf' (ps ++ [([.slice Ax xl.length cx], xl)]) := by
        refine RowN.app (a6''.step f7.below) o8 hg8 hn8 ⟨_, rfl, ?_⟩ (by omega)
        refine ((hxs''.below f7.below).nb intT_nb).wider fun k hk => ⟨⟨hk.2, fun e => hk.1.2 (.inr e)⟩, hk.1.1⟩
      have r9 := r8.setCell (g := g9) (i := 0) (by omega) vf'
      have hnew : ∀ q, vf'.ownBlock = some q → vf.ownBlock = some q ∨ q = w7.heap.size := fun q hq => by
        rcases hn8 with h | h
        · exact .inl (by rw [← h]; exact hq)
        · rw [h] at hq; cases hq; exact .inr rfl
      have rec8 : w8.heap[L]? = W2.heap[L]? := (hg8.block L (by omega) (fun e => hLv e.symm)).trans ((f7.below.block L (by omega)).trans rec3)
      have kept8 : ∀ k, k < W.heap.size → ¬ (k = g9 ∨ vf.ownBlock = some k) → k ≠ L → w8.heap[k]? = W.heap[k]? := fun k h1 h2 h3 =>
        (hg8.block k (by omega) (fun e => h2 (.inr e.symm))).trans ((f7.below.block k (by omega)).trans ((hb3.block k (by omega)).trans (hk2 k h3)))
      have hb08 : Below w.heap.size w w8 := (a1''.step f7.below).grown hg8 (a1''.step f7.below).size (fun q hq => by have := hvlt q hq; omega)
      have b38 : Blk w8 g3 22 [.slice A d.length cap] := Blk.keptO ((a3'.next hb3).next f7.below) hg8 (fun e => by have := hvlt _ e; omega)
      have b48 : Blk w8 g4 23 [.slice B l.length lcap] := Blk.keptO ((a4'.next hb3).next f7.below) hg8 (fun e => by have := hvlt _ e; omega)
      refine KW.endN (hrec2.kept ((Below.heap_setCell _ _ _ _ (by show L ≠ g9; exact hLg)).trans rec8)) fun W9 hx9 hsz9 hk9 hrec9 => ?_
      have hs9 : W9.heap.size = w8.heap.size := by rw [hsz9]; simp
      refine ⟨by omega, fun k h1 h2 h3 => (hk9 k h3).trans ((Below.heap_setCell _ _ _ _ (fun e => h2 (.inl e))).trans (kept8 k h1 h2 h3)), fun _ => ⟨fun k => k = g9 ∨ vf'.ownBlock = some k, ⟨⟨(hx9.less (by omega)).below (hb08.setCell (by show w.heap.size ≤ g9; omega) _) (Nat.le_refl _), by omega, (b38.far (by show g3 ≠ g9; omega) vf').ext hx9, (b48.far (by show g4 ≠ g9; omega) vf').ext hx9, vf', _, (b8.set 0 vf').ext hx9, r9.ext hx9, ?_, rfl⟩, ?_, ?_, hrec9⟩, fun k hk => ?_⟩, fun h => by cases h⟩
      · rw [List.map_append, a7, List.map_append, List.filter_append]
        simp [hyes]
      · rintro (h | h)
        · exact hLg h
        · rcases hnew L h with h | h
          · exact hLv h
          · omega
      · rintro (h | h)
        · exact hDg h
        · rcases hnew D h with h | h
          · exact hDv h
          · omega
      · rcases hk with rfl | hk
        · exact ⟨.inl (.inl rfl), by omega⟩
        · rcases hnew k hk with h | h
          · exact ⟨.inl (.inr h), by have := hvlt k h; omega⟩
          · refine ⟨.inr (by omega), ?_⟩
            have := o8.lt hk
            omega
    · refine CW.skip (KW.blockN ?_)
      refine KW.endN (hrec2.kept rec3) fun W8 hx8 hsz8 hk8 hrec8 => ?_
      refine ⟨by omega, fun k h1 h2 h3 => (hk8 k h3).trans ((hb3.block k (by omega)).trans (hk2 k h3)), fun _ => ⟨fun k => k = g9 ∨ vf.ownBlock = some k, ⟨⟨(hx8.less (by omega)).below a1'' (Nat.le_refl _), by omega, (a3'.next hb3).ext hx8, (a4'.next hb3).ext hx8, vf, ps, a5''.ext hx8, a6''.ext hx8, ?_, rfl⟩, hML, hMD, hrec8⟩, fun k hk => ?_⟩, fun h => by cases h⟩
      · rw [a7]
        simp [List.filter_append, hno]
      · refine ⟨.inl hk, ?_⟩
        rcases hk with rfl | hk
        · omega
        · have := hvlt k hk; omega
  · rintro D xs M W hD hdone ⟨a1, a2, a3, a4, vf, ps, a5, a6, a7, rfl⟩ hMD hdef
    have hdone' : xs.map (·.2) = setsS (recsS l) n := hdone
    obtain ⟨Av, cv, hv⟩ := a6.rowL.form
    subst hv
    have hws : worldsS d l most = ps.map (·.2) := by
      unfold worldsS
      rw [if_pos ⟨dec_pos hW, hm.1, hm.2, hsm⟩, a7, hdone', hn]
    have hDn : D < W.heap.size := (Array.getElem?_eq_some_iff.1 hdef).1
    have hput : ExtF w6.heap.size W (W.putObj D (.deferred none)) := ExtF.putObj hdef rfl hD
    have hBp : Below w.heap.size w (W.putObj D (.deferred none)) := Below.putCtl a1 (by omega)
    refine KW.blockN (KW.then_ ?_)
    refine CW.seq (CW.seq (CW.region ?_))
    refine TW.load rfl rfl one22 rfl ct (fun _ => a5.cell 0) ?_
    refine TW.lenSlice rfl rfl Tryz.underlying22 rfl ct ?_
    refine TW.eql rfl rfl rfl ct rfl ct ?_
    refine TW.nil (KW.pick [0, 1, 2, 3, 4, 6, 7, 8, 9, 52] [(0, _, _), (1, _, _), (2, _, _), (3, _, _), (4, _, _), (6, _, _), (7, _, _), (8, _, _), (9, _, _), (52, _, _)] rfl (KW.then_ ?_))
    refine CW.condP rfl (fun hz => ?_) (fun hnz => ?_)
    · refine CW.seq (CW.region ?_)
      refine TW.assign rfl rfl rfl ct ?_
      refine TW.assign rfl rfl rfl ct ?_
      refine TW.nil (KW.pick [0, 1, 2, 3, 4, 6, 7, 8, 9] [(0, _, _), (1, _, _), (2, _, _), (3, _, _), (4, _, _), (6, _, _), (7, _, _), (8, _, _), (9, _, _)] rfl (KW.then_ ?_))
      refine CW.ret (KW.thenR ?_)
      refine ret2M Tryz.results24 rfl rfl hdef ⟨hBp, .slice none 0 0, ?_, ?_⟩
      · unfold worldsE
        rw [if_pos ⟨dec_pos hW, hm⟩, if_pos hsm, if_pos]
        rw [hws, List.map_eq_nil_iff, ← List.length_eq_zero_iff]
        omega
      · rw [hws, show ps = [] from List.length_eq_zero_iff.1 (by omega)]
        exact SL.nil _ _ _
    · refine CW.skip (KW.then_ (CW.seq (CW.region ?_)))
      refine TW.load rfl rfl one22 rfl ct (fun _ => a5.cell 0) ?_
      refine TW.assign rfl rfl rfl ct ?_
      refine TW.assign rfl rfl rfl ct ?_
      refine TW.nil (KW.pick [0, 1, 2, 3, 4, 6, 7, 8, 9] [(0, _, _), (1, _, _), (2, _, _), (3, _, _), (4, _, _), (6, _, _), (7, _, _), (8, _, _), (9, _, _)] rfl (KW.then_ ?_))
      refine CW.ret ?_
      refine ret2M Tryz.results24 rfl rfl hdef ⟨hBp, .slice Av ps.length cv, ?_, ?_⟩
      · unfold worldsE
        rw [if_pos ⟨dec_pos hW, hm⟩, if_pos hsm, if_neg]
        rw [hws, List.map_eq_nil_iff, ← List.length_eq_zero_iff]
        omega
      · rw [hws]
        exact ((a6.ext hput).sl (by show 0 < 1; omega)).wider fun _ h => h.2
  · rintro D c pre M W hD h
    exact h.elim
end Go.Proofs.YtmhfeehkpndadaaGreat
