import Derived.Test.YtegmhdabedgloaaK
import Derived.Test.YtegmhdabedgloaaPr
namespace Go.Proofs.Ytegmhdabedgloaa
open Go.PF Go.RowKit

theorem clone_c {F : Nat → Prop} {v : Value} {l : List Box} {w : World} (hl : SL boxT F w v l) (hn : l.length ≤ 200) :
    Gives Try.prog 64 #[v] w fun u w' => Below w.heap.size w w' ∧ OwnS w' 28 5 u l.length (l.flatMap boxCells) ∧ ∀ g, u.ownBlock = some g → w.heap.size ≤ g := by
  obtain ⟨A, cap, rfl, h1, h2, h3⟩ := id hl
  refine gives_of (vs := [.slice A l.length cap]) [(0, none, _)] Try.func64 rfl Try.ntmps64 rfl rfl ?_
  refine CW.seq (CW.region ?_)
  refine TW.assign rfl rfl rfl ct ?_
  refine TW.nil (KW.pick [0, 2] [(0, _, _), (2, _, _)] rfl (KW.then_ ?_))
  refine CW.seq (CW.seq (CW.region ?_))
  refine TW.move rfl rfl rfl ct ?_
  refine TW.eqlNil rfl rfl Try.underlying22 rfl ct ?_
  refine TW.nil (KW.pick [0, 2, 4] [(0, _, _), (2, _, _), (4, _, _)] rfl (KW.then_ ?_))
  refine CW.cond rfl (fun hnil => ?_) (fun hsome => ?_)
  · refine CW.seq (CW.region ?_)
    refine TW.assign rfl rfl rfl ct ?_
    refine TW.nil (KW.pick [0, 2] [(0, _, _), (2, _, _)] rfl (KW.then_ ?_))
    refine CW.ret (KW.thenR ?_)
    have : l = [] := by
      cases l with
      | nil => rfl
      | cons x xs =>
        obtain ⟨ad, _, ha, _⟩ := h3 0 x rfl
        rw [ha] at hnil; cases hnil
    subst this
    refine ret1 Try.results64 rfl (⟨Below.refl _ _, OwnS.nil _ _ _, fun g hg => by simp [Value.ownBlock] at hg⟩)
  · refine CW.skip (KW.then_ (CW.seq (CW.region ?_)))
    refine TW.buildSlice0 28 rfl rfl eo22 ?_
    rintro g2 w2 f2
    refine TW.move rfl rfl rfl ct ?_
    refine TW.append (l.flatMap boxCells) rfl rfl go22 rfl (OwnS.of_blk (sz := 5) (n := 0) f2.blk rfl (by omega)) rfl (flat_len _ _ _ (boxes_len l)) (SL.cells (T := boxT) boxCells (fun _ _ _ _ h => h.1) (by decide) (hl.below f2.below) (boxes_len l)) (boxes_one l) (by omega) (by omega) ?_
    rintro o w3 hown3 hg3 hnew3
    have hge2 : w.heap.size ≤ g2 := by have := f2.at_; omega
    have hb3 : Below w.heap.size w w3 := f2.below.grown hg3 f2.below.size (fun k hk => by simp [Value.ownBlock] at hk; omega)
    have hfr3 := new_own hnew3 (n0 := w.heap.size) (fun k hk => by simp [Value.ownBlock] at hk; omega) f2.below.size
    rw [Nat.zero_add, List.nil_append] at hown3
    refine TW.assign rfl rfl rfl ct ?_
    refine TW.nil (KW.pick [0, 2] [(0, _, _), (2, _, _)] rfl (KW.then_ ?_))
    refine CW.ret ?_
    refine ret1 Try.results64 rfl (⟨hb3, hown3, hfr3⟩)

structure Rule where
  f : FuncId
  caps : List Value
  e : Int
  b : Bool

def ruleCells (r : Rule) : List Value := [.func (.func r.f) #[] r.caps.toArray, .int .i64 r.e]

theorem rules_len (l : List Rule) : ∀ x ∈ l, (ruleCells x).length = 2 := fun _ _ => rfl

theorem rule_cell {w : World} {g : Nat} {t : TypeId} {rs : List Rule} (hB : Blk w g t (rs.flatMap ruleCells)) {i j : Nat} {r : Rule} {v : Value} (hr : rs[i]? = some r) (hj : (ruleCells r)[j]? = some v) : w.cell? ((Addr.add ⟨g, 0, none⟩ (i * 2)).add j) = some v := by
  rw [addr0, show Addr.add ⟨g, i * 2, none⟩ j = ⟨g, i * 2 + j, none⟩ by unfold Addr.add; simp, hB.cell]
  have hj2 : j < 2 := by have := (List.getElem?_eq_some_iff.1 hj).1; simpa [ruleCells] using this
  rw [flat_at ruleCells 2 rs (rules_len rs) i j r hr hj2, hj]

def ruled (rs : List Rule) (l : List Box) : List Box × Int := match rs.find? (·.b) with
  | some r => ([], r.e)
  | none => (l, 0)

theorem ruled_at {rs : List Rule} {l : List Box} {k : Nat} {r : Rule} (hr : rs[k]? = some r) (hb : r.b = true) (hall : ∀ (j : Nat) (r' : Rule), j < k → rs[j]? = some r' → r'.b = false) : ruled rs l = ([], r.e) := by
  unfold ruled
  have : rs.find? (·.b) = some r := by
    rw [List.find?_eq_some_iff_getElem]
    have hk := (List.getElem?_eq_some_iff.1 hr).1
    have he := (List.getElem?_eq_some_iff.1 hr).2
    refine ⟨hb, k, hk, he, fun j hj => ?_⟩
    have := hall j rs[j] hj (List.getElem?_eq_getElem (by omega))
    simp [this]
  rw [this]
theorem ruled_no {rs : List Rule} {l : List Box} (h : ∀ r ∈ rs, r.b = false) : ruled rs l = (l, 0) := by
  unfold ruled
  have : rs.find? (·.b) = none := by
    rw [List.find?_eq_none]
    intro r hr; simp [h r hr]
  rw [this]

set_option maxRecDepth 20000 in
theorem change_c {F : Nat → Prop} {v : Value} {l l' : List Box} {w : World} {gr : Nat} (rs : List Rule) (af : FuncId) (acaps : List Value) (hl : SL boxT F w v l) (hB : Blk w gr 53 (rs.flatMap ruleCells)) (hn : rs.length ≤ 10)
    (hr : ∀ (i : Nat) (r : Rule), rs[i]? = some r → (∀ (j : Nat) (r' : Rule), j < i → rs[j]? = some r' → r'.b = false) → enters Try.prog r.f = true ∧ Thunk Try.prog w r.f r.caps r.b)
    (halt : (∀ r ∈ rs, r.b = false) → l.length ≤ 200 ∧ l'.length = l.length ∧ (∀ b ∈ l', BoxR b) ∧ enters Try.prog af = true ∧ ∀ w' v', Below w.heap.size w w' → OwnS w' 28 5 v' l.length (l.flatMap boxCells) → (∀ g, v'.ownBlock = some g → w.heap.size ≤ g) →
      Gives Try.prog af (v' :: acaps).toArray w' fun _ w'' => Below w.heap.size w w'' ∧ OwnS w'' 28 5 v' l'.length (l'.flatMap boxCells)) :
    Gives Try.prog 38 #[v, .func (.func af) #[] acaps.toArray, .slice (some ⟨gr, 0, none⟩) rs.length rs.length] w (ResB w (ruled rs l')) := by
  obtain ⟨A, cap, rfl, h1, h2, h3⟩ := id hl
  refine gives_of (vs := [.slice A l.length cap, .func (.func af) #[] acaps.toArray, .slice (some ⟨gr, 0, none⟩) rs.length rs.length]) [(0, none, _), (1, none, _), (2, none, _)] Try.func38 rfl Try.ntmps38 rfl rfl ?_
  refine CW.seq (CW.region ?_)
  refine TW.assign rfl rfl rfl ct ?_
  refine TW.assign rfl rfl rfl ct ?_
  refine TW.nil (KW.pick [0, 1, 2, 6, 7] [(0, _, _), (1, _, _), (2, _, _), (6, _, _), (7, _, _)] rfl (KW.then_ ?_))
  refine CW.seq (CW.seq (CW.region ?_))
  refine TW.move rfl rfl rfl ct ?_
  refine TW.lenSlice rfl rfl Try.underlying62 rfl ct ?_
  refine TW.move rfl rfl rfl ct ?_
  refine TW.nil (KW.pick [0, 1, 2, 6, 7, 11, 12, 13] [(0, _, _), (1, _, _), (2, _, _), (6, _, _), (7, _, _), (11, _, _), (12, _, _), (13, _, _)] rfl (KW.then_ ?_))
  refine CW.block ?_
  refine CW.loopS (fun k : Nat => [(0, none, .slice A l.length cap), (1, none, .func (.func af) #[] acaps.toArray), (11, none, .slice (some ⟨gr, 0, none⟩) rs.length rs.length), (12, none, .int .i64 (rs.length : Int)), (13, none, .int .i64 (k : Int))])
    (fun k W => Below w.heap.size w W ∧ k ≤ rs.length ∧ ∀ (j : Nat) (r : Rule), j < k → rs[j]? = some r → r.b = false) (fun k => rs.length - k) 0 [0, 1, 11, 12, 13] ⟨Below.refl _ _, by omega, fun j x hj => by omega⟩ rfl ?_
  rintro k W ⟨hb, hk, hall⟩
  have hBW := hB.next hb
  refine CW.seq (CW.region ?_)
  refine TW.lss rfl rfl rfl ct rfl ct ?_
  refine TW.nil (KW.pick [0, 1, 11, 12, 13, 14] [(0, _, _), (1, _, _), (11, _, _), (12, _, _), (13, _, _), (14, _, _)] rfl (KW.then_ ?_))
  refine CW.seq ?_
  refine CW.condP rfl (fun hlt => ?_) (fun hge => ?_)
  · obtain ⟨r, hrk⟩ : ∃ r, rs[k]? = some r := ⟨rs[k], List.getElem?_eq_getElem (by omega)⟩
    obtain ⟨hen, hth⟩ := hr k r hrk hall
    refine CW.skip (KW.then_ (CW.seq (CW.block (CW.seq (CW.region ?_)))))
    refine TW.indexAddr rfl rfl Try.underlying62 sz53 rfl ct rfl ct (fun _ => by (try dsimp only); omega) ?_
    refine TW.loadS _ rfl rfl Try.underlying53 sz53 rfl ct (fun _ j v hj => rule_cell hBW hrk hj) rfl ?_
    refine TW.newVar rfl zc53 rfl sz53 rfl rfl ?_
    rintro gv w2 f2
    refine TW.nil (KW.pick [0, 1, 9, 11, 12, 13] [(0, _, _), (1, _, _), (9, _, _), (11, _, _), (12, _, _), (13, _, _)] rfl (KW.then_ ?_))
    refine CW.seq (CW.region ?_)
    refine TW.fieldAddr rfl rfl fo53_0 rfl ct ?_
    have hb2 := hb.step f2.below
    refine TW.load rfl rfl one23 rfl ct (fun _ => f2.blk.fld rfl) ?_
    refine TW.call0 rfl rfl hen rfl Args.nil (hth w2 hb2) ?_
    rintro _ w3 ⟨hb3, rfl⟩
    refine TW.nil (KW.pick [0, 1, 9, 11, 12, 13, 19] [(0, _, _), (1, _, _), (9, _, _), (11, _, _), (12, _, _), (13, _, _), (19, _, _)] rfl (KW.then_ ?_))
    have hb4 := hb2.step hb3
    have hf4 := f2.blk.next hb3
    refine CW.cond rfl (fun hyes => ?_) (fun hno => ?_)
    · refine CW.seq (CW.draw mixed (by kernel_rfl) ?_)
      refine DW.fieldAddr rfl rfl fo53_1 rfl ct ?_
      refine DW.load rfl rfl one33 rfl ct (fun _ => hf4.fld rfl) ?_
      refine DW.assign rfl rfl rfl ct ?_
      refine DW.assign rfl rfl rfl ct ?_
      refine DW.nil (DW.fin [0, 1, 6, 7, 9, 11, 12, 13] [(0, _, _), (1, _, _), (6, _, _), (7, _, _), (9, _, _), (11, _, _), (12, _, _), (13, _, _)] rfl (fun w5 hb5 => KW.then_ ?_))
      refine CW.ret (KW.blockR (KW.thenR (KW.thenR (KW.blockR (KW.thenR ?_)))))
      refine ret2 Try.results38 rfl rfl (ResB.err (e := r.e) (ruled_at hrk (by simpa using hyes) hall) (hb4.step hb5))
    · refine CW.skip (KW.blockN (KW.then_ (CW.region ?_)))
      refine TW.add rfl rfl rfl ct rfl ct (fun _ => by (try dsimp only); omega) ?_
      refine TW.move rfl rfl rfl ct ?_
      refine TW.nil (KW.pick [0, 1, 9, 11, 12, 13] [(0, _, _), (1, _, _), (9, _, _), (11, _, _), (12, _, _), (13, _, _)] rfl ?_)
      refine KW.round (k + 1) [0, 1, 11, 12, 13] rfl ⟨hb4, by omega, fun j r' hj hr' => ?_⟩ (by omega)
      rcases Nat.lt_or_ge j k with h | h
      · exact hall j r' h hr'
      · have : j = k := by omega
        subst this
        rw [hrk] at hr'
        simp only [Option.some.injEq] at hr'
        subst hr'
        simpa using hno
  · have hfalse : ∀ r ∈ rs, r.b = false := by
      intro r hm
      obtain ⟨i, hi, he⟩ := List.getElem_of_mem hm
      exact hall i r (by omega) (by rw [List.getElem?_eq_getElem hi, he])
    obtain ⟨hl1, hl2, hR, hen, hgo⟩ := halt hfalse
    refine CW.exit (KW.thenX (KW.thenX (KW.blockX (KW.then_ (CW.seq (CW.region ?_))))))
    refine TW.move rfl rfl rfl ct ?_
    refine TW.call0 (cap := []) rfl rfl en64 rfl (Args.cons rfl ct Args.nil) (clone_c (hl.below hb) hl1) ?_
    rintro u w2 ⟨hb2, hown2, hfr2⟩
    have hbb2 := hb.step hb2
    have hfr2' : ∀ g, u.ownBlock = some g → w.heap.size ≤ g := fun g hg => by have := hfr2 g hg; have := hb.size; omega
    refine TW.assign rfl rfl rfl ct ?_
    refine TW.nil (KW.pick [0, 1, 10, 11, 12, 13] [(0, _, _), (1, _, _), (10, _, _), (11, _, _), (12, _, _), (13, _, _)] rfl (KW.then_ ?_))
    refine CW.seq (CW.region ?_)
    refine TW.move rfl rfl rfl ct ?_
    refine TW.move rfl rfl rfl ct ?_
    refine TW.call0 rfl rfl hen rfl (Args.cons rfl ct Args.nil) (hgo w2 u hbb2 hown2 hfr2') ?_
    rintro _ w3 ⟨hb3, hown3⟩
    refine TW.nil (KW.pick [0, 1, 10, 11, 12, 13] [(0, _, _), (1, _, _), (10, _, _), (11, _, _), (12, _, _), (13, _, _)] rfl (KW.then_ ?_))
    refine CW.seq (CW.region ?_)
    refine TW.move rfl rfl rfl ct ?_
    refine TW.assign rfl rfl rfl ct ?_
    refine TW.assign rfl rfl rfl ct ?_
    refine TW.nil (KW.pick [0, 1, 6, 7, 10, 11, 12, 13] [(0, _, _), (1, _, _), (6, _, _), (7, _, _), (10, _, _), (11, _, _), (12, _, _), (13, _, _)] rfl (KW.then_ ?_))
    refine CW.ret ?_
    rw [ruled_no hfalse]
    refine ret2 Try.results38 rfl rfl (⟨u, rfl, own_boxes hown3 hR hfr2' (by show l'.length ≤ _; omega), hb3⟩)
end Go.Proofs.Ytegmhdabedgloaa
