import Derived.Test.YtegmhdabedgloaaR
import Derived.Test.YtegmhdabedgloaaSub
import Derived.Test.YtegmhdabedgloaaShelf
import Derived.Sort.OwnSortedInts
namespace Go.Proofs.Ytegmhdabedgloaa
open Go.PF Go.RowKit

abbrev natV (k : Nat) : Value := .int .i64 (k : Int)
def visV (g2 g5 g6 : Nat) : Value := .func (.func 61) #[] [ptr g2, ptr g5, ptr g6].toArray

/-- What the walk keeps: 'found' holds xs. -/
structure VS (w0 : World) (v : Value) (g2 g5 g6 : Nat) (w : World) (xs : List Nat) : Prop where
  below : Below w0.heap.size w0 w
  b2 : Blk w g2 22 [v]
  b6 : Blk w g6 59 [visV g2 g5 g6]
  b5 : ∃ vf, Blk w g5 25 [vf] ∧ OwnS w 3 1 vf xs.length (xs.map natV) ∧ ∀ g, vf.ownBlock = some g → w0.heap.size ≤ g ∧ g ≠ g2 ∧ g ≠ g5 ∧ g ≠ g6

set_option maxRecDepth 20000 in
theorem visit_c {F : Nat → Prop} {v : Value} {l : List Box} {w0 : World} {g2 g5 g6 : Nat} (hF : ∀ k, F k → k < w0.heap.size) (hl : SL boxT F w0 v l) (hv : Valid l) (hg2 : w0.heap.size ≤ g2) (hg5 : w0.heap.size ≤ g5) (hg6 : w0.heap.size ≤ g6) (h25 : g2 ≠ g5) (h65 : g6 ≠ g5) : ∀ (n : Nat) (o : Nat) (q : Box) (xs : List Nat) (w : World), l[o]? = some q → q.kind < n → xs.length + (subs l n o).length ≤ 1000000 → VS w0 v g2 g5 g6 w xs →
    Gives Try.prog 61 #[.int .i64 (o : Int), ptr g2, ptr g5, ptr g6] w fun _ w' => VS w0 v g2 g5 g6 w' (xs ++ subs l n o) := by
  intro n
  induction n with
  | zero => intro o q xs w hq hk; have := (hv.each o q hq).k1; omega
  | succ n ih =>
  intro o q xs w hq hk hlen hvs
  rw [subs_succ] at hlen ⊢
  obtain ⟨A, cap, rfl, h1, h2, h3⟩ := id hl
  have hfew := hv.few
  have hol := (List.getElem?_eq_some_iff.1 hq).1
  refine gives_of (vs := [.int .i64 (o : Int), ptr g2, ptr g5, ptr g6]) [(0, none, _), (1, none, _), (2, none, _), (3, none, _)] Try.func61 rfl Try.ntmps61 rfl rfl ?_
  refine CW.seq (CW.region ?_)
  refine TW.load rfl rfl one22 rfl ct (fun _ => hvs.b2.cell 0) ?_
  refine TW.lenSlice rfl rfl Try.underlying22 rfl ct ?_
  refine TW.move rfl rfl rfl ct ?_
  refine TW.nil (KW.pick [0, 1, 2, 3, 7, 8] [(0, _, _), (1, _, _), (2, _, _), (3, _, _), (7, _, _), (8, _, _)] rfl (KW.then_ ?_))
  refine CW.block ?_
  refine CW.loopS (fun k : Nat => [(0, none, .int .i64 (o : Int)), (1, none, ptr g2), (2, none, ptr g5), (3, none, ptr g6), (7, none, .int .i64 (l.length : Int)), (8, none, .int .i64 (k : Int))])
    (fun k W => k ≤ l.length ∧ VS w0 (.slice A l.length cap) g2 g5 g6 W (xs ++ subsTo l n o k)) (fun k => l.length - k) 0 [0, 1, 2, 3, 7, 8] ⟨by omega, by rw [subsTo_zero, List.append_nil]; exact hvs⟩ rfl ?_
  rintro k W ⟨hk1, hV⟩
  refine CW.seq (CW.region ?_)
  refine TW.lss rfl rfl rfl ct rfl ct ?_
  refine TW.nil (KW.pick [0, 1, 2, 3, 7, 8, 9] [(0, _, _), (1, _, _), (2, _, _), (3, _, _), (7, _, _), (8, _, _), (9, _, _)] rfl (KW.then_ ?_))
  refine CW.seq ?_
  refine CW.condP rfl (fun hlt => ?_) (fun hge => ?_)
  · obtain ⟨b, hb⟩ : ∃ b, l[k]? = some b := ⟨l[k], List.getElem?_eq_getElem (by omega)⟩
    have hlW := hl.below hV.below
    obtain ⟨ad, rfl, _, _, _⟩ := box_at hlW hb
    refine CW.skip (KW.then_ (CW.seq (CW.block (CW.seq (CW.region ?_)))))
    refine TW.move rfl rfl rfl ct ?_
    refine TW.assign rfl rfl rfl ct ?_
    refine TW.nil (KW.pick [0, 1, 2, 3, 5, 7, 8] [(0, _, _), (1, _, _), (2, _, _), (3, _, _), (5, _, _), (7, _, _), (8, _, _)] rfl (KW.then_ ?_))
    refine CW.seq (CW.region ?_)
    refine TW.load rfl rfl one22 rfl ct (fun _ => hV.b2.cell 0) ?_
    refine TW.move rfl rfl rfl ct ?_
    refine TW.indexAddr rfl rfl Try.underlying22 sz28 rfl ct rfl ct (fun _ => by (try dsimp only); omega) ?_
    refine TW.fieldAddr rfl rfl fo28_2 rfl ct ?_
    refine TW.load rfl rfl one3 rfl ct (fun _ => box_cell hlW hb rfl) ?_
    refine TW.move rfl rfl rfl ct ?_
    refine TW.eql rfl rfl rfl ct rfl ct ?_
    refine TW.nil (KW.pick [0, 1, 2, 3, 5, 7, 8, 17] [(0, _, _), (1, _, _), (2, _, _), (3, _, _), (5, _, _), (7, _, _), (8, _, _), (17, _, _)] rfl (KW.then_ ?_))
    refine CW.condP rfl (fun heq => ?_) (fun hne => ?_)
    · have hch : child l o k = true := by simp [child, hb]; exact heq
      have hsz := subsTo_le l n o (show k + 1 ≤ l.length by omega)
      rw [subsTo_succ, if_pos hch] at hsz
      simp only [List.length_append, List.length_cons] at hsz
      obtain ⟨vf, hB5, hown, hofr⟩ := hV.b5
      refine CW.seq (CW.region ?_)
      refine TW.load rfl rfl one25 rfl ct (fun _ => hB5.cell 0) ?_
      refine TW.move rfl rfl rfl ct ?_
      refine TW.buildSlice 3 _ rfl rfl rfl eo25 (Args.cons rfl ct Args.nil) rfl rfl rfl rfl rfl ?_
      rintro g1 w3 f3
      have hown3 := hown.below f3.below
      refine TW.append [natV k] rfl rfl go25 rfl hown3 rfl rfl (fun j v hj => ⟨⟨g1, 0, none⟩, rfl, f3.blk.fld hj⟩) (fun v hv => by simp at hv; subst hv; rfl) (by simp only [List.length_append]; omega) (by omega) ?_
      rintro vf' w4 hown4 hg4 hnew4
      have s3 := f3.below.size
      have l2 := hV.b2.lt
      have l5 := hB5.lt
      have l6 := hV.b6.lt
      have keep : ∀ g, g < W.heap.size → (∀ x, vf.ownBlock = some x → x ≠ g) → w4.heap[g]? = W.heap[g]? := fun g hg hne => (hg4.block g (by omega) (fun e => hne g e.symm rfl)).trans (f3.below.block g hg)
      have B2' : Blk w4 g2 22 [.slice (some ad) l.length cap] := (keep g2 l2 fun x hx => (hofr x hx).2.1).trans hV.b2
      have B6' : Blk w4 g6 59 [visV g2 g5 g6] := (keep g6 l6 fun x hx => (hofr x hx).2.2.2).trans hV.b6
      have B5' : Blk w4 g5 25 [vf] := (keep g5 l5 fun x hx => (hofr x hx).2.2.1).trans hB5
      have hbe4 : Below w0.heap.size w0 w4 := grown_below hg4 (hV.below.step f3.below) (fun x hx => (hofr x hx).1)
      have hofr4 : ∀ g, vf'.ownBlock = some g → w0.heap.size ≤ g ∧ g ≠ g2 ∧ g ≠ g5 ∧ g ≠ g6 := by
        intro g hg
        rcases hnew4 with h | h
        · exact hofr g (h ▸ hg)
        · rw [h] at hg; simp only [Option.some.injEq] at hg
          have := hV.below.size
          omega
      have hcv : vf'.oneCell' = true := by
        obtain ⟨A', c', e', _⟩ := hown4.form
        rw [e']; rfl
      refine TW.store1 rfl sz25 rfl rfl (B5'.cell 0) (B5'.frozen 0) hcv ?_
      have hV5 : VS w0 (.slice (some ad) l.length cap) g2 g5 g6 (w4.setCell ⟨g5, 0, none⟩ vf') (xs ++ subsTo l n o k ++ [k]) := by
        refine ⟨hbe4.setCell (by show w0.heap.size ≤ g5; omega) _, B2'.far (by show g2 ≠ g5; omega) _, B6'.far (by show g6 ≠ g5; omega) _, vf', B5'.set 0 vf', ?_, hofr4⟩
        have : OwnS (w4.setCell ⟨g5, 0, none⟩ vf') 3 1 vf' ((xs ++ subsTo l n o k).length + 1) ((xs ++ subsTo l n o k).map natV ++ [natV k]) := hown4.kept fun g hg => Below.heap_setCell _ _ _ _ (by show g ≠ g5; exact (hofr4 g hg).2.2.1)
        have e1 : (xs ++ subsTo l n o k ++ [k]).length = (xs ++ subsTo l n o k).length + 1 := by rw [List.length_append (bs := [k])]; rfl
        have e2 : (xs ++ subsTo l n o k ++ [k]).map natV = (xs ++ subsTo l n o k).map natV ++ [natV k] := by rw [List.map_append (l₂ := [k])]; rfl
        rw [e1, e2]
        exact this
      generalize w4.setCell ⟨g5, 0, none⟩ vf' = w5 at hV5
      refine TW.nil (KW.pick [0, 1, 2, 3, 5, 7, 8] [(0, _, _), (1, _, _), (2, _, _), (3, _, _), (5, _, _), (7, _, _), (8, _, _)] rfl (KW.then_ ?_))
      refine CW.region ?_
      have hkb : b.kind < n := by
        obtain ⟨_, b', q', e1, e2, e3⟩ := child_out hv hch
        rw [hb] at e1; rw [hq] at e2; cases e1; cases e2; omega
      have hlb : (xs ++ subsTo l n o k ++ [k]).length + (subs l n k).length ≤ 1000000 := by
        simp only [List.length_append, List.length_cons, List.length_nil]; omega
      refine TW.load rfl rfl one59 rfl ct (fun _ => hV5.b6.cell 0) ?_
      refine TW.move rfl rfl rfl ct ?_
      refine TW.call0 rfl rfl en61 rfl (Args.cons rfl ct Args.nil) (ih k b _ w5 hb hkb hlb hV5) ?_
      rintro _ w6 hV6
      refine TW.nil (KW.pick [0, 1, 2, 3, 5, 7, 8] [(0, _, _), (1, _, _), (2, _, _), (3, _, _), (5, _, _), (7, _, _), (8, _, _)] rfl (KW.blockN (KW.then_ ?_)))
      refine CW.region ?_
      refine TW.add rfl rfl rfl ct rfl ct (fun _ => by (try dsimp only); omega) ?_
      refine TW.move rfl rfl rfl ct ?_
      refine TW.nil (KW.pick [0, 1, 2, 3, 5, 7, 8] [(0, _, _), (1, _, _), (2, _, _), (3, _, _), (5, _, _), (7, _, _), (8, _, _)] rfl ?_)
      refine KW.round (k + 1) [0, 1, 2, 3, 7, 8] rfl ⟨by omega, ?_⟩ (by omega)
      rw [subsTo_succ, if_pos hch]
      simpa using hV6
    · have hch : child l o k = false := by simp [child, hb]; exact hne
      refine CW.skip (KW.blockN (KW.then_ (CW.region ?_)))
      refine TW.add rfl rfl rfl ct rfl ct (fun _ => by (try dsimp only); omega) ?_
      refine TW.move rfl rfl rfl ct ?_
      refine TW.nil (KW.pick [0, 1, 2, 3, 5, 7, 8] [(0, _, _), (1, _, _), (2, _, _), (3, _, _), (5, _, _), (7, _, _), (8, _, _)] rfl ?_)
      refine KW.round (k + 1) [0, 1, 2, 3, 7, 8] rfl ⟨by omega, ?_⟩ (by omega)
      rw [subsTo_succ, hch]
      simpa using hV
  · refine CW.exit (KW.thenX (KW.thenX (KW.blockX ?_)))
    have : k = l.length := by omega
    subst this
    refine end0 Try.results61 (hV)
end Go.Proofs.Ytegmhdabedgloaa
