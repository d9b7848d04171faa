import Derived.Test.YtegmhdabedgloaaT
import Derived.Test.YtegmhdabedgloaaPlc
namespace Go.Proofs.Ytegmhdabedgloaa
open Go.PF Go.RowKit

theorem own_store {w w' : World} {v u : Value} {e : TypeId} {sz n : Nat} {xs : List Value} (hg : w.grownBy w' v.ownBlock) (hown : OwnS w e sz u n xs) (hne : ∀ g, u.ownBlock = some g → v.ownBlock ≠ some g) : OwnS w' e sz u n xs :=
  hown.kept fun g hg' => hg.block g (hown.lt hg') (fun e => hne g hg' e.symm)

set_option maxRecDepth 20000 in
theorem move1_c {F : Nat → Prop} {v vl : Value} {l : List Box} {w0 w : World} {gp gi gl : Nat} (i : Nat) (b : Box) (p : Int) (hF : ∀ k, F k → k < w0.heap.size) (hl : SL boxT F w0 vl l) (hv : Valid l) (hb : l[i]? = some b)
    (hP : Blk w0 gp 3 [.int .i64 p]) (hI : Blk w0 gi 3 [.int .i64 (i : Int)]) (hL : Blk w0 gl 22 [vl]) (hbw : Below w0.heap.size w0 w)
    (hown : OwnS w 28 5 v l.length (l.flatMap boxCells)) (hfr : ∀ g, v.ownBlock = some g → w0.heap.size ≤ g) :
    Gives Try.prog 37 #[v, ptr gp, ptr gi, ptr gl] w fun _ w' => Below w0.heap.size w0 w' ∧ OwnS w' 28 5 v (placed l ([i] ++ inside l i) p).length ((placed l ([i] ++ inside l i) p).flatMap boxCells) := by
  have hi := (List.getElem?_eq_some_iff.1 hb).1
  have hfew := hv.few
  obtain ⟨g, cap, rfl⟩ := own_at hown hb
  have hgw := hfr g rfl
  have hglt : g < w.heap.size := hown.lt rfl
  refine gives_of (vs := [.slice (some ⟨g, 0, none⟩) l.length cap, ptr gp, ptr gi, ptr gl]) [(0, none, _), (1, none, _), (2, none, _), (3, none, _)] Try.func37 rfl Try.ntmps37 rfl rfl ?_
  refine CW.seq (CW.region ?_)
  refine TW.move rfl rfl rfl ct ?_
  refine TW.load rfl rfl one3 rfl ct (fun _ => (hI.next hbw).cell 0) ?_
  refine TW.load rfl rfl one3 rfl ct (fun _ => (hP.next hbw).cell 0) ?_
  refine TW.indexAddr rfl rfl Try.underlying22 sz28 rfl ct rfl ct (fun _ => by (try dsimp only); omega) ?_
  refine TW.fieldAddr rfl rfl fo28_3 rfl ct ?_
  refine TW.storeOwn1 (i := i) rfl sz3 rfl rfl hown hi (by omega) rfl ?_
  rintro w1 hown1 hg1 hs1
  rw [set_flat boxCells 5 l (boxes_len l) i 3 b { b with place := p } (.int .i64 p) hb (by omega) rfl, placed_one l p hb] at hown1
  have hb1 : Below w0.heap.size w0 w1 := hbw.grown hg1 hbw.size (fun k hk => by simp at hk; omega)
  refine TW.nil (KW.pick [0, 1, 2, 3] [(0, _, _), (1, _, _), (2, _, _), (3, _, _)] rfl (KW.then_ ?_))
  refine CW.seq (CW.region ?_)
  refine TW.load rfl rfl one22 rfl ct (fun _ => (hL.next hb1).cell 0) ?_
  refine TW.load rfl rfl one3 rfl ct (fun _ => (hI.next hb1).cell 0) ?_
  have hFw : ∀ k, F k → k < w1.heap.size := fun k hk => by have := hF k hk; have := hb1.size; omega
  refine TW.call0 (cap := []) rfl rfl en35 rfl (Args.cons rfl ct (Args.cons rfl ct Args.nil)) (contents_c i hFw (hl.below hb1) hv hi) ?_
  rintro u w2 ⟨hb2, hownu, hfru⟩
  have hb02 := hb1.step hb2
  have hle : (inside l i).length ≤ l.length := by
    have : (inside l i).length ≤ (List.range l.length).length := List.length_filter_le _ _
    simpa using this
  obtain ⟨Au, cu, rfl, hcu, _, _⟩ := hownu.form
  have hne : ∀ x, (Value.slice Au (inside l i).length cu).ownBlock = some x → x ≠ g := fun x hx => by have := hfru x hx; omega
  refine TW.lenSlice rfl rfl Try.underlying25 rfl ct ?_
  refine TW.move rfl rfl rfl ct ?_
  refine TW.nil (KW.pick [0, 1, 2, 3, 14, 15, 16] [(0, _, _), (1, _, _), (2, _, _), (3, _, _), (14, _, _), (15, _, _), (16, _, _)] rfl (KW.then_ ?_))
  refine CW.block ?_
  refine CW.loopS (fun k : Nat => [(0, none, .slice (some ⟨g, 0, none⟩) l.length cap), (1, none, ptr gp), (14, none, .slice Au (inside l i).length cu), (15, none, .int .i64 ((inside l i).length : Int)), (16, none, .int .i64 (k : Int))])
    (fun k W => k ≤ (inside l i).length ∧ Below w0.heap.size w0 W ∧ OwnS W 3 1 (.slice Au (inside l i).length cu) (inside l i).length ((inside l i).map natV) ∧ OwnS W 28 5 (.slice (some ⟨g, 0, none⟩) l.length cap) l.length ((placed l ([i] ++ (inside l i).take k) p).flatMap boxCells))
    (fun k => (inside l i).length - k) 0 [0, 1, 14, 15, 16] ⟨by omega, hb02, hownu, by simpa using hown1.below hb2⟩ rfl ?_
  rintro k W ⟨hk, hbW, hoU, hoV⟩
  refine CW.seq (CW.region ?_)
  refine TW.lss rfl rfl rfl ct rfl ct ?_
  refine TW.nil (KW.pick [0, 1, 14, 15, 16, 17] [(0, _, _), (1, _, _), (14, _, _), (15, _, _), (16, _, _), (17, _, _)] rfl (KW.then_ ?_))
  refine CW.seq ?_
  refine CW.condP rfl (fun hlt => ?_) (fun hge => ?_)
  · obtain ⟨x, hx⟩ : ∃ x, (inside l i)[k]? = some x := ⟨(inside l i)[k], List.getElem?_eq_getElem (by omega)⟩
    have hxl : x < l.length := by
      have := List.mem_of_getElem? hx
      simp [inside] at this
      exact this.1
    obtain ⟨c, hc⟩ : ∃ c, l[x]? = some c := ⟨l[x], List.getElem?_eq_getElem hxl⟩
    obtain ⟨a, rfl, hcell, _⟩ := (own_nats (F := fun _ => True) hoU (fun y hy => by simp [inside] at hy; omega) (fun _ _ => trivial) (by omega)).int (i := k) (x := (x : Int)) (by simp [hx])
    refine CW.skip (KW.then_ (CW.seq (CW.block (CW.seq (CW.region ?_)))))
    refine TW.indexAddr rfl rfl Try.underlying25 sz3 rfl ct rfl ct (fun _ => by (try dsimp only); omega) ?_
    refine TW.load rfl rfl one3 rfl ct (fun _ => hcell) ?_
    refine TW.assign rfl rfl rfl ct ?_
    refine TW.nil (KW.pick [0, 1, 6, 14, 15, 16] [(0, _, _), (1, _, _), (6, _, _), (14, _, _), (15, _, _), (16, _, _)] rfl (KW.then_ ?_))
    refine CW.region ?_
    refine TW.move rfl rfl rfl ct ?_
    refine TW.move rfl rfl rfl ct ?_
    refine TW.load rfl rfl one3 rfl ct (fun _ => (hP.next hbW).cell 0) ?_
    refine TW.indexAddr rfl rfl Try.underlying22 sz28 rfl ct rfl ct (fun _ => by (try dsimp only); omega) ?_
    refine TW.fieldAddr rfl rfl fo28_3 rfl ct ?_
    refine TW.storeOwn1 (i := x) rfl sz3 rfl rfl hoV hxl (by omega) rfl ?_
    rintro w3 hown3 hg3 hs3
    rw [set_flat boxCells 5 _ (boxes_len _) x 3 _ { (if x ∈ [i] ++ (inside l i).take k then { c with place := p } else c) with place := p } (.int .i64 p) (placed_get l _ p hc) (by omega) rfl, ← placed_snoc l _ p hc] at hown3
    refine TW.nil (KW.pick [0, 1, 6, 14, 15, 16] [(0, _, _), (1, _, _), (6, _, _), (14, _, _), (15, _, _), (16, _, _)] rfl (KW.blockN (KW.then_ ?_)))
    refine CW.region ?_
    refine TW.add rfl rfl rfl ct rfl ct (fun _ => by (try dsimp only); omega) ?_
    refine TW.move rfl rfl rfl ct ?_
    refine TW.nil (KW.pick [0, 1, 6, 14, 15, 16] [(0, _, _), (1, _, _), (6, _, _), (14, _, _), (15, _, _), (16, _, _)] rfl ?_)
    refine KW.round (k + 1) [0, 1, 14, 15, 16] rfl ⟨by omega, hbW.grown hg3 hbW.size (fun k hk => by simp at hk; omega), hoU.kept fun y hy => hg3.block y (hoU.lt hy) (fun e => by simp at e; exact hne y hy e), ?_⟩ (by omega)
    rw [List.take_add_one, hx]
    simpa using hown3
  · refine CW.exit (KW.thenX (KW.thenX (KW.blockX ?_)))
    have : k = (inside l i).length := by omega
    subst this
    rw [List.take_length] at hoV
    refine end0 Try.results37 (⟨hbW, by rw [placed_len]; exact hoV⟩)
end Go.Proofs.Ytegmhdabedgloaa
