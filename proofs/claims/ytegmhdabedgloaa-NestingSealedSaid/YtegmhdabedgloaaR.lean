import Derived.Test.YtegmhdabedgloaaQ
namespace Go.Proofs.Ytegmhdabedgloaa
open Go.PF Go.RowKit

theorem bhas_dec (l : List Box) (x : Int) : dec (Valid l ∧ ∀ i ∈ [x], 0 ≤ i ∧ i < (l.length : Int)) = dec (BHas l x) := dec_congr (by simp [BHas])

set_option maxRecDepth 20000 in
theorem root_c {F : Nat → Prop} {v : Value} {l : List Box} {w : World} (box : Int) (hF : ∀ k, F k → k < w.heap.size) (hi1 : I64 box) (hl : SL boxT F w v l) :
    Gives Try.prog 14 #[v, .int .i64 box] w fun u w' => Below w.heap.size w w' ∧ u = .int .i64 (rootI l box) := by
  obtain ⟨A, cap, rfl, h1, h2, h3⟩ := id hl
  refine gives_ofM (vs := [.slice A l.length cap, .int .i64 box]) [(0, none, _), (1, none, _)] Try.func14 rfl Try.ntmps14 rfl rfl ?_
  refine CW.seq (CW.region ?_)
  refine TW.assign rfl rfl rfl ct ?_
  refine TW.nil (KW.pick [0, 1, 4] [(0, _, _), (1, _, _), (4, _, _)] rfl (KW.then_ ?_))
  refine CW.seq (CW.seq (CW.region ?_))
  refine TW.move rfl rfl rfl ct ?_
  refine TW.move rfl rfl rfl ct ?_
  refine TW.buildSlice 3 _ rfl rfl rfl eo25 (Args.cons rfl ct Args.nil) rfl rfl rfl rfl rfl ?_
  rintro gs w0 f0
  refine TW.callF (cap := []) rfl rfl en34 rfl ct (Args.cons rfl ct (Args.cons rfl ct Args.nil)) (fun _ => has_c (hl.below f0.below) (lies_ints (is := [box]) ⟨gs, rfl, f0.blk⟩ (by simpa using hi1) (by simp))) ?_
  rintro w1 hb1
  refine TW.not rfl rfl rfl ct ?_
  refine TW.nil (KW.pick [0, 1, 4, 11] [(0, _, _), (1, _, _), (4, _, _), (11, _, _)] rfl (KW.then_ ?_))
  have hbb1 := f0.below.step hb1
  rw [bhas_dec] at *
  refine CW.cond rfl (fun hno => ?_) (fun hyes => ?_)
  · refine CW.seq (CW.region ?_)
    refine TW.assign rfl rfl rfl ct ?_
    refine TW.nil (KW.pick [0, 1, 4] [(0, _, _), (1, _, _), (4, _, _)] rfl (KW.then_ ?_))
    refine CW.ret (KW.thenR ?_)
    refine ret1M0 Try.results14 rfl (⟨hbb1, ?_⟩)
    unfold rootI
    rw [if_neg]
    intro h
    rw [dec_pos h] at hno
    cases hno
  · have hx : BHas l box := dec_iff.1 (by simpa using hyes)
    obtain ⟨i, rfl⟩ : ∃ i : Nat, box = i := ⟨box.toNat, by have := hx.2.1; omega⟩
    have hi : i < l.length := by have := hx.2.2; omega
    have hv := hx.1
    have hroot : rootI l i = ((root l i : Nat) : Int) := by unfold rootI; rw [if_pos hx]; simp
    refine CW.skip (KW.then_ (CW.seq (CW.region ?_)))
    refine TW.move rfl rfl rfl ct ?_
    refine TW.alloc rfl rfl zc3 ?_
    rintro g5 w2 f2
    refine TW.store1 rfl sz3 rfl rfl (f2.blk.cell 0) (f2.blk.frozen 0) rfl ?_
    have hB5 := f2.blk.set 0 (.int .i64 (i : Int))
    have n5 := f2.at_
    have hb2 : Below w.heap.size w (w2.setCell ⟨g5, 0, none⟩ (.int .i64 (i : Int))) := (hbb1.step f2.below).setCell (by show w.heap.size ≤ g5; have := hbb1.size; omega) _
    generalize w2.setCell ⟨g5, 0, none⟩ (.int .i64 (i : Int)) = w3 at hB5 hb2
    refine TW.nil (KW.pick [0, 1, 4, 5] [(0, _, _), (1, _, _), (4, _, _), (5, _, _)] rfl (KW.then_ ?_))
    refine CW.seq (CW.seq (CW.region ?_))
    refine TW.move rfl rfl rfl ct ?_
    refine TW.move rfl rfl rfl ct ?_
    refine TW.call0 (cap := []) rfl rfl en36 rfl (Args.cons rfl ct (Args.cons rfl ct Args.nil)) (outside_c _ _ w3 rfl rfl) ?_
    rintro _ w4 ⟨hb4, ga, gb, rfl, B3, B4, hg3, hg4⟩
    refine TW.nil (KW.pick [0, 1, 4, 5, 15] [(0, _, _), (1, _, _), (4, _, _), (5, _, _), (15, _, _)] rfl (KW.then_ ?_))
    refine CW.block ?_
    have b04 := hb2.step hb4
    have m3 := hB5.lt
    have m4 := B3.lt
    have m5 := B4.lt
    have m6 := hbb1.size
    refine CW.range rfl en63 (outside_iter i ga gb (hl.below b04) hv hi B3 B4) rfl (fun _ => rfl)
      (fun pre M W => Below w.heap.size w W ∧ Blk W g5 3 [.int .i64 ((pre.getLastD i : Nat) : Int)] ∧ M = fun k => k = g5)
      (fun c pre M W => False) (fun k => k = g5)
      (fun k hk => by subst hk; exact ⟨by have := hb4.size; omega, fun h => by rcases h.1 with h | h | h; omega; omega; have := hF _ h; omega⟩) (fun k hk => hk.2)
      (fun pre M W1 W2 ⟨a1, a2, a3⟩ hx => ⟨(hx.less (by have := b04.size; omega)).below a1 (Nat.le_refl _), a2.ext hx, a3⟩)
      (fun c pre M W1 W2 h hx => h)
      ⟨b04, hB5.next hb4, rfl⟩ ?_ ?_ ?_
    · rintro D L pre p M W hD hL ⟨a1, a2, rfl⟩ ⟨suf, hpos⟩ hMlt hML hMD hrec
      have n6 := b04.size
      refine CW.region ?_
      refine TW.assign rfl rfl rfl ct ?_
      refine TW.nil (KW.pick [0, 1, 4, 5, 6, 16] [(0, _, _), (1, _, _), (4, _, _), (5, _, _), (6, _, _), (16, _, _)] rfl ?_)
      refine KW.begin hrec fun W2 hx hsz hk hrec2 => ?_
      have a2' : Blk W2 g5 3 [.int .i64 ((pre.getLastD i : Nat) : Int)] := a2.ext hx
      have a1' : Below w.heap.size w W2 := (hx.less (by omega)).below a1 (Nat.le_refl _)
      refine CW.block (CW.region ?_)
      refine TW.move rfl rfl rfl ct ?_
      refine TW.store1 rfl sz3 rfl rfl (a2'.cell 0) (a2'.frozen 0) rfl ?_
      refine TW.nil (KW.pick [0, 1, 4, 5, 6, 16] [(0, _, _), (1, _, _), (4, _, _), (5, _, _), (6, _, _), (16, _, _)] rfl (KW.blockN ?_))
      have c1 : Below w.heap.size w (W2.setCell ⟨g5, 0, none⟩ (.int .i64 (p : Int))) := a1'.setCell (by show w.heap.size ≤ g5; omega) _
      refine KW.endN (hrec2.kept (Below.heap_setCell _ _ _ _ (by show L ≠ g5; have := hb4.size; omega))) fun W3 hx3 hsz3 hk3 hrec3 => ⟨?_, ?_, fun _ => ⟨_, ⟨⟨?_, ?_, rfl⟩, hML, hMD, hrec3⟩, ?_⟩, (fun h => by cases h)⟩
      · have : (W2.setCell ⟨g5, 0, none⟩ (.int .i64 (p : Int))).heap.size = W2.heap.size := by simp
        omega
      · intro k hk1 hk2 hk4
        exact (hk3 k hk4).trans ((Below.heap_setCell _ _ _ _ hk2).trans (hk k hk4))
      · exact (hx3.less (by omega)).below c1 (Nat.le_refl _)
      · have := (a2'.set 0 (.int .i64 (p : Int))).ext hx3
        simpa using this
      · intro k hk
        have : (W2.setCell ⟨g5, 0, none⟩ (.int .i64 (p : Int))).heap.size = W2.heap.size := by simp
        exact ⟨.inl hk, by have := hMlt k hk; omega⟩
    · rintro D xs M W hD rfl ⟨a1, a2, rfl⟩ hdef
      refine KW.blockN (KW.then_ ?_)
      refine CW.seq (CW.region ?_)
      refine TW.load rfl rfl one3 rfl ct (fun _ => a2.cell 0) ?_
      refine TW.assign rfl rfl rfl ct ?_
      refine TW.nil (KW.pick [0, 1, 4, 5] [(0, _, _), (1, _, _), (4, _, _), (5, _, _)] rfl (KW.then_ ?_))
      refine CW.ret ?_
      refine ret1M Try.results14 rfl hdef ⟨Below.putCtl a1 (by have := b04.size; omega), ?_⟩
      rw [hroot]; rfl
    · rintro D c pre M W hD h hdef
      exact h.elim
end Go.Proofs.Ytegmhdabedgloaa
