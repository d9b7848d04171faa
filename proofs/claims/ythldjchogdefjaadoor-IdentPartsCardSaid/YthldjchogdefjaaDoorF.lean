import Derived.Test.YthldjchogdefjaaDoorNb
namespace Go.Proofs.YthldjchogdefjaaDoor
open Go.PF Go.RowKit

theorem neighbours_c {w : World} (s : ByteArray) : Gives Tryd.prog 33 #[.string s] w fun u w' => Below w.heap.size w w' ∧ ∃ g1, u = .func (.func 45) #[] [.pointer (some ⟨g1, 0, none⟩)].toArray ∧ Blk w' g1 9 [.string s] ∧ w.heap.size ≤ g1 := by
  refine gives_of (vs := [.string s]) [(0, none, _)] Tryd.func33 rfl Tryd.ntmps33 rfl rfl ?_
  refine CW.seq (CW.region ?_)
  refine TW.box (cs := [.string s]) rfl rfl rfl rfl ?_
  rintro g1 w1 f1
  refine TW.assign rfl rfl rfl ct ?_
  refine TW.nil (KW.pick [0, 1, 2] [(0, _, _), (1, _, _), (2, _, _)] rfl (KW.then_ ?_))
  refine CW.seq (CW.region ?_)
  refine TW.makeFunc rfl rfl (Args.cons rfl ct Args.nil) ?_
  refine TW.assign rfl rfl rfl ct ?_
  refine TW.nil (KW.pick [0, 1, 2] [(0, _, _), (1, _, _), (2, _, _)] rfl (KW.then_ ?_))
  refine CW.ret ?_
  refine ret1 Tryd.results33 rfl (⟨f1.below, g1, rfl, f1.blk, by have := f1.at_; omega⟩)

set_option maxRecDepth 20000 in
theorem neighbours_iter {w : World} (s : ByteArray) (hs : s.size = 13) (g1 : Nat) (hB1 : Blk w g1 9 [.string s]) :
    IterOK Tryd.prog 45 [.pointer (some ⟨g1, 0, none⟩)] (fun t : ByteArray => [.string t]) (fun pre x => ∃ suf, cands s = pre ++ x :: suf) (fun xs => xs = cands s) (fun k => k = g1 ∧ k < w.heap.size) w := by
  intro yl J Jx W M hown hsz hyl hM hMlt hJ hJx hy h0
  have hown' : ∀ k, (k = g1 ∧ k < w.heap.size) → W.heap[k]? = w.heap[k]? := fun k hk => hown k hk hk.2
  have mem : ∀ W' : World, (∀ k, (k = g1 ∧ k < w.heap.size) → W'.heap[k]? = w.heap[k]?) → Blk W' g1 9 [.string s] := fun W' h => (h g1 ⟨rfl, hB1.lt⟩).trans hB1
  refine gives_of (vs := [.func (.yield yl) #[] #[], .pointer (some ⟨g1, 0, none⟩)]) [(0, none, _), (1, none, _)] Tryd.func45 rfl Tryd.ntmps45 rfl rfl ?_
  refine CW.seq (CW.region ?_)
  refine TW.assign rfl rfl rfl ct ?_
  refine TW.nil (KW.pick [0, 1, 3] [(0, _, _), (1, _, _), (3, _, _)] rfl (KW.then_ ?_))
  refine CW.block ?_
  refine CW.loopS (fun x : Nat × (Nat → Prop) => [(0, none, .func (.yield yl) #[] #[]), (1, none, .pointer (some ⟨g1, 0, none⟩)), (3, none, .int .i64 ((x.1 : Int) + 2))])
    (fun x W' => x.1 ≤ 9 ∧ J (candsTo s x.1) x.2 W' ∧ W.heap.size ≤ W'.heap.size ∧ (∀ k, x.2 k → k < W'.heap.size) ∧ (∀ k, (k = g1 ∧ k < w.heap.size) → W'.heap[k]? = w.heap[k]? ∧ ¬ x.2 k))
    (fun x => 9 - x.1) (0, M) [0, 1, 3] ⟨by simp, h0, Nat.le_refl _, hMlt, fun k hk => ⟨hown' k hk, (hM k hk).1⟩⟩ rfl ?_
  rintro ⟨i, M1⟩ W1 ⟨hi9, hj, hsz1, hM1, hk1⟩
  dsimp only at hi9 hj hM1 hk1
  refine CW.seq (CW.seq (CW.region ?_))
  refine TW.move rfl rfl rfl ct ?_
  refine TW.lss rfl rfl rfl ct rfl ct ?_
  refine TW.nil (KW.pick [0, 1, 3, 6] [(0, _, _), (1, _, _), (3, _, _), (6, _, _)] rfl (KW.then_ ?_))
  refine CW.condP rfl (fun hlt => ?_) (fun hge => ?_)
  · dsimp only at hlt
    have hi : i < 9 := by omega
    refine CW.skip (KW.then_ (CW.seq (CW.block (CW.seq (CW.region ?_)))))
    refine TW.assign rfl rfl rfl ct ?_
    refine TW.nil (KW.pick [0, 1, 3, 4] [(0, _, _), (1, _, _), (3, _, _), (4, _, _)] rfl (KW.then_ ?_))
    refine CW.block ?_
    refine CW.loopS (fun x : Nat × (Nat → Prop) => [(0, none, .func (.yield yl) #[] #[]), (1, none, .pointer (some ⟨g1, 0, none⟩)), (3, none, .int .i64 ((i : Int) + 2)), (4, none, .int .u8 ((x.1 : Int) + 48))])
      (fun x W' => x.1 ≤ 10 ∧ J (candsTo s i ++ candsAt s i x.1) x.2 W' ∧ W.heap.size ≤ W'.heap.size ∧ (∀ k, x.2 k → k < W'.heap.size) ∧ (∀ k, (k = g1 ∧ k < w.heap.size) → W'.heap[k]? = w.heap[k]? ∧ ¬ x.2 k))
      (fun x => 10 - x.1) (0, M1) [0, 1, 3, 4] ⟨by simp, by simpa [candsAt] using hj, hsz1, hM1, hk1⟩ rfl ?_
    rintro ⟨d, M2⟩ W2 ⟨hd10, hj2, hsz2, hM2, hk2⟩
    dsimp only at hd10 hj2 hM2 hk2
    refine CW.seq (CW.seq (CW.region ?_))
    refine TW.move rfl rfl rfl ct ?_
    refine TW.leq rfl rfl rfl ct rfl ct ?_
    refine TW.nil (KW.pick [0, 1, 3, 4, 10] [(0, _, _), (1, _, _), (3, _, _), (4, _, _), (10, _, _)] rfl (KW.then_ ?_))
    refine CW.condP rfl (fun hlt2 => ?_) (fun hge2 => ?_)
    · dsimp only at hlt2
      have hd : d < 10 := by omega
      have m2 := mem W2 (fun k hk => (hk2 k hk).1)
      have hbt : (((s.data.getD ((i : Int) + 2).toNat 0).toNat : Int)) = bt s (2 + i) := by unfold bt; rw [show ((i : Int) + 2).toNat = 2 + i by omega]
      refine CW.skip (KW.then_ (CW.seq (CW.block (CW.seq (CW.seq (CW.region ?_))))))
      refine TW.move rfl rfl rfl ct ?_
      refine TW.load rfl rfl one9 rfl ct (fun _ => m2.cell 0) ?_
      refine TW.move rfl rfl rfl ct ?_
      refine TW.index rfl rfl Tryd.underlying9 rfl ct rfl ct (fun _ => by (try dsimp only); omega) ?_
      refine TW.eql rfl rfl rfl ct rfl ct ?_
      refine TW.nil (KW.pick [0, 1, 3, 4, 17] [(0, _, _), (1, _, _), (3, _, _), (4, _, _), (17, _, _)] rfl (KW.then_ ?_))
      rw [hbt]
      refine CW.condP rfl (fun heq => ?_) (fun hne => ?_)
      · refine CW.exit (KW.thenX (KW.blockX (KW.then_ (CW.region ?_))))
        refine TW.move rfl rfl rfl ct ?_
        refine TW.add8 rfl rfl rfl ct rfl ct (fun _ => by (try dsimp only); omega) ?_
        refine TW.assign rfl rfl rfl ct ?_
        refine TW.nil (KW.pick [0, 1, 3, 4] [(0, _, _), (1, _, _), (3, _, _), (4, _, _)] rfl ?_)
        refine KW.round (d + 1, M2) [0, 1, 3, 4] ?_ ⟨by show d + 1 ≤ 10; omega, ?_, hsz2, hM2, hk2⟩ (by show 10 - (d + 1) < 10 - d; omega)
        · show some _ = some _
          simp only [show ((d : Int) + 48 + 1) = ((d + 1 : Nat) : Int) + 48 by omega]
        · show J (candsTo s i ++ candsAt s i (d + 1)) M2 W2
          rw [candsAt, at1, if_pos (by omega), List.append_nil]
          exact hj2
      have hne' : bt s (2 + i) ≠ 48 + (d : Int) := fun h => hne (by omega)
      refine CW.skip (KW.then_ (CW.seq ?_))
      refine CW.drawR mixed fun W3 hW3 => ?_
      refine RW.draw .weak 13 (by kernel_rfl) (by kernel_rfl) rfl rfl hW3 ?_
      refine DW.move rfl rfl rfl ct ?_
      refine DW.load rfl rfl one9 rfl ct (fun _ => m2.cell 0) ?_
      refine DW.move rfl rfl rfl ct ?_
      refine DW.sliceSH rfl rfl Tryd.underlying9 rfl ct rfl ct (fun _ => by (try dsimp only); omega) ?_
      refine DW.move rfl rfl rfl ct ?_
      have hdb : ((d : Int) + 48) = ((UInt8.ofNat (48 + d)).toNat : Int) := by rw [u8_digit hd]; omega
      rw [hdb]
      refine DW.buildSlice 5 _ rfl rfl rfl eo38 (DArgs.cons rfl ct DArgs.nil) rfl rfl rfl rfl rfl ?_
      refine DW.strOfP [UInt8.ofNat (48 + d)] rfl rfl Tryd.underlying38 Tryd.underlying5 Tryd.underlying9 rfl ct ?_
      have hx1 : (s.extract 0 ((i : Int) + 2).toNat).size = 2 + i := by rw [size_extract' s 0 _ (by omega)]; omega
      have hx2 : (ByteArray.mk [UInt8.ofNat (48 + d)].toArray).size = 1 := rfl
      have hx3 : (s.extract ((i : Int) + 2 + 1).toNat s.size).size = 13 - (3 + i) := by rw [size_extract' s _ _ (by omega)]; omega
      have hx4 : (s.extract 0 ((i : Int) + 2).toNat ++ ByteArray.mk [UInt8.ofNat (48 + d)].toArray).size = 3 + i := by rw [ByteArray.size_append, hx1, hx2]; omega
      refine DW.addS rfl rfl rfl ct rfl ct (fun _ => by rw [hx1, hx2]; omega) ?_
      refine DW.load rfl rfl one9 rfl ct (fun _ => m2.cell 0) ?_
      refine DW.move rfl rfl rfl ct ?_
      refine DW.add rfl rfl rfl ct rfl ct (fun _ => by omega) ?_
      refine DW.sliceSL rfl rfl Tryd.underlying9 rfl ct rfl ct (fun _ => by (try dsimp only); omega) ?_
      refine DW.addS rfl rfl rfl ct rfl ct (fun _ => by rw [hx4, hx3]; omega) ?_
      refine DW.nil (DW.fin [0, 1, 3, 4, 18, 30] [(0, _, _), (1, _, _), (3, _, _), (4, _, _), (18, _, _), (30, _, _)] rfl (fun W4 hW4 => KW.rk' ?_))
      refine RW.one (by kernel_rfl) (by kernel_rfl) rfl ?_
      have hnb : s.extract 0 ((i : Int) + 2).toNat ++ ByteArray.mk [UInt8.ofNat (48 + d)].toArray ++ s.extract ((i : Int) + 2 + 1).toNat s.size = nbr s (2 + i) (48 + d) := by
        unfold nbr
        rw [show ((i : Int) + 2).toNat = 2 + i by omega, show ((i : Int) + 2 + 1).toNat = 2 + i + 1 by omega]
      rw [hnb]
      have hsz4 := hW4.size
      have hj4 := hJ _ _ W2 W4 hj2 (ExtF.of_below hW4)
      have hk4 : ∀ k, (k = g1 ∧ k < w.heap.size) → W4.heap[k]? = w.heap[k]? := fun k hk => (hW4.block k (by have := hk.2; omega)).trans (hk2 k hk).1
      refine TW.yield rfl rfl rfl (Args.cons rfl ct Args.nil) (hy _ (nbr s (2 + i) (48 + d)) M2 W4 hj4 (cands_pos hi hd hne') (fun k hk => by have := hM2 k hk; omega) (by omega)) ?_
      rintro yb W5 hR
      have hk5 : ∀ k, (k = g1 ∧ k < w.heap.size) → W5.heap[k]? = w.heap[k]? := fun k hk => (hR.kept k (by have := hk.2; omega) (hk2 k hk).2 (hM k hk).2).trans (hk4 k hk)
      refine TW.nil (KW.pick [0, 1, 3, 4, 31] [(0, _, _), (1, _, _), (3, _, _), (4, _, _), (31, _, _)] rfl (KW.rk ?_))
      refine RW.one (by kernel_rfl) (by kernel_rfl) rfl ?_
      refine TW.not rfl rfl rfl ct ?_
      refine TW.nil (KW.pick [0, 1, 3, 4, 32] [(0, _, _), (1, _, _), (3, _, _), (4, _, _), (32, _, _)] rfl (KW.rk ?_))
      refine RW.end rfl (KW.pick [0, 1, 3, 4, 32] [(0, _, _), (1, _, _), (3, _, _), (4, _, _), (32, _, _)] rfl (KW.then_ ?_))
      refine CW.cond rfl (fun hno => ?_) (fun hgo => ?_)
      · refine CW.ret (KW.blockR (KW.thenR (KW.thenR (KW.blockR (KW.blockR (KW.thenR (KW.thenR (KW.blockR ?_))))))))
        refine ret0 Tryd.results45 (.inr ?_)
        obtain ⟨M', hx⟩ := hR.no (by simpa using hno)
        exact ⟨_, M', hx⟩
      · obtain ⟨M', hj5, hm5⟩ := hR.yes (by simpa using hgo)
        refine CW.skip (KW.blockN (KW.then_ (CW.region ?_)))
        refine TW.move rfl rfl rfl ct ?_
        refine TW.add8 rfl rfl rfl ct rfl ct (fun _ => by rw [← hdb]; omega) ?_
        refine TW.assign rfl rfl rfl ct ?_
        refine TW.nil (KW.pick [0, 1, 3, 4] [(0, _, _), (1, _, _), (3, _, _), (4, _, _)] rfl ?_)
        rw [← hdb]
        refine KW.round (d + 1, M') [0, 1, 3, 4] ?_ ⟨by show d + 1 ≤ 10; omega, ?_, by have := hR.size; omega, fun k hk => (hm5 k hk).2, fun k hk => ⟨hk5 k hk, fun hmk => ?_⟩⟩ (by show 10 - (d + 1) < 10 - d; omega)
        · show some _ = some _
          simp only [show ((d : Int) + 48 + 1) = ((d + 1 : Nat) : Int) + 48 by omega]
        · show J (candsTo s i ++ candsAt s i (d + 1)) M' W5
          rw [candsAt, at1, if_neg hne', ← List.append_assoc]
          exact hj5
        · rcases (hm5 k hmk).1 with h | h
          · exact (hk2 k hk).2 h
          · have := hk.2; omega
    · dsimp only at hge2
      obtain rfl : d = 10 := by omega
      refine CW.exit (KW.thenX (KW.thenX (KW.blockX (KW.blockN (KW.then_ (CW.region ?_))))))
      refine TW.move rfl rfl rfl ct ?_
      refine TW.add rfl rfl rfl ct rfl ct (fun _ => by (try dsimp only); omega) ?_
      refine TW.assign rfl rfl rfl ct ?_
      refine TW.nil (KW.pick [0, 1, 3, 4] [(0, _, _), (1, _, _), (3, _, _), (4, _, _)] rfl ?_)
      refine KW.round (i + 1, M2) [0, 1, 3] ?_ ⟨by show i + 1 ≤ 9; omega, ?_, hsz2, hM2, hk2⟩ (by show 9 - (i + 1) < 9 - i; omega)
      · show some _ = some _
        simp only [show ((i : Int) + 2 + 1) = ((i + 1 : Nat) : Int) + 2 by omega]
      · show J (candsTo s (i + 1)) M2 W2
        rw [candsTo]
        exact hj2
  · dsimp only at hge
    obtain rfl : i = 9 := by omega
    refine CW.exit (KW.thenX (KW.thenX (KW.blockX ?_)))
    refine end0 Tryd.results45 (.inl ⟨_, M1, rfl, hj⟩)
end Go.Proofs.YthldjchogdefjaaDoor
