import Derived.Test.YthldjchogdefjaaDoorB
namespace Go.Proofs.YthldjchogdefjaaDoor
open Go.PF Go.RowKit

set_option maxRecDepth 20000 in
theorem rcheck_c {w : World} (s : ByteArray) : Gives Tryd.prog 11 #[.string s] w fun u w' => Below w.heap.size w w' ∧ u = .tuple #[.int .i64 (checkS s).1, .int .i64 (checkS s).2] := by
  refine gives_of (vs := [.string s]) [(0, none, _)] Tryd.func11 rfl Tryd.ntmps11 rfl rfl ?_
  refine CW.seq (CW.region ?_)
  refine TW.assign rfl rfl rfl ct ?_
  refine TW.assign rfl rfl rfl ct ?_
  refine TW.nil (KW.pick [0, 2, 3] [(0, _, _), (2, _, _), (3, _, _)] rfl (KW.then_ ?_))
  refine CW.seq (CW.seq (CW.region ?_))
  refine TW.move rfl rfl rfl ct ?_
  refine TW.lenString rfl rfl Tryd.underlying9 rfl ct ?_
  refine TW.neq rfl rfl rfl ct rfl ct ?_
  refine TW.nil (KW.pick [0, 2, 3, 9] [(0, _, _), (2, _, _), (3, _, _), (9, _, _)] rfl (KW.then_ ?_))
  refine CW.condP rfl (fun hne => ?_) (fun heq => ?_)
  · refine CW.seq (CW.region ?_)
    refine TW.assign rfl rfl rfl ct ?_
    refine TW.assign rfl rfl rfl ct ?_
    refine TW.nil (KW.pick [0, 2, 3] [(0, _, _), (2, _, _), (3, _, _)] rfl (KW.then_ ?_))
    refine CW.ret (KW.thenR ?_)
    refine ret2 Tryd.results11 rfl rfl (⟨Below.refl _ _, by have h : ¬ Eight s := (fun h => hne (by have := h.1; omega)); simp [checkS, h]⟩)
  have hs : s.size = 8 := by omega
  refine CW.skip (KW.then_ (CW.seq (CW.region ?_)))
  refine TW.assign rfl rfl rfl ct ?_
  refine TW.nil (KW.pick [0, 2, 3, 4] [(0, _, _), (2, _, _), (3, _, _), (4, _, _)] rfl (KW.then_ ?_))
  refine CW.seq (CW.seq (CW.region ?_))
  refine TW.assign rfl rfl rfl ct ?_
  refine TW.nil (KW.pick [0, 2, 3, 4, 5] [(0, _, _), (2, _, _), (3, _, _), (4, _, _), (5, _, _)] rfl (KW.then_ ?_))
  refine CW.block ?_
  refine CW.loopS (fun k : Nat => [(0, none, .string s), (4, none, .int .i64 (wsum s k)), (5, none, .int .i64 (k : Int))])
    (fun k W => k ≤ 8 ∧ Below w.heap.size w W ∧ ∀ i, i < k → Dig (bt s i)) (fun k => 8 - k) 0 [0, 4, 5] ⟨by omega, Below.refl _ _, fun i hi => by omega⟩ rfl ?_
  rintro k W ⟨hk, hbW, hd⟩
  have hws := wsum_bound s k hk hd
  have hblo := bt_lo s k
  refine CW.seq (CW.seq (CW.region ?_))
  refine TW.move rfl rfl rfl ct ?_
  refine TW.lss rfl rfl rfl ct rfl ct ?_
  refine TW.nil (KW.pick [0, 4, 5, 11] [(0, _, _), (4, _, _), (5, _, _), (11, _, _)] rfl (KW.then_ ?_))
  refine CW.condP rfl (fun hlt => ?_) (fun hge => ?_)
  · have hk8 : k < 8 := by omega
    refine CW.skip (KW.then_ (CW.seq (CW.block (CW.seq (CW.seq (CW.region ?_))))))
    refine TW.move rfl rfl rfl ct ?_
    refine TW.move rfl rfl rfl ct ?_
    refine TW.index rfl rfl Tryd.underlying9 rfl ct rfl ct (fun _ => by (try dsimp only); omega) ?_
    refine TW.callF (cap := []) rfl rfl en25 rfl ct (Args.cons rfl ct Args.nil) (fun _ => rdigit_c _) ?_
    rintro w2 b2
    refine TW.not rfl rfl rfl ct ?_
    refine TW.nil (KW.pick [0, 4, 5, 18] [(0, _, _), (4, _, _), (5, _, _), (18, _, _)] rfl (KW.then_ ?_))
    have hb2 := hbW.step b2
    refine CW.cond rfl (fun hno => ?_) (fun hyes => ?_)
    · have hnd : ¬ Dig (bt s k) := nb hno
      refine CW.seq (CW.region ?_)
      refine TW.assign rfl rfl rfl ct ?_
      refine TW.assign rfl rfl rfl ct ?_
      refine TW.nil (KW.pick [0, 2, 3, 4, 5] [(0, _, _), (2, _, _), (3, _, _), (4, _, _), (5, _, _)] rfl (KW.then_ ?_))
      refine CW.ret (KW.thenR (KW.blockR (KW.thenR (KW.thenR (KW.blockR (KW.thenR ?_))))))
      refine ret2 Tryd.results11 rfl rfl (⟨hb2, by have h : ¬ Eight s := (fun h => hnd (h.2 k hk8)); simp [checkS, h]⟩)
    have hdk : Dig (bt s k) := nb' hyes
    have hwm := wmul hk8 (z := bt s k - 48) (by omega) (by omega)
    have ew : IntKind.i64.wrap (((s.data.getD (k : Int).toNat 0).toNat : Int) - 48) = bt s k - 48 := wrap_b (z := bt s k - 48) (by omega) (by omega)
    refine CW.skip (KW.then_ (CW.draw mixed (by kernel_rfl) ?_))
    refine DW.move rfl rfl rfl ct ?_
    refine DW.move rfl rfl rfl ct ?_
    refine DW.call (.ex (.int .i64 (wt k))) trivial rfl rfl en26 rfl ct (DArgs.cons rfl ct DArgs.nil) (fun _ w' _ => weight_c k hk8) ?_
    refine DW.move rfl rfl rfl ct ?_
    refine DW.move rfl rfl rfl ct ?_
    refine DW.index rfl rfl Tryd.underlying9 rfl ct rfl ct (fun _ => by omega) ?_
    refine DW.sub8 rfl rfl rfl ct rfl ct (fun _ => ⟨show 0 ≤ bt s k - 48 by omega, show bt s k - 48 ≤ 255 by omega⟩) ?_
    refine DW.conv rfl rfl rfl Tryd.underlying3 rfl ct ?_
    refine DW.mul rfl rfl rfl ct rfl ct (fun _ => by rw [ew]; omega) ?_
    refine DW.add rfl rfl rfl ct rfl ct (fun _ => by rw [ew]; omega) ?_
    refine DW.assign rfl rfl rfl ct ?_
    refine DW.nil (DW.fin [0, 4, 5] [(0, _, _), (4, _, _), (5, _, _)] rfl (fun w3 b3 => KW.blockN (KW.then_ ?_)))
    refine CW.region ?_
    refine TW.move rfl rfl rfl ct ?_
    refine TW.add rfl rfl rfl ct rfl ct (fun _ => by (try dsimp only); omega) ?_
    refine TW.assign rfl rfl rfl ct ?_
    refine TW.nil (KW.pick [0, 4, 5] [(0, _, _), (4, _, _), (5, _, _)] rfl ?_)
    rw [ew]
    refine KW.round (k + 1) [0, 4, 5] rfl ⟨by omega, hb2.step b3, fun i hi => ?_⟩ (by omega)
    rcases Nat.lt_or_ge i k with h | h
    · exact hd i h
    · obtain rfl : i = k := by omega
      exact hdk
  · have hk8 : k = 8 := by omega
    subst hk8
    have h8 : Eight s := ⟨hs, hd⟩
    have hm0 := Int.emod_nonneg (wsum s 8) (show (11 : Int) ≠ 0 by decide)
    have hm1 := Int.emod_lt_of_pos (wsum s 8) (show (0 : Int) < 11 by decide)
    refine CW.exit (KW.thenX (KW.thenX (KW.blockX (KW.then_ (CW.seq (CW.region ?_))))))
    refine TW.move rfl rfl rfl ct ?_
    refine TW.rem rfl rfl rfl ct rfl ct (fun _ => by (try dsimp only); omega) ?_
    refine TW.sub rfl rfl rfl ct rfl ct (fun _ => by (try dsimp only); omega) ?_
    refine TW.assign rfl rfl rfl ct ?_
    refine TW.nil (KW.pick [0, 4, 5, 6] [(0, _, _), (4, _, _), (5, _, _), (6, _, _)] rfl (KW.then_ ?_))
    refine CW.seq (CW.seq (CW.region ?_))
    refine TW.move rfl rfl rfl ct ?_
    refine TW.eql rfl rfl rfl ct rfl ct ?_
    refine TW.nil (KW.pick [0, 4, 5, 6, 33] [(0, _, _), (4, _, _), (5, _, _), (6, _, _), (33, _, _)] rfl (KW.then_ ?_))
    refine CW.condP rfl (fun h10 => ?_) (fun n10 => ?_)
    · refine CW.seq (CW.region ?_)
      refine TW.assign rfl rfl rfl ct ?_
      refine TW.assign rfl rfl rfl ct ?_
      refine TW.nil (KW.pick [0, 2, 3, 4, 5, 6] [(0, _, _), (2, _, _), (3, _, _), (4, _, _), (5, _, _), (6, _, _)] rfl (KW.then_ ?_))
      refine CW.ret (KW.thenR ?_)
      refine ret2 Tryd.results11 rfl rfl (⟨hbW, by simp [checkS, h8, chk, h10]⟩)
    refine CW.skip (KW.then_ (CW.seq (CW.seq (CW.region ?_))))
    refine TW.move rfl rfl rfl ct ?_
    refine TW.eql rfl rfl rfl ct rfl ct ?_
    refine TW.nil (KW.pick [0, 4, 5, 6, 35] [(0, _, _), (4, _, _), (5, _, _), (6, _, _), (35, _, _)] rfl (KW.then_ ?_))
    refine CW.condP rfl (fun h11 => ?_) (fun n11 => ?_)
    · refine CW.seq (CW.region ?_)
      refine TW.assign rfl rfl rfl ct ?_
      refine TW.assign rfl rfl rfl ct ?_
      refine TW.nil (KW.pick [0, 2, 3, 4, 5, 6] [(0, _, _), (2, _, _), (3, _, _), (4, _, _), (5, _, _), (6, _, _)] rfl (KW.then_ ?_))
      refine CW.ret (KW.thenR ?_)
      refine ret2 Tryd.results11 rfl rfl (⟨hbW, by simp [checkS, h8, chk, h11]⟩)
    refine CW.skip (KW.then_ (CW.seq (CW.region ?_)))
    refine TW.move rfl rfl rfl ct ?_
    refine TW.assign rfl rfl rfl ct ?_
    refine TW.assign rfl rfl rfl ct ?_
    refine TW.nil (KW.pick [0, 2, 3, 4, 5, 6] [(0, _, _), (2, _, _), (3, _, _), (4, _, _), (5, _, _), (6, _, _)] rfl (KW.then_ ?_))
    refine CW.ret ?_
    refine ret2 Tryd.results11 rfl rfl (⟨hbW, by simp [checkS, h8, chk, n10, n11]⟩)

theorem shape_of {s : ByteArray} (hs : s.size = 13) (h1 : Pair (s.extract 0 2)) (h2 : Pair (s.extract 11 s.size)) (h : ∀ i, i < 9 → Dig (bt s (2 + i))) : Shape s := by
  refine ⟨hs, fun i hi => ?_, fun i h2 h3 => ?_⟩
  · obtain ⟨_, a0, a1⟩ := h1
    obtain ⟨_, b0, b1⟩ := h2
    rw [bt_extract s 0 2 _ (by omega) (by omega)] at a0 a1
    rw [bt_extract s 11 s.size _ (by omega) (by omega)] at b0 b1
    obtain rfl | rfl | rfl | rfl : i = 0 ∨ i = 1 ∨ i = 11 ∨ i = 12 := by omega
    · exact a0
    · exact a1
    · exact b0
    · exact b1
  · have := h (i - 2) (by omega)
    rwa [show 2 + (i - 2) = i by omega] at this
theorem shape_pairs {s : ByteArray} (h : Shape s) : Pair (s.extract 0 2) ∧ Pair (s.extract 11 s.size) := by
  have hs := h.size
  refine ⟨⟨by rw [size_extract' s 0 2 (by omega)], ?_, ?_⟩, ⟨by rw [size_extract' s 11 s.size (by omega)]; omega, ?_, ?_⟩⟩
  · rw [bt_extract s 0 2 _ (by omega) (by omega)]; exact h.caps _ (by omega)
  · rw [bt_extract s 0 2 _ (by omega) (by omega)]; exact h.caps _ (by omega)
  · rw [bt_extract s 11 s.size _ (by omega) (by omega)]; exact h.caps _ (by omega)
  · rw [bt_extract s 11 s.size _ (by omega) (by omega)]; exact h.caps _ (by omega)

set_option maxRecDepth 20000 in
theorem isShape_c {w : World} (s : ByteArray) : Gives Tryd.prog 32 #[.string s] w fun u w' => Below w.heap.size w w' ∧ u = .bool (dec (Shape s)) := by
  refine gives_of (vs := [.string s]) [(0, none, _)] Tryd.func32 rfl Tryd.ntmps32 rfl rfl ?_
  refine CW.seq (CW.region ?_)
  refine TW.assign rfl rfl rfl ct ?_
  refine TW.nil (KW.pick [0, 2] [(0, _, _), (2, _, _)] rfl (KW.then_ ?_))
  refine CW.seq (CW.seq (CW.region ?_))
  refine TW.move rfl rfl rfl ct ?_
  refine TW.lenString rfl rfl Tryd.underlying9 rfl ct ?_
  refine TW.neq rfl rfl rfl ct rfl ct ?_
  refine TW.move rfl rfl rfl ct ?_
  refine TW.move rfl rfl rfl ct ?_
  refine TW.sliceSH rfl rfl Tryd.underlying9 rfl id rfl ct (fun h => by (try dsimp only); first | omega | (simp [Cnd] at h; omega)) ?_
  refine TW.callF (cap := []) rfl rfl en27 rfl ct (Args.cons rfl id Args.nil) (fun _ => isLetters_c _) ?_
  rintro w1 b1
  refine TW.not rfl rfl rfl id ?_
  refine TW.pickOr rfl rfl rfl ct rfl pOr0 ?_
  refine TW.move rfl rfl rfl ct ?_
  refine TW.move rfl rfl rfl ct ?_
  refine TW.sliceSL rfl rfl Tryd.underlying9 rfl id rfl ct (fun h => by (try dsimp only); first | omega | (simp [Cnd] at h; omega)) ?_
  refine TW.callF (cap := []) rfl rfl en27 rfl ct (Args.cons rfl id Args.nil) (fun _ => isLetters_c _) ?_
  rintro w2 b2
  refine TW.not rfl rfl rfl id ?_
  refine TW.pickOr rfl rfl rfl ct rfl pOr0 ?_
  refine TW.nil (KW.pick [0, 2, 19] [(0, _, _), (2, _, _), (19, _, _)] rfl (KW.then_ ?_))
  have hb2 := b1.step b2
  refine CW.cond rfl (fun hno => ?_) (fun hyes => ?_)
  · refine CW.seq (CW.region ?_)
    refine TW.assign rfl rfl rfl ct ?_
    refine TW.nil (KW.pick [0, 2] [(0, _, _), (2, _, _)] rfl (KW.then_ ?_))
    refine CW.ret (KW.thenR ?_)
    refine ret1 Tryd.results32 rfl (⟨hb2, ?_⟩)
    rw [dec_neg]
    intro h
    have hs := h.size
    obtain ⟨p1, p2⟩ := shape_pairs h
    rw [hs] at hno p2
    simp [dec_pos p1, dec_pos p2] at hno
  have hs : s.size = 13 := by
    simp at hyes; omega
  have hp1 : Pair (s.extract 0 2) := by
    by_cases h : Pair (s.extract 0 2)
    · exact h
    · exfalso; simp [dec_neg h] at hyes
  have hp2 : Pair (s.extract 11 s.size) := by
    by_cases h : Pair (s.extract 11 s.size)
    · exact h
    · exfalso; simp [dec_neg h] at hyes
  refine CW.skip (KW.then_ (CW.seq (CW.seq (CW.region ?_))))
  refine TW.move rfl rfl rfl ct ?_
  refine TW.sliceSLH rfl rfl Tryd.underlying9 rfl ct rfl ct rfl ct (fun _ => by (try dsimp only); omega) ?_
  refine TW.bytesOf rfl rfl Tryd.underlying9 Tryd.underlying38 Tryd.underlying5 rfl ?_
  rintro g c w3 hsz hg hb hc
  refine TW.lenSlice rfl rfl Tryd.underlying38 rfl ct ?_
  refine TW.move rfl rfl rfl ct ?_
  refine TW.nil (KW.pick [0, 2, 22, 23, 24] [(0, _, _), (2, _, _), (22, _, _), (23, _, _), (24, _, _)] rfl (KW.then_ ?_))
  refine CW.block ?_
  have hb3 := hb2.step hb
  have hx9 : (s.extract 2 11).size = 9 := by rw [size_extract' s 2 11 (by omega)]
  have hbx : ∀ i, i < 9 → bt (s.extract 2 11) i = bt s (2 + i) := fun i hi => bt_extract s 2 11 i (by omega) (by omega)
  simp only [show Int.toNat 2 = 2 from rfl, show Int.toNat 11 = 11 from rfl] at hc ⊢
  rw [hx9] at hc ⊢
  refine CW.loopS (fun k : Nat => [(22, none, .slice (some ⟨g, 0, none⟩) 9 c), (23, none, .int .i64 9), (24, none, .int .i64 (k : Int))])
    (fun k W => k ≤ 9 ∧ Below w3.heap.size w3 W ∧ ∀ i, i < k → Dig (bt s (2 + i))) (fun k => 9 - k) 0 [22, 23, 24] ⟨by omega, Below.refl _ _, fun i hi => by omega⟩ rfl ?_
  rintro k W ⟨hk, hbW, hd⟩
  refine CW.seq (CW.region ?_)
  refine TW.lss rfl rfl rfl ct rfl ct ?_
  refine TW.nil (KW.pick [22, 23, 24, 25] [(22, _, _), (23, _, _), (24, _, _), (25, _, _)] rfl (KW.then_ ?_))
  refine CW.seq ?_
  refine CW.condP rfl (fun hlt => ?_) (fun hge => ?_)
  · have hk9 : k < 9 := by omega
    have hck := (hbW.cell (block_lt_of_cell (hc k hk9))).trans (hc k hk9)
    refine CW.skip (KW.then_ (CW.seq (CW.block (CW.seq (CW.region ?_)))))
    refine TW.indexAddr rfl rfl Tryd.underlying38 sz5 rfl ct rfl ct (fun _ => by (try dsimp only); omega) ?_
    refine TW.load rfl rfl one5 rfl ct (fun _ => byteAt hck) ?_
    refine TW.assign rfl rfl rfl ct ?_
    refine TW.nil (KW.pick [4, 22, 23, 24] [(4, _, _), (22, _, _), (23, _, _), (24, _, _)] rfl (KW.then_ ?_))
    refine CW.seq (CW.region ?_)
    refine TW.move rfl rfl rfl ct ?_
    refine TW.callF (cap := []) rfl rfl en24 rfl ct (Args.cons rfl ct Args.nil) (fun _ => isDigit_c _) ?_
    rintro w4 b4
    refine TW.not rfl rfl rfl ct ?_
    refine TW.nil (KW.pick [4, 22, 23, 24, 30] [(4, _, _), (22, _, _), (23, _, _), (24, _, _), (30, _, _)] rfl (KW.then_ ?_))
    have hb4 := hbW.step b4
    refine CW.cond rfl (fun hno4 => ?_) (fun hyes4 => ?_)
    · have hnd : ¬ Dig (bt (s.extract 2 11) k) := nb hno4
      refine CW.seq (CW.region ?_)
      refine TW.assign rfl rfl rfl ct ?_
      refine TW.nil (KW.pick [2, 4, 22, 23, 24] [(2, _, _), (4, _, _), (22, _, _), (23, _, _), (24, _, _)] rfl (KW.then_ ?_))
      refine CW.ret (KW.blockR (KW.thenR (KW.thenR (KW.blockR (KW.thenR ?_)))))
      refine ret1 Tryd.results32 rfl (⟨hb3.step hb4, ?_⟩)
      rw [dec_neg (fun h => hnd (by rw [hbx k hk9]; exact h.digs _ (by omega) (by omega)))]
    have hdk : Dig (bt (s.extract 2 11) k) := nb' hyes4
    rw [hbx k hk9] at hdk
    refine CW.skip (KW.blockN (KW.then_ (CW.region ?_)))
    refine TW.add rfl rfl rfl ct rfl ct (fun _ => by (try dsimp only); omega) ?_
    refine TW.move rfl rfl rfl ct ?_
    refine TW.nil (KW.pick [4, 22, 23, 24] [(4, _, _), (22, _, _), (23, _, _), (24, _, _)] rfl ?_)
    refine KW.round (k + 1) [22, 23, 24] rfl ⟨by omega, hb4, fun i hi => ?_⟩ (by omega)
    rcases Nat.lt_or_ge i k with h | h
    · exact hd i h
    · obtain rfl : i = k := by omega
      exact hdk
  · obtain rfl : k = 9 := by omega
    refine CW.exit (KW.thenX (KW.thenX (KW.blockX (KW.then_ (CW.seq (CW.region ?_))))))
    refine TW.assign rfl rfl rfl ct ?_
    refine TW.nil (KW.pick [2, 22, 23, 24] [(2, _, _), (22, _, _), (23, _, _), (24, _, _)] rfl (KW.then_ ?_))
    refine CW.ret ?_
    refine ret1 Tryd.results32 rfl (⟨hb3.step hbW, by rw [dec_pos (shape_of hs hp1 hp2 hd)]⟩)
end Go.Proofs.YthldjchogdefjaaDoor
