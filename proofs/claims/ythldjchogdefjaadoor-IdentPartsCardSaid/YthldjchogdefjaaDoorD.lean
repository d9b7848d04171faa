import Derived.Test.YthldjchogdefjaaDoorC
namespace Go.Proofs.YthldjchogdefjaaDoor
open Go.PF Go.RowKit

/-- the first k bytes are as a shape's -/
def ShapeTo (s : ByteArray) (k : Nat) : Prop := ∀ i, i < k → ((i < 2 ∨ 10 < i) → Cap (bt s i)) ∧ (¬ (i < 2 ∨ 10 < i) → Dig (bt s i))
theorem shape_to {s : ByteArray} (hs : s.size = 13) (h : ShapeTo s 13) : Shape s :=
  ⟨hs, fun i hi => (h i (by omega)).1 (by omega), fun i h1 h2 => (h i (by omega)).2 (by omega)⟩
theorem to_shape {s : ByteArray} (h : Shape s) : ShapeTo s 13 := fun i hi => ⟨fun h1 => h.caps i (by omega), fun h1 => h.digs i (by omega) (by omega)⟩

set_option maxRecDepth 20000 in
theorem rShape_c {w : World} (s : ByteArray) : Gives Tryd.prog 22 #[.string s] w fun u w' => Below w.heap.size w w' ∧ u = .bool (dec (Shape s)) := by
  refine gives_of (vs := [.string s]) [(0, none, _)] Tryd.func22 rfl Tryd.ntmps22 rfl rfl ?_
  refine CW.seq (CW.region ?_)
  refine TW.assign rfl rfl rfl ct ?_
  refine TW.nil (KW.pick [0, 2] [(0, _, _), (2, _, _)] rfl (KW.then_ ?_))
  refine CW.seq (CW.seq (CW.region ?_))
  refine TW.move rfl rfl rfl ct ?_
  refine TW.lenString rfl rfl Tryd.underlying9 rfl ct ?_
  refine TW.neq rfl rfl rfl ct rfl ct ?_
  refine TW.nil (KW.pick [0, 2, 7] [(0, _, _), (2, _, _), (7, _, _)] rfl (KW.then_ ?_))
  refine CW.condP rfl (fun hne => ?_) (fun heq => ?_)
  · refine CW.seq (CW.region ?_)
    refine TW.assign rfl rfl rfl ct ?_
    refine TW.nil (KW.pick [0, 2] [(0, _, _), (2, _, _)] rfl (KW.then_ ?_))
    refine CW.ret (KW.thenR ?_)
    refine ret1 Tryd.results22 rfl (⟨Below.refl _ _, by rw [dec_neg (fun h => hne (by have := h.size; omega))]⟩)
  have hs : s.size = 13 := by omega
  refine CW.skip (KW.then_ (CW.seq (CW.seq (CW.region ?_))))
  refine TW.assign rfl rfl rfl ct ?_
  refine TW.nil (KW.pick [0, 2, 3] [(0, _, _), (2, _, _), (3, _, _)] rfl (KW.then_ ?_))
  refine CW.block ?_
  refine CW.loopS (fun k : Nat => [(0, none, .string s), (3, none, .int .i64 (k : Int))])
    (fun k W => k ≤ 13 ∧ Below w.heap.size w W ∧ ShapeTo s k) (fun k => 13 - k) 0 [0, 3] ⟨by omega, Below.refl _ _, fun i hi => by omega⟩ rfl ?_
  rintro k W ⟨hk, hbW, hd⟩
  refine CW.seq (CW.seq (CW.region ?_))
  refine TW.move rfl rfl rfl ct ?_
  refine TW.lss rfl rfl rfl ct rfl ct ?_
  refine TW.nil (KW.pick [0, 3, 9] [(0, _, _), (3, _, _), (9, _, _)] rfl (KW.then_ ?_))
  refine CW.condP rfl (fun hlt => ?_) (fun hge => ?_)
  · have hk13 : k < 13 := by omega
    refine CW.skip (KW.then_ (CW.seq (CW.block (CW.seq (CW.region ?_)))))
    refine TW.move rfl rfl rfl ct ?_
    refine TW.lss rfl rfl rfl ct rfl ct ?_
    refine TW.move rfl rfl rfl ct ?_
    refine TW.move rfl rfl rfl ct ?_
    refine TW.gtr rfl rfl rfl id rfl ct ?_
    refine TW.pickOr rfl rfl rfl ct rfl pOr0 ?_
    refine TW.assign rfl rfl rfl ct ?_
    refine TW.nil (KW.pick [0, 3, 4] [(0, _, _), (3, _, _), (4, _, _)] rfl (KW.then_ ?_))
    refine CW.seq (CW.region ?_)
    refine TW.move rfl rfl rfl ct ?_
    refine TW.move rfl rfl rfl ct ?_
    refine TW.move rfl rfl rfl ct ?_
    refine TW.move rfl rfl rfl ct ?_
    refine TW.index rfl rfl Tryd.underlying9 rfl id rfl id (fun h => by (try dsimp only); first | omega | (simp [Cnd] at h; omega)) ?_
    refine TW.callF (cap := []) rfl rfl en36 rfl ct (Args.cons rfl id Args.nil) (fun _ => rCapital_c _) ?_
    rintro w2 b2
    refine TW.not rfl rfl rfl id ?_
    refine TW.pickAnd rfl rfl rfl ct rfl pAnd0 ?_
    refine TW.move rfl rfl rfl ct ?_
    refine TW.move rfl rfl rfl ct ?_
    refine TW.not rfl rfl rfl id ?_
    refine TW.move rfl rfl rfl id ?_
    refine TW.move rfl rfl rfl ct ?_
    refine TW.move rfl rfl rfl ct ?_
    refine TW.index rfl rfl Tryd.underlying9 rfl id rfl id (fun h => by (try dsimp only); first | omega | (simp [Cnd] at h; omega)) ?_
    refine TW.callF (cap := []) rfl rfl en25 rfl ct (Args.cons rfl id Args.nil) (fun _ => rdigit_c _) ?_
    rintro w3 b3
    refine TW.not rfl rfl rfl id ?_
    refine TW.pickAnd rfl rfl rfl id rfl pAnd1 ?_
    refine TW.pickOr rfl rfl rfl ct rfl pOr0 ?_
    refine TW.nil (KW.pick [0, 3, 4, 36] [(0, _, _), (3, _, _), (4, _, _), (36, _, _)] rfl (KW.then_ ?_))
    have hb3 := (hbW.step b2).step b3
    have hbt : (((s.data.getD (k : Int).toNat 0).toNat : Int)) = bt s k := rfl
    rw [hbt]
    refine CW.cond rfl (fun hno => ?_) (fun hyes => ?_)
    · refine CW.seq (CW.region ?_)
      refine TW.assign rfl rfl rfl ct ?_
      refine TW.nil (KW.pick [0, 2, 3, 4] [(0, _, _), (2, _, _), (3, _, _), (4, _, _)] rfl (KW.then_ ?_))
      refine CW.ret (KW.blockR (KW.thenR (KW.thenR (KW.blockR (KW.thenR ?_)))))
      refine ret1 Tryd.results22 rfl (⟨hb3, ?_⟩)
      rw [dec_neg]
      intro h
      have h1 := to_shape h k hk13
      by_cases hl : k < 2 ∨ 10 < k
      · have h2 := h1.1 hl
        have h3 : ((k : Int) < 2 ∨ 10 < (k : Int)) := by omega
        simp [h2.1, h2.2] at hno
        omega
      · have h2 := h1.2 hl
        simp [h2.1, h2.2] at hno
        omega
    refine CW.skip (KW.blockN (KW.then_ (CW.region ?_)))
    refine TW.move rfl rfl rfl ct ?_
    refine TW.add rfl rfl rfl ct rfl ct (fun _ => by (try dsimp only); omega) ?_
    refine TW.assign rfl rfl rfl ct ?_
    refine TW.nil (KW.pick [0, 3, 4] [(0, _, _), (3, _, _), (4, _, _)] rfl ?_)
    refine KW.round (k + 1) [0, 3] rfl ⟨by omega, hb3, fun i hi => ?_⟩ (by omega)
    rcases Nat.lt_or_ge i k with h | h
    · exact hd i h
    · obtain rfl : i = k := by omega
      simp at hyes
      refine ⟨fun h => ?_, fun h => ?_⟩
      · by_cases hc : Cap (bt s i)
        · exact hc
        · exfalso; unfold Cap at hc; omega
      · by_cases hc : Dig (bt s i)
        · exact hc
        · exfalso; unfold Dig at hc; omega
  · obtain rfl : k = 13 := by omega
    refine CW.exit (KW.thenX (KW.thenX (KW.blockX (KW.then_ (CW.seq (CW.region ?_))))))
    refine TW.assign rfl rfl rfl ct ?_
    refine TW.nil (KW.pick [0, 2, 3] [(0, _, _), (2, _, _), (3, _, _)] rfl (KW.then_ ?_))
    refine CW.ret ?_
    refine ret1 Tryd.results22 rfl (⟨hbW, by rw [dec_pos (shape_to hs hd)]⟩)

theorem valid_c {w : World} (s : ByteArray) (ht : Tabs w) : Gives Tryd.prog 16 #[.string s] w fun u w' => Below w.heap.size w w' ∧ u = .bool (dec (Val s)) := by
  refine gives_of (vs := [.string s]) [(0, none, _)] Tryd.func16 rfl Tryd.ntmps16 rfl rfl ?_
  refine CW.seq (CW.region ?_)
  refine TW.assign rfl rfl rfl ct ?_
  refine TW.nil (KW.pick [0, 2] [(0, _, _), (2, _, _)] rfl (KW.then_ ?_))
  refine CW.seq (CW.seq (CW.region ?_))
  refine TW.move rfl rfl rfl ct ?_
  refine TW.callF (cap := []) rfl rfl en32 rfl ct (Args.cons rfl ct Args.nil) (fun _ => isShape_c _) ?_
  rintro w1 b1
  refine TW.not rfl rfl rfl ct ?_
  refine TW.nil (KW.pick [0, 2, 7] [(0, _, _), (2, _, _), (7, _, _)] rfl (KW.then_ ?_))
  refine CW.cond rfl (fun hno => ?_) (fun hyes => ?_)
  · refine CW.seq (CW.region ?_)
    refine TW.assign rfl rfl rfl ct ?_
    refine TW.nil (KW.pick [0, 2] [(0, _, _), (2, _, _)] rfl (KW.then_ ?_))
    refine CW.ret (KW.thenR ?_)
    refine ret1 Tryd.results16 rfl (⟨b1, ?_⟩)
    rw [dec_neg]
    intro h
    rw [dec_pos h.1] at hno
    cases hno
  have hsh : Shape s := dec_iff.1 (by simpa using hyes)
  have hs := hsh.size
  have h8 : Eight (s.extract 2 10) := eight_extract hsh
  have hd := hsh.digs 10 (by omega) (by omega)
  have ew : IntKind.i64.wrap (((s.data.getD (10 : Int).toNat 0).toNat : Int) - 48) = bt s 10 - 48 := wrap_b (z := bt s 10 - 48) (by omega) (by omega)
  refine CW.skip (KW.then_ (CW.seq (CW.region ?_)))
  refine TW.move rfl rfl rfl ct ?_
  refine TW.sliceSLH rfl rfl Tryd.underlying9 rfl ct rfl ct rfl ct (fun _ => by (try dsimp only); omega) ?_
  refine TW.call0 (cap := []) rfl rfl en10 rfl (Args.cons rfl ct Args.nil) (check_c _ (ht.below b1)) ?_
  rintro _ w2 ⟨b2, rfl⟩
  have hcs : checkS (s.extract (Int.toNat 2) (Int.toNat 10)) = (chk (wsum (s.extract 2 10) 8), 0) := by
    show checkS (s.extract 2 10) = _
    unfold checkS; rw [if_pos h8]
  rw [hcs]
  refine TW.move rfl rfl rfl ct ?_
  refine TW.extract rfl rfl rfl rfl ct ?_
  refine TW.extract rfl rfl rfl rfl ct ?_
  refine TW.assign rfl rfl rfl ct ?_
  refine TW.assign rfl rfl rfl ct ?_
  refine TW.nil (KW.pick [0, 2, 3, 4] [(0, _, _), (2, _, _), (3, _, _), (4, _, _)] rfl (KW.then_ ?_))
  refine CW.seq (CW.region ?_)
  refine TW.move rfl rfl rfl ct ?_
  refine TW.eql rfl rfl rfl ct rfl ct ?_
  refine TW.move rfl rfl rfl ct ?_
  refine TW.move rfl rfl rfl ct ?_
  refine TW.index rfl rfl Tryd.underlying9 rfl id rfl ct (fun _ => by (try dsimp only); omega) ?_
  refine TW.sub8 rfl rfl rfl id rfl ct (fun _ => ⟨show 0 ≤ bt s 10 - 48 by omega, show bt s 10 - 48 ≤ 255 by omega⟩) ?_
  refine TW.conv rfl rfl rfl Tryd.underlying3 rfl id ?_
  refine TW.move rfl rfl rfl ct ?_
  refine TW.eql rfl rfl rfl id rfl id ?_
  refine TW.pickAnd rfl rfl rfl ct rfl pAnd0 ?_
  refine TW.assign rfl rfl rfl ct ?_
  refine TW.nil (KW.pick [0, 2, 3, 4] [(0, _, _), (2, _, _), (3, _, _), (4, _, _)] rfl (KW.then_ ?_))
  refine CW.ret ?_
  rw [ew]
  refine ret1 Tryd.results16 rfl (⟨b1.step b2, ?_⟩)
  congr 1
  rw [show Val s = (bt s 10 - 48 = chk (wsum (s.extract 2 10) 8)) by unfold Val; exact propext ⟨fun h => h.2.symm, fun h => ⟨hsh, h.symm⟩⟩, dec_eq_decide]
  simp
theorem rvalid_c {w : World} (s : ByteArray) : Gives Tryd.prog 17 #[.string s] w fun u w' => Below w.heap.size w w' ∧ u = .bool (dec (Val s)) := by
  refine gives_of (vs := [.string s]) [(0, none, _)] Tryd.func17 rfl Tryd.ntmps17 rfl rfl ?_
  refine CW.seq (CW.region ?_)
  refine TW.assign rfl rfl rfl ct ?_
  refine TW.nil (KW.pick [0, 2] [(0, _, _), (2, _, _)] rfl (KW.then_ ?_))
  refine CW.seq (CW.seq (CW.region ?_))
  refine TW.move rfl rfl rfl ct ?_
  refine TW.callF (cap := []) rfl rfl en22 rfl ct (Args.cons rfl ct Args.nil) (fun _ => rShape_c _) ?_
  rintro w1 b1
  refine TW.not rfl rfl rfl ct ?_
  refine TW.nil (KW.pick [0, 2, 7] [(0, _, _), (2, _, _), (7, _, _)] rfl (KW.then_ ?_))
  refine CW.cond rfl (fun hno => ?_) (fun hyes => ?_)
  · refine CW.seq (CW.region ?_)
    refine TW.assign rfl rfl rfl ct ?_
    refine TW.nil (KW.pick [0, 2] [(0, _, _), (2, _, _)] rfl (KW.then_ ?_))
    refine CW.ret (KW.thenR ?_)
    refine ret1 Tryd.results17 rfl (⟨b1, ?_⟩)
    rw [dec_neg]
    intro h
    rw [dec_pos h.1] at hno
    cases hno
  have hsh : Shape s := dec_iff.1 (by simpa using hyes)
  have hs := hsh.size
  have h8 : Eight (s.extract 2 10) := eight_extract hsh
  have hd := hsh.digs 10 (by omega) (by omega)
  have ew : IntKind.i64.wrap (((s.data.getD (10 : Int).toNat 0).toNat : Int) - 48) = bt s 10 - 48 := wrap_b (z := bt s 10 - 48) (by omega) (by omega)
  refine CW.skip (KW.then_ (CW.seq (CW.region ?_)))
  refine TW.move rfl rfl rfl ct ?_
  refine TW.sliceSLH rfl rfl Tryd.underlying9 rfl ct rfl ct rfl ct (fun _ => by (try dsimp only); omega) ?_
  refine TW.call0 (cap := []) rfl rfl en11 rfl (Args.cons rfl ct Args.nil) (rcheck_c _) ?_
  rintro _ w2 ⟨b2, rfl⟩
  have hcs : checkS (s.extract (Int.toNat 2) (Int.toNat 10)) = (chk (wsum (s.extract 2 10) 8), 0) := by
    show checkS (s.extract 2 10) = _
    unfold checkS; rw [if_pos h8]
  rw [hcs]
  refine TW.move rfl rfl rfl ct ?_
  refine TW.extract rfl rfl rfl rfl ct ?_
  refine TW.extract rfl rfl rfl rfl ct ?_
  refine TW.assign rfl rfl rfl ct ?_
  refine TW.assign rfl rfl rfl ct ?_
  refine TW.nil (KW.pick [0, 2, 3] [(0, _, _), (2, _, _), (3, _, _)] rfl (KW.then_ ?_))
  refine CW.seq (CW.region ?_)
  refine TW.move rfl rfl rfl ct ?_
  refine TW.index rfl rfl Tryd.underlying9 rfl ct rfl ct (fun _ => by (try dsimp only); omega) ?_
  refine TW.sub8 rfl rfl rfl ct rfl ct (fun _ => ⟨show 0 ≤ bt s 10 - 48 by omega, show bt s 10 - 48 ≤ 255 by omega⟩) ?_
  refine TW.conv rfl rfl rfl Tryd.underlying3 rfl ct ?_
  refine TW.move rfl rfl rfl ct ?_
  refine TW.eql rfl rfl rfl ct rfl ct ?_
  refine TW.assign rfl rfl rfl ct ?_
  refine TW.nil (KW.pick [0, 2, 3] [(0, _, _), (2, _, _), (3, _, _)] rfl (KW.then_ ?_))
  refine CW.ret ?_
  rw [ew]
  refine ret1 Tryd.results17 rfl (⟨b1.step b2, ?_⟩)
  congr 1
  rw [show Val s = (bt s 10 - 48 = chk (wsum (s.extract 2 10) 8)) by unfold Val; exact propext ⟨fun h => h.2.symm, fun h => ⟨hsh, h.symm⟩⟩, dec_eq_decide]
end Go.Proofs.YthldjchogdefjaaDoor
