import Derived.Test.YthldjchogdefjaaDoorN
namespace Go.Proofs.YthldjchogdefjaaDoor
open Go.PF Go.RowKit

set_option maxRecDepth 20000 in
theorem digits_law {w : World} (s : ByteArray) (ht : Tabs w) : Gives Tryd.prog 5 #[.string s] w fun u w' => Below w.heap.size w w' ∧ u = .bool true := by
  refine gives_of (vs := [.string s]) [(0, none, _)] Tryd.func5 rfl Tryd.ntmps5 rfl rfl ?_
  refine CW.seq (CW.region ?_)
  refine TW.assign rfl rfl rfl ct ?_
  refine TW.nil (KW.pick [0, 2] [(0, _, _), (2, _, _)] rfl (KW.then_ ?_))
  refine CW.seq (CW.region ?_)
  refine TW.callF (cap := []) rfl rfl en9 rfl ct Args.nil (fun _ => head_c ht) ?_
  rintro w1 b1
  refine TW.assign rfl rfl rfl ct ?_
  refine TW.nil (KW.pick [0, 2, 3] [(0, _, _), (2, _, _), (3, _, _)] rfl (KW.then_ ?_))
  refine CW.seq (CW.seq (CW.region ?_))
  refine TW.move rfl rfl rfl ct ?_
  refine TW.lenString rfl rfl Tryd.underlying9 rfl ct ?_
  refine TW.gtr rfl rfl rfl ct rfl ct ?_
  refine TW.move rfl rfl rfl ct ?_
  refine TW.move rfl rfl rfl ct ?_
  have t1 := ht.below b1
  refine TW.callF (cap := []) rfl rfl en16 rfl ct (Args.cons rfl id Args.nil) (fun _ => valid_c _ t1) ?_
  rintro w2 c2
  refine TW.not rfl rfl rfl id ?_
  refine TW.pickOr rfl rfl rfl ct rfl pOr0 ?_
  refine TW.nil (KW.pick [0, 2, 3, 16] [(0, _, _), (2, _, _), (3, _, _), (16, _, _)] rfl (KW.then_ ?_))
  have t2 := t1.below c2
  have b2 := b1.step c2
  refine CW.cond rfl (fun hx => ?_) (fun hy => ?_)
  · refine CW.seq (CW.region ?_)
    refine TW.move rfl rfl rfl ct ?_
    refine TW.assign rfl rfl rfl ct ?_
    refine TW.nil (KW.pick [0, 2, 3] [(0, _, _), (2, _, _), (3, _, _)] rfl (KW.then_ ?_))
    refine CW.ret (KW.thenR ?_)
    refine ret1 Tryd.results5 rfl (⟨b2, rfl⟩)
  have hv : Val s := by
    by_cases h : Val s
    · exact h
    · rw [dec_neg h] at hy; simp at hy
  have hsh := (val_iff.1 hv).1
  have hs := hsh.size
  refine CW.skip (KW.then_ (CW.seq (CW.region ?_)))
  refine TW.assign rfl rfl rfl ct ?_
  refine TW.nil (KW.pick [0, 2, 3, 4] [(0, _, _), (2, _, _), (3, _, _), (4, _, _)] rfl (KW.then_ ?_))
  refine CW.seq (CW.seq (CW.region ?_))
  refine TW.assign rfl rfl rfl ct ?_
  refine TW.nil (KW.pick [0, 2, 3, 4, 5] [(0, _, _), (2, _, _), (3, _, _), (4, _, _), (5, _, _)] rfl (KW.then_ ?_))
  refine CW.block ?_
  refine CW.loopS (fun x : Nat × Nat => [(0, none, .string s), (3, none, .bool true), (4, none, .int .i64 (x.2 : Int)), (5, none, .int .i64 ((x.1 : Int) + 2))])
    (fun x W => x.1 ≤ 9 ∧ x.2 ≤ x.1 ∧ x.2 ≤ 8 ∧ Below w.heap.size w W) (fun x => 9 - x.1) (0, 0) [0, 3, 4, 5] ⟨by simp, by simp, by simp, b2⟩ rfl ?_
  rintro ⟨i, m⟩ W ⟨hi9, hm1, hm2, hbW⟩
  dsimp only at hi9 hm1 hm2
  refine CW.seq (CW.seq (CW.region ?_))
  refine TW.move rfl rfl rfl ct ?_
  refine TW.lss rfl rfl rfl ct rfl ct ?_
  refine TW.nil (KW.pick [0, 3, 4, 5, 19] [(0, _, _), (3, _, _), (4, _, _), (5, _, _), (19, _, _)] rfl (KW.then_ ?_))
  refine CW.condP rfl (fun hlt => ?_) (fun hge => ?_)
  · dsimp only at hlt
    have hi : i < 9 := by omega
    refine CW.skip (KW.then_ (CW.seq (CW.block (CW.seq (CW.region ?_)))))
    refine TW.assign rfl rfl rfl ct ?_
    refine TW.nil (KW.pick [0, 3, 4, 5, 6] [(0, _, _), (3, _, _), (4, _, _), (5, _, _), (6, _, _)] rfl (KW.then_ ?_))
    refine CW.block ?_
    refine CW.loopS (fun x : Nat × Nat => [(0, none, .string s), (3, none, .bool true), (4, none, .int .i64 (x.2 : Int)), (5, none, .int .i64 ((i : Int) + 2)), (6, none, .int .i64 (x.1 : Int))])
      (fun x W => x.1 ≤ 10 ∧ Below w.heap.size w W ∧ (x.2 = m ∨ (x.2 = m + 1 ∧ i < 8 ∧ ∃ d, d < x.1 ∧ nbr s (2 + i) (48 + d) ≠ s ∧ Val (nbr s (2 + i) (48 + d))))) (fun x => 10 - x.1) (0, m) [0, 3, 4, 5, 6] ⟨by simp, hbW, .inl rfl⟩ rfl ?_
    rintro ⟨d, m'⟩ W2 ⟨hd10, hb2, hmm⟩
    dsimp only at hd10 hmm
    refine CW.seq (CW.seq (CW.region ?_))
    refine TW.move rfl rfl rfl ct ?_
    refine TW.lss rfl rfl rfl ct rfl ct ?_
    refine TW.nil (KW.pick [0, 3, 4, 5, 6, 23] [(0, _, _), (3, _, _), (4, _, _), (5, _, _), (6, _, _), (23, _, _)] rfl (KW.then_ ?_))
    refine CW.condP rfl (fun hlt2 => ?_) (fun hge2 => ?_)
    · dsimp only at hlt2
      have hd : d < 10 := by omega
      have hb2' := hb2
      rw [show ((i : Int) + 2) = ((2 + i : Nat) : Int) by omega]
      refine CW.skip (KW.then_ (CW.seq (CW.block (CW.seq (CW.region ?_)))))
      refine TW.move rfl rfl rfl ct ?_
      refine TW.move rfl rfl rfl ct ?_
      refine TW.move rfl rfl rfl ct ?_
      refine TW.call0 (cap := []) rfl rfl en21 rfl (Args.cons rfl ct (Args.cons rfl ct (Args.cons rfl ct Args.nil))) (text_c s hs (2 + i) d (by omega) hd) ?_
      rintro _ w3 ⟨c3, rfl⟩
      have b3 := hb2.step c3
      refine TW.assign rfl rfl rfl ct ?_
      refine TW.nil (KW.pick [0, 3, 4, 5, 6, 7] [(0, _, _), (3, _, _), (4, _, _), (5, _, _), (6, _, _), (7, _, _)] rfl (KW.then_ ?_))
      refine CW.seq (CW.seq (CW.region ?_))
      refine TW.move rfl rfl rfl ct ?_
      refine TW.move rfl rfl rfl ct ?_
      refine TW.eqlS rfl rfl rfl ct rfl ct ?_
      refine TW.move rfl rfl rfl ct ?_
      refine TW.move rfl rfl rfl ct ?_
      refine TW.callF (cap := []) rfl rfl en16 rfl ct (Args.cons rfl id Args.nil) (fun _ => valid_c _ (ht.below b3)) ?_
      rintro w4 c4
      refine TW.not rfl rfl rfl id ?_
      refine TW.pickOr rfl rfl rfl ct rfl pOr0 ?_
      refine TW.nil (KW.pick [0, 3, 4, 5, 6, 7, 37] [(0, _, _), (3, _, _), (4, _, _), (5, _, _), (6, _, _), (7, _, _), (37, _, _)] rfl (KW.then_ ?_))
      have b4 := b3.step c4
      refine CW.cond rfl (fun hskip => ?_) (fun hhit => ?_)
      · refine CW.exit (KW.thenX (KW.blockX (KW.then_ (CW.region ?_))))
        refine TW.move rfl rfl rfl ct ?_
        refine TW.add rfl rfl rfl ct rfl ct (fun _ => by (try dsimp only); omega) ?_
        refine TW.assign rfl rfl rfl ct ?_
        refine TW.nil (KW.pick [0, 3, 4, 5, 6, 7] [(0, _, _), (3, _, _), (4, _, _), (5, _, _), (6, _, _), (7, _, _)] rfl ?_)
        refine KW.round (d + 1, m') [0, 3, 4, 5, 6] ?_ ⟨by show d + 1 ≤ 10; omega, b4, ?_⟩ (by show 10 - (d + 1) < 10 - d; omega)
        · rw [show ((2 + i : Nat) : Int) = ((i : Int) + 2) by omega]; rfl
        · rcases hmm with h | ⟨h1, h2, d', h3, h4⟩
          · exact .inl h
          · exact .inr ⟨h1, h2, d', by show d' < d + 1; omega, h4⟩
      rw [beq_str] at hhit
      have hne : nbr s (2 + i) (48 + d) ≠ s := fun h => by rw [dec_pos h] at hhit; simp at hhit
      have hval : Val (nbr s (2 + i) (48 + d)) := by
        by_cases h : Val (nbr s (2 + i) (48 + d))
        · exact h
        · rw [dec_neg h] at hhit; simp at hhit
      obtain ⟨h8, h5, h5', _⟩ := hit_five hv hi hd hne hval
      have hm' : m' = m := by
        rcases hmm with h | ⟨h1, h2, d', h3, h4, h6⟩
        · exact h
        · have := hit_one hv hi hd (by omega) hne hval h4 h6
          omega
      have hns : (nbr s (2 + i) (48 + d)).size = 13 := nbr_size hs (by omega)
      refine CW.skip (KW.then_ (CW.seq (CW.region ?_)))
      refine TW.move rfl rfl rfl ct ?_
      refine TW.add rfl rfl rfl ct rfl ct (fun _ => by (try dsimp only); omega) ?_
      refine TW.assign rfl rfl rfl ct ?_
      refine TW.nil (KW.pick [0, 3, 4, 5, 6, 7] [(0, _, _), (3, _, _), (4, _, _), (5, _, _), (6, _, _), (7, _, _)] rfl (KW.then_ ?_))
      refine CW.seq (CW.region ?_)
      refine TW.move rfl rfl rfl ct ?_
      refine TW.eql rfl rfl rfl ct rfl ct ?_
      refine TW.move rfl rfl rfl ct ?_
      refine TW.move rfl rfl rfl ct ?_
      refine TW.index rfl rfl Tryd.underlying9 rfl id rfl ct (fun h => by (try dsimp only); first | omega | (simp [Cnd] at h; omega)) ?_
      refine TW.neq rfl rfl rfl id rfl ct ?_
      refine TW.pickOr rfl rfl rfl ct rfl pOr0 ?_
      refine TW.move rfl rfl rfl ct ?_
      refine TW.move rfl rfl rfl ct ?_
      refine TW.index rfl rfl Tryd.underlying9 rfl id rfl ct (fun h => by (try dsimp only); first | omega | (simp [Cnd] at h; omega)) ?_
      refine TW.neq rfl rfl rfl id rfl ct ?_
      refine TW.pickOr rfl rfl rfl ct rfl pOr0 ?_
      refine TW.nil (KW.pick [0, 3, 4, 5, 6, 7, 51] [(0, _, _), (3, _, _), (4, _, _), (5, _, _), (6, _, _), (7, _, _), (51, _, _)] rfl (KW.then_ ?_))
      refine CW.cond rfl (fun hbad => ?_) (fun hgood => ?_)
      · exfalso
        have e1 : (((s.data.getD (10 : Int).toNat 0).toNat : Int)) = 53 := h5
        have e2 : ((((nbr s (2 + i) (48 + d)).data.getD (10 : Int).toNat 0).toNat : Int)) = 53 := h5'
        rw [e1, e2] at hbad
        simp at hbad
        omega
      refine CW.skip (KW.blockN (KW.then_ (CW.region ?_)))
      refine TW.move rfl rfl rfl ct ?_
      refine TW.add rfl rfl rfl ct rfl ct (fun _ => by (try dsimp only); omega) ?_
      refine TW.assign rfl rfl rfl ct ?_
      refine TW.nil (KW.pick [0, 3, 4, 5, 6, 7] [(0, _, _), (3, _, _), (4, _, _), (5, _, _), (6, _, _), (7, _, _)] rfl ?_)
      refine KW.round (d + 1, m' + 1) [0, 3, 4, 5, 6] ?_ ⟨by show d + 1 ≤ 10; omega, b4, .inr ⟨by show m' + 1 = m + 1; omega, h8, d, by show d < d + 1; omega, hne, hval⟩⟩ (by show 10 - (d + 1) < 10 - d; omega)
      rw [show ((2 + i : Nat) : Int) = ((i : Int) + 2) by omega]; rfl
    · dsimp only at hge2
      refine CW.exit (KW.thenX (KW.thenX (KW.blockX (KW.blockN (KW.then_ (CW.region ?_))))))
      refine TW.move rfl rfl rfl ct ?_
      refine TW.add rfl rfl rfl ct rfl ct (fun _ => by (try dsimp only); omega) ?_
      refine TW.assign rfl rfl rfl ct ?_
      refine TW.nil (KW.pick [0, 3, 4, 5, 6] [(0, _, _), (3, _, _), (4, _, _), (5, _, _), (6, _, _)] rfl ?_)
      refine KW.round (i + 1, m') [0, 3, 4, 5] ?_ ⟨by show i + 1 ≤ 9; omega, ?_, ?_, hb2⟩ (by show 9 - (i + 1) < 9 - i; omega)
      · show some _ = some _
        simp only [show ((i : Int) + 2 + 1) = ((i + 1 : Nat) : Int) + 2 by omega]
      · show m' ≤ i + 1
        rcases hmm with h | ⟨h1, _⟩ <;> omega
      · show m' ≤ 8
        rcases hmm with h | ⟨h1, h2, _⟩ <;> omega
  · dsimp only at hge
    refine CW.exit (KW.thenX (KW.thenX (KW.blockX (KW.then_ (CW.seq (CW.region ?_))))))
    refine TW.move rfl rfl rfl ct ?_
    refine TW.move rfl rfl rfl ct ?_
    refine TW.move rfl rfl rfl ct ?_
    refine TW.leq rfl rfl rfl id rfl ct ?_
    refine TW.pickAnd rfl rfl rfl ct rfl pAnd0 ?_
    refine TW.assign rfl rfl rfl ct ?_
    refine TW.nil (KW.pick [0, 2, 3, 4, 5] [(0, _, _), (2, _, _), (3, _, _), (4, _, _), (5, _, _)] rfl (KW.then_ ?_))
    refine CW.ret ?_
    refine ret1 Tryd.results5 rfl (⟨hbW, by simp; omega⟩)
end Go.Proofs.YthldjchogdefjaaDoor
