import Derived.Test.YthldjchogdefjaaDoorN
namespace Go.Proofs.YthldjchogdefjaaDoor
open Go.PF Go.RowKit

set_option maxRecDepth 20000 in
theorem all_law {w : World} (s : ByteArray) (x y : Int) (hx0 : 0 ≤ x) (hx1 : x ≤ 255) (hy0 : 0 ≤ y) (hy1 : y ≤ 255) (ht : Tabs w) : Gives Tryd.prog 7 #[.string s, .int .u8 x, .int .u8 y] w fun u w' => Below w.heap.size w w' ∧ u = .bool true := by
  refine gives_of (vs := [.string s, .int .u8 x, .int .u8 y]) [(0, none, _), (1, none, _), (2, none, _)] Tryd.func7 rfl Tryd.ntmps7 rfl rfl ?_
  refine CW.seq (CW.region ?_)
  refine TW.assign rfl rfl rfl ct ?_
  refine TW.nil (KW.pick [0, 1, 2, 6] [(0, _, _), (1, _, _), (2, _, _), (6, _, _)] rfl (KW.then_ ?_))
  refine CW.seq (CW.region ?_)
  refine TW.callF (cap := []) rfl rfl en9 rfl ct Args.nil (fun _ => head_c ht) ?_
  rintro w1 b1
  refine TW.assign rfl rfl rfl ct ?_
  refine TW.nil (KW.pick [0, 1, 2, 6, 7] [(0, _, _), (1, _, _), (2, _, _), (6, _, _), (7, _, _)] rfl (KW.then_ ?_))
  refine CW.seq (CW.seq (CW.region ?_))
  refine TW.move rfl rfl rfl ct ?_
  have t1 := ht.below b1
  refine TW.callF (cap := []) rfl rfl en22 rfl ct (Args.cons rfl ct Args.nil) (fun _ => rShape_c _) ?_
  rintro w2 c2
  refine TW.not rfl rfl rfl ct ?_
  refine TW.nil (KW.pick [0, 1, 2, 6, 7, 12] [(0, _, _), (1, _, _), (2, _, _), (6, _, _), (7, _, _), (12, _, _)] rfl (KW.then_ ?_))
  have t2 := t1.below c2
  have b2 := b1.step c2
  refine CW.cond rfl (fun hx => ?_) (fun hy => ?_)
  · refine CW.seq (CW.region ?_)
    refine TW.move rfl rfl rfl ct ?_
    refine TW.assign rfl rfl rfl ct ?_
    refine TW.nil (KW.pick [0, 1, 2, 6, 7] [(0, _, _), (1, _, _), (2, _, _), (6, _, _), (7, _, _)] rfl (KW.then_ ?_))
    refine CW.ret (KW.thenR ?_)
    refine ret1 Tryd.results7 rfl (⟨b2, rfl⟩)
  have hsh : Shape s := dec_iff.1 (by simpa using hy)
  have hs := hsh.size
  have hwx := wrap_fits (z := x) (by omega)
  have hwy := wrap_fits (z := y) (by omega)
  obtain ⟨p, hp⟩ : ∃ p : Nat, IntKind.i64.wrap x % 9 = p := ⟨(IntKind.i64.wrap x % 9).toNat, by omega⟩
  obtain ⟨d, hd⟩ : ∃ d : Nat, IntKind.i64.wrap y % 10 = d := ⟨(IntKind.i64.wrap y % 10).toNat, by omega⟩
  have hp9 : p < 9 := by omega
  have hd10 : d < 10 := by omega
  have hsum : (2 : Int) + (p : Int) = ((2 + p : Nat) : Int) := by omega
  refine CW.skip (KW.then_ (CW.seq (CW.region ?_)))
  refine TW.move rfl rfl rfl ct ?_
  refine TW.move rfl rfl rfl ct ?_
  refine TW.conv rfl rfl rfl Tryd.underlying3 rfl ct ?_
  refine TW.rem rfl rfl rfl ct rfl ct (fun _ => by (try dsimp only); omega) ?_
  refine TW.add rfl rfl rfl ct rfl ct (fun _ => by (try dsimp only); omega) ?_
  refine TW.move rfl rfl rfl ct ?_
  refine TW.conv rfl rfl rfl Tryd.underlying3 rfl ct ?_
  refine TW.rem rfl rfl rfl ct rfl ct (fun _ => by (try dsimp only); omega) ?_
  rw [hp, hd, hsum]
  refine TW.call0 (cap := []) rfl rfl en21 rfl (Args.cons rfl ct (Args.cons rfl ct (Args.cons rfl ct Args.nil))) (text_c s hs (2 + p) d (by omega) hd10) ?_
  rintro _ w3 ⟨c3, rfl⟩
  have t3 := t2.below c3
  have b3 := b2.step c3
  refine TW.assign rfl rfl rfl ct ?_
  refine TW.nil (KW.pick [0, 1, 2, 6, 7, 8] [(0, _, _), (1, _, _), (2, _, _), (6, _, _), (7, _, _), (8, _, _)] rfl (KW.then_ ?_))
  refine CW.seq (CW.region ?_)
  refine TW.move rfl rfl rfl ct ?_
  refine TW.move rfl rfl rfl ct ?_
  refine TW.known rfl (by simp [Cnd]) ?_
  refine TW.move rfl rfl rfl ct ?_
  refine TW.known rfl (by simp [Cnd]) ?_
  refine TW.move rfl rfl rfl ct ?_
  refine TW.known rfl (by simp [Cnd]) ?_
  refine TW.neqS rfl rfl rfl ct rfl ct ?_
  refine TW.known rfl (by simp [Cnd]) ?_
  refine TW.move rfl rfl rfl ct ?_
  refine TW.move rfl rfl rfl ct ?_
  refine TW.callF (cap := []) rfl rfl en16 rfl ct (Args.cons rfl id Args.nil) (fun _ => valid_c _ t3) ?_
  rintro w4 c4
  refine TW.known rfl (by simp [Cnd]) ?_
  refine TW.pickAnd rfl rfl rfl ct rfl pAnd0 ?_
  refine TW.known rfl (by simp [Cnd]) ?_
  refine TW.move rfl rfl rfl ct ?_
  refine TW.known rfl (by simp [Cnd]) ?_
  have t4 := t3.below c4
  have b4 := b3.step c4
  refine TW.call0 (cap := []) rfl rfl en19 rfl (Args.cons rfl ct Args.nil) (misread_s _ t4) ?_
  rintro v5 w5 ⟨c5, s5⟩
  have b5 := b4.step c5
  refine TW.known rfl (by simp [Cnd]) ?_
  refine TW.move rfl rfl rfl ct ?_
  refine TW.known rfl (by simp [Cnd]) ?_
  refine TW.callF (cap := []) rfl rfl en23 rfl ct (Args.cons rfl ct (Args.cons rfl ct Args.nil)) (fun _ => in_c _ s5) ?_
  rintro w6 c6
  refine TW.known rfl (by simp [Cnd]) ?_
  refine TW.eqlB rfl rfl Tryd.underlying4 rfl ct rfl ct ?_
  refine TW.pickAnd rfl rfl rfl ct rfl pT ?_
  refine TW.assign rfl rfl rfl ct ?_
  refine TW.nil (KW.pick [0, 1, 2, 6, 7, 8] [(0, _, _), (1, _, _), (2, _, _), (6, _, _), (7, _, _), (8, _, _)] rfl (KW.then_ ?_))
  refine CW.ret ?_
  refine ret1 Tryd.results7 rfl (⟨b5.step c6, ?_⟩)
  rw [beq_str]
  have hself := nbr_self hs (p := 2 + p) (b := 48 + d) (by omega) (by omega)
  have key : (nbr s (2 + p) (48 + d) ≠ s ∧ Val (nbr s (2 + p) (48 + d))) ↔ nbr s (2 + p) (48 + d) ∈ mis s := by
    rw [mem_mis]
    constructor
    · rintro ⟨h1, h2⟩
      exact ⟨hsh, mem_cands.2 ⟨p, d, hp9, hd10, fun h => h1 (hself.2 (by omega)), rfl⟩, h2⟩
    · rintro ⟨_, h1, h2⟩
      obtain ⟨i', d', hi', hd', hne, he⟩ := mem_cands.1 h1
      refine ⟨fun e => ?_, h2⟩
      rw [e] at he
      exact hne (by have := (nbr_self hs (p := 2 + i') (b := 48 + d') (by omega) (by omega)).1 he.symm; omega)
  have hb : (!dec (nbr s (2 + p) (48 + d) = s) && dec (Val (nbr s (2 + p) (48 + d)))) = dec (nbr s (2 + p) (48 + d) ∈ mis s) := by
    rw [Bool.eq_iff_iff, Bool.and_eq_true, dec_iff, dec_iff, ← key]
    refine and_congr_left fun _ => ?_
    constructor
    · intro h e; rw [dec_pos e] at h; cases h
    · intro h; rw [dec_neg h]; rfl
  rw [hb]
  simp
end Go.Proofs.YthldjchogdefjaaDoor
