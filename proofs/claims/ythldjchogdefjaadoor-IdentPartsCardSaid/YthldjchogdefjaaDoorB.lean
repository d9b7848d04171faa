import Derived.Test.YthldjchogdefjaaDoorA
import Derived.Lib.LaidTab
import Derived.Lib.ItoaNum
namespace Go.Proofs.YthldjchogdefjaaDoor
open Go.PF Go.RowKit

theorem nb {p : Prop} [Decidable p] (h : (!decide p) = true) : ¬ p := by simpa using h
theorem nb' {p : Prop} [Decidable p] (h : (!decide p) = false) : p := by simpa using h
theorem add0 (g k : Nat) : Addr.add ⟨g, 0, none⟩ k = ⟨g, k, none⟩ := by unfold Addr.add; split <;> simp_all
/-- what start-up has laid -/
structure Tabs (w : World) : Prop where
  wts : ∀ i, i < 8 → w.cell? ⟨0, i, none⟩ = some (.int .i64 (wt i))
  pow : Lib.TabIs Tryd.prog w "internal/strconv.uint64pow10" .u64 Lib.pow10Tab
theorem Tabs.below {w w' : World} (h : Tabs w) (hb : Below w.heap.size w w') : Tabs w' := by
  refine ⟨fun i hi => (hb.cell (block_lt_of_cell (h.wts i hi))).trans (h.wts i hi), ?_⟩
  have hp := h.pow
  unfold Lib.TabIs World.var? at hp ⊢
  cases hg : Tryd.prog.globalNamed "internal/strconv.uint64pow10" with
  | none => rw [hg] at hp; cases hp
  | some g =>
    rw [hg] at hp
    simp only [Option.bind_some] at hp ⊢
    rcases Nat.lt_or_ge g w.heap.size with hlt | hge
    · rw [hb.block g hlt]; exact hp
    · rw [Array.getElem?_eq_none hge] at hp; cases hp

theorem wtab {w : World} (h : Tabs w) {k : Nat} (hk : k < 8) : w.cell? (Addr.add ⟨0, 0, none⟩ ((k : Int).toNat * 1)) = some (.int .i64 (wt k)) := by
  rw [add0, Int.toNat_natCast, Nat.mul_one]; exact h.wts k hk
theorem byteAt {w : World} {g k : Nat} {v : Value} (h : w.cell? ⟨g, k, none⟩ = some v) : w.cell? (Addr.add ⟨g, 0, none⟩ ((k : Int).toNat * 1)) = some v := by
  rw [add0, Int.toNat_natCast, Nat.mul_one]; exact h
theorem wt_in {k : Nat} (hk : k < 8) : 2 ≤ wt k ∧ wt k ≤ 9 := by
  obtain rfl | rfl | rfl | rfl | rfl | rfl | rfl | rfl : k = 0 ∨ k = 1 ∨ k = 2 ∨ k = 3 ∨ k = 4 ∨ k = 5 ∨ k = 6 ∨ k = 7 := by omega
  all_goals decide
theorem wrap_b {z : Int} (h0 : 0 ≤ z) (h1 : z ≤ 255) : IntKind.i64.wrap z = z := wrap_fits (by omega)
theorem wmul {k : Nat} (hk : k < 8) {z : Int} (h0 : 0 ≤ z) (h1 : z ≤ 9) : 0 ≤ wt k * z ∧ wt k * z ≤ 81 := by
  have := wt_in hk
  refine ⟨Int.mul_nonneg (by omega) h0, ?_⟩
  refine Int.le_trans (Int.mul_le_mul_of_nonneg_right this.2 h0) ?_
  omega

set_option maxRecDepth 20000 in
theorem check_c {w : World} (s : ByteArray) (ht : Tabs w) : Gives Tryd.prog 10 #[.string s] w fun u w' => Below w.heap.size w w' ∧ u = .tuple #[.int .i64 (checkS s).1, .int .i64 (checkS s).2] := by
  refine gives_of (vs := [.string s]) [(0, none, _)] Tryd.func10 rfl Tryd.ntmps10 rfl rfl ?_
  refine CW.seq (CW.region ?_)
  refine TW.assign rfl rfl rfl ct ?_
  refine TW.assign rfl rfl rfl ct ?_
  refine TW.nil (KW.pick [0, 2, 3] [(0, _, _), (2, _, _), (3, _, _)] rfl (KW.then_ ?_))
  refine CW.scope (CW.seq (CW.seq (CW.region ?_)))
  refine TW.move rfl rfl rfl ct ?_
  refine TW.lenString rfl rfl Tryd.underlying9 rfl ct ?_
  refine TW.neq rfl rfl rfl ct rfl ct ?_
  refine TW.nil (KW.pick [0, 2, 3, 11] [(0, _, _), (2, _, _), (3, _, _), (11, _, _)] rfl (KW.then_ ?_))
  refine CW.condP rfl (fun hne => ?_) (fun heq => ?_)
  · refine CW.seq (CW.region ?_)
    refine TW.assign rfl rfl rfl ct ?_
    refine TW.assign rfl rfl rfl ct ?_
    refine TW.nil (KW.pick [0, 2, 3] [(0, _, _), (2, _, _), (3, _, _)] rfl (KW.then_ ?_))
    refine CW.ret (KW.thenR (KW.scopeR ?_))
    refine ret2 Tryd.results10 rfl rfl (⟨Below.refl _ _, by have h : ¬ Eight s := (fun h => hne (by have := h.1; omega)); simp [checkS, h]⟩)
  have hs : s.size = 8 := by omega
  refine CW.skip (KW.then_ (CW.seq (CW.region ?_)))
  refine TW.assign rfl rfl rfl ct ?_
  refine TW.assign rfl rfl rfl ct ?_
  refine TW.nil (KW.pick [0, 2, 3, 4, 5] [(0, _, _), (2, _, _), (3, _, _), (4, _, _), (5, _, _)] rfl (KW.then_ ?_))
  refine CW.seq (CW.label (KW.then_ (CW.seq (CW.seq (CW.region ?_)))))
  refine TW.move rfl rfl rfl ct ?_
  refine TW.bytesOf rfl rfl Tryd.underlying9 Tryd.underlying38 Tryd.underlying5 rfl ?_
  rintro g c w1 hsz hg hb hc
  refine TW.lenSlice rfl rfl Tryd.underlying38 rfl ct ?_
  refine TW.move rfl rfl rfl ct ?_
  refine TW.nil (KW.pick [0, 2, 3, 4, 5, 13, 14, 15] [(0, _, _), (2, _, _), (3, _, _), (4, _, _), (5, _, _), (13, _, _), (14, _, _), (15, _, _)] rfl (KW.then_ ?_))
  refine CW.block ?_
  have ht1 := ht.below hb
  rw [hs]
  refine CW.loopS (fun k : Nat => [(4, none, .int .i64 (wsum s k)), (5, none, .bool true), (13, none, .slice (some ⟨g, 0, none⟩) 8 c), (14, none, .int .i64 8), (15, none, .int .i64 (k : Int))])
    (fun k W => k ≤ 8 ∧ Below w1.heap.size w1 W ∧ ∀ i, i < k → Dig (bt s i)) (fun k => 8 - k) 0 [4, 5, 13, 14, 15] ⟨by omega, Below.refl _ _, fun i hi => by omega⟩ rfl ?_
  rintro k W ⟨hk, hbW, hd⟩
  have hws := wsum_bound s k hk hd
  have hblo := bt_lo s k
  refine CW.seq (CW.region ?_)
  refine TW.lss rfl rfl rfl ct rfl ct ?_
  refine TW.nil (KW.pick [4, 5, 13, 14, 15, 16] [(4, _, _), (5, _, _), (13, _, _), (14, _, _), (15, _, _), (16, _, _)] rfl (KW.then_ ?_))
  refine CW.seq ?_
  refine CW.condP rfl (fun hlt => ?_) (fun hge => ?_)
  · have hk8 : k < 8 := by omega
    have hck := (hbW.cell (block_lt_of_cell (hc k (by omega)))).trans (hc k (by omega))
    refine CW.skip (KW.then_ (CW.seq (CW.block (CW.seq (CW.region ?_)))))
    refine TW.move rfl rfl rfl ct ?_
    refine TW.indexAddr rfl rfl Tryd.underlying38 sz5 rfl ct rfl ct (fun _ => by (try dsimp only); omega) ?_
    refine TW.load rfl rfl one5 rfl ct (fun _ => byteAt hck) ?_
    refine TW.assign rfl rfl rfl ct ?_
    refine TW.assign rfl rfl rfl ct ?_
    refine TW.nil (KW.pick [4, 5, 6, 7, 13, 14, 15] [(4, _, _), (5, _, _), (6, _, _), (7, _, _), (13, _, _), (14, _, _), (15, _, _)] rfl (KW.then_ ?_))
    refine CW.block (CW.seq (CW.region ?_))
    refine TW.move rfl rfl rfl ct ?_
    refine TW.callF (cap := []) rfl rfl en24 rfl ct (Args.cons rfl ct Args.nil) (fun _ => isDigit_c _) ?_
    rintro w2 b2
    refine TW.not rfl rfl rfl ct ?_
    refine TW.assign rfl rfl rfl ct ?_
    refine TW.nil (KW.pick [4, 5, 6, 7, 13, 14, 15, 29] [(4, _, _), (5, _, _), (6, _, _), (7, _, _), (13, _, _), (14, _, _), (15, _, _), (29, _, _)] rfl (KW.then_ ?_))
    have hb2 := hbW.step b2
    have ht2 := ht1.below hb2
    refine CW.cond rfl (fun hno => ?_) (fun hyes => ?_)
    · have hnd : ¬ Dig (bt s k) := nb hno
      refine CW.seq (CW.region ?_)
      refine TW.assign rfl rfl rfl ct ?_
      refine TW.nil (KW.pick [4, 5, 6, 7, 13, 14, 15] [(4, _, _), (5, _, _), (6, _, _), (7, _, _), (13, _, _), (14, _, _), (15, _, _)] rfl (KW.then_ ?_))
      refine CW.exit (KW.blockY rfl (KW.blockY rfl (KW.thenX (KW.thenX (KW.blockX (KW.then_ (CW.seq (CW.seq (CW.region ?_)))))))))
      refine TW.move rfl rfl rfl ct ?_
      refine TW.not rfl rfl rfl ct ?_
      refine TW.nil (KW.pick [4, 5, 6, 7, 13, 14, 15, 35] [(4, _, _), (5, _, _), (6, _, _), (7, _, _), (13, _, _), (14, _, _), (15, _, _), (35, _, _)] rfl (KW.then_ ?_))
      refine CW.cond rfl (fun hx => ?_) (fun hy => ?_)
      · refine CW.seq (CW.region ?_)
        refine TW.assign rfl rfl rfl ct ?_
        refine TW.assign rfl rfl rfl ct ?_
        refine TW.nil (KW.pick [2, 3, 4, 5, 6, 7, 13, 14, 15] [(2, _, _), (3, _, _), (4, _, _), (5, _, _), (6, _, _), (7, _, _), (13, _, _), (14, _, _), (15, _, _)] rfl (KW.then_ ?_))
        refine CW.ret (KW.thenR (KW.scopeR ?_))
        refine ret2 Tryd.results10 rfl rfl (⟨hb.step hb2, by have h : ¬ Eight s := (fun h => hnd (h.2 k hk8)); simp [checkS, h]⟩)
      · simp at hy
    · have hdk : Dig (bt s k) := nb' hyes
      have hwm := wmul hk8 (z := bt s k - 48) (by omega) (by omega)
      have ew := wrap_b (z := bt s k - 48) (by omega) (by omega)
      unfold bt at hwm ew hblo hdk
      refine CW.region ?_
      refine TW.move rfl rfl rfl ct ?_
      refine TW.move rfl rfl rfl ct ?_
      refine TW.indexAddrA rfl rfl Tryd.underlying40 sz3 rfl ct rfl ct (fun _ => by (try dsimp only); omega) ?_
      refine TW.load rfl rfl one3 rfl ct (fun _ => wtab ht2 hk8) ?_
      refine TW.move rfl rfl rfl ct ?_
      refine TW.sub8 rfl rfl rfl ct rfl ct (fun _ => by omega) ?_
      refine TW.conv rfl rfl rfl Tryd.underlying3 rfl ct ?_
      refine TW.mul rfl rfl rfl ct rfl ct (fun _ => by rw [ew]; omega) ?_
      refine TW.add rfl rfl rfl ct rfl ct (fun _ => by rw [ew]; omega) ?_
      refine TW.assign rfl rfl rfl ct ?_
      refine TW.nil (KW.pick [4, 5, 6, 7, 13, 14, 15] [(4, _, _), (5, _, _), (6, _, _), (7, _, _), (13, _, _), (14, _, _), (15, _, _)] rfl (KW.blockN (KW.blockN (KW.then_ ?_))))
      refine CW.region ?_
      refine TW.add rfl rfl rfl ct rfl ct (fun _ => by (try dsimp only); omega) ?_
      refine TW.move rfl rfl rfl ct ?_
      refine TW.nil (KW.pick [4, 5, 6, 7, 13, 14, 15] [(4, _, _), (5, _, _), (6, _, _), (7, _, _), (13, _, _), (14, _, _), (15, _, _)] rfl ?_)
      rw [ew]
      refine KW.round (k + 1) [4, 5, 13, 14, 15] rfl ⟨by omega, hb2, fun i hi => ?_⟩ (by omega)
      rcases Nat.lt_or_ge i k with h | h
      · exact hd i h
      · obtain rfl : i = k := by omega
        exact hdk
  · have hk8 : k = 8 := by omega
    subst hk8
    have h8 : Eight s := ⟨hs, hd⟩
    have hb8 := hb.step hbW
    have hm0 := Int.emod_nonneg (wsum s 8) (show (11 : Int) ≠ 0 by decide)
    have hm1 := Int.emod_lt_of_pos (wsum s 8) (show (0 : Int) < 11 by decide)
    refine CW.exit (KW.thenX (KW.thenX (KW.blockX (KW.then_ (CW.seq (CW.seq (CW.region ?_)))))))
    refine TW.move rfl rfl rfl ct ?_
    refine TW.not rfl rfl rfl ct ?_
    refine TW.nil (KW.pick [4, 5, 13, 14, 15, 35] [(4, _, _), (5, _, _), (13, _, _), (14, _, _), (15, _, _), (35, _, _)] rfl (KW.then_ ?_))
    refine CW.cond rfl (fun hx => ?_) (fun hy => ?_)
    · simp at hx
    refine CW.skip (KW.then_ (CW.seq (CW.region ?_)))
    refine TW.move rfl rfl rfl ct ?_
    refine TW.rem rfl rfl rfl ct rfl ct (fun _ => by (try dsimp only); omega) ?_
    refine TW.sub rfl rfl rfl ct rfl ct (fun _ => by (try dsimp only); omega) ?_
    refine TW.assign rfl rfl rfl ct ?_
    refine TW.nil (KW.pick [4, 5, 8, 13, 14, 15] [(4, _, _), (5, _, _), (8, _, _), (13, _, _), (14, _, _), (15, _, _)] rfl (KW.then_ ?_))
    refine CW.seq (CW.region ?_)
    refine TW.move rfl rfl rfl ct ?_
    refine TW.nil (KW.pick [4, 5, 8, 13, 14, 15, 39] [(4, _, _), (5, _, _), (8, _, _), (13, _, _), (14, _, _), (15, _, _), (39, _, _)] rfl (KW.then_ ?_))
    refine CW.block (CW.seq (CW.region ?_))
    refine TW.eql rfl rfl rfl ct rfl ct ?_
    refine TW.assign rfl rfl rfl ct ?_
    refine TW.nil (KW.pick [4, 5, 8, 13, 14, 15, 39, 41] [(4, _, _), (5, _, _), (8, _, _), (13, _, _), (14, _, _), (15, _, _), (39, _, _), (41, _, _)] rfl (KW.then_ ?_))
    refine CW.condP rfl (fun h10 => ?_) (fun n10 => ?_)
    · refine CW.seq (CW.region ?_)
      refine TW.assign rfl rfl rfl ct ?_
      refine TW.assign rfl rfl rfl ct ?_
      refine TW.nil (KW.pick [2, 3, 4, 5, 8, 13, 14, 15, 39] [(2, _, _), (3, _, _), (4, _, _), (5, _, _), (8, _, _), (13, _, _), (14, _, _), (15, _, _), (39, _, _)] rfl (KW.then_ ?_))
      refine CW.ret (KW.blockR (KW.scopeR ?_))
      refine ret2 Tryd.results10 rfl rfl (⟨hb8, by simp [checkS, h8, chk, h10]⟩)
    refine CW.seq (CW.region ?_)
    refine TW.eql rfl rfl rfl ct rfl ct ?_
    refine TW.assign rfl rfl rfl ct ?_
    refine TW.nil (KW.pick [4, 5, 8, 13, 14, 15, 39, 43] [(4, _, _), (5, _, _), (8, _, _), (13, _, _), (14, _, _), (15, _, _), (39, _, _), (43, _, _)] rfl (KW.then_ ?_))
    refine CW.condP rfl (fun h11 => ?_) (fun n11 => ?_)
    · refine CW.seq (CW.region ?_)
      refine TW.assign rfl rfl rfl ct ?_
      refine TW.assign rfl rfl rfl ct ?_
      refine TW.nil (KW.pick [2, 3, 4, 5, 8, 13, 14, 15, 39] [(2, _, _), (3, _, _), (4, _, _), (5, _, _), (8, _, _), (13, _, _), (14, _, _), (15, _, _), (39, _, _)] rfl (KW.then_ ?_))
      refine CW.ret (KW.blockR (KW.scopeR ?_))
      refine ret2 Tryd.results10 rfl rfl (⟨hb8, by simp [checkS, h8, chk, h11]⟩)
    refine CW.seq (CW.region ?_)
    refine TW.move rfl rfl rfl ct ?_
    refine TW.assign rfl rfl rfl ct ?_
    refine TW.assign rfl rfl rfl ct ?_
    refine TW.nil (KW.pick [2, 3, 4, 5, 8, 13, 14, 15, 39] [(2, _, _), (3, _, _), (4, _, _), (5, _, _), (8, _, _), (13, _, _), (14, _, _), (15, _, _), (39, _, _)] rfl (KW.then_ ?_))
    refine CW.ret (KW.blockR (KW.scopeR ?_))
    refine ret2 Tryd.results10 rfl rfl (⟨hb8, by simp [checkS, h8, chk, n10, n11]⟩)
end Go.Proofs.YthldjchogdefjaaDoor
