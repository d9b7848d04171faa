import Derived.Test.YthldjchogdefjaaDoorSpec
import Derived.Test.YthldjchogdefjaaDoorFacts
namespace Go.Proofs.YthldjchogdefjaaDoor
open Go.PF Go.RowKit

theorem isDigit_c {w : World} (b : Int) : Gives Tryd.prog 24 #[.int .u8 b] w fun u w' => Below w.heap.size w w' ∧ u = .bool (decide (Dig b)) := by
  refine gives_of (vs := [.int .u8 b]) [(0, none, _)] Tryd.func24 rfl Tryd.ntmps24 rfl rfl ?_
  refine CW.seq (CW.region ?_)
  refine TW.assign rfl rfl rfl ct ?_
  refine TW.nil (KW.pick [0, 2] [(0, _, _), (2, _, _)] rfl (KW.then_ ?_))
  refine CW.seq (CW.region ?_)
  refine TW.move rfl rfl rfl ct ?_
  refine TW.geq rfl rfl rfl ct rfl ct ?_
  refine TW.move rfl rfl rfl ct ?_
  refine TW.move rfl rfl rfl ct ?_
  refine TW.leq rfl rfl rfl id rfl ct ?_
  refine TW.pickAnd rfl rfl rfl ct rfl pAnd0 ?_
  refine TW.assign rfl rfl rfl ct ?_
  refine TW.nil (KW.pick [0, 2] [(0, _, _), (2, _, _)] rfl (KW.then_ ?_))
  refine CW.ret ?_
  refine ret1 Tryd.results24 rfl (⟨Below.refl _ _, by simp⟩)
theorem rdigit_c {w : World} (b : Int) : Gives Tryd.prog 25 #[.int .u8 b] w fun u w' => Below w.heap.size w w' ∧ u = .bool (decide (Dig b)) := by
  refine gives_of (vs := [.int .u8 b]) [(0, none, _)] Tryd.func25 rfl Tryd.ntmps25 rfl rfl ?_
  refine CW.seq (CW.region ?_)
  refine TW.assign rfl rfl rfl ct ?_
  refine TW.nil (KW.pick [0, 2] [(0, _, _), (2, _, _)] rfl (KW.then_ ?_))
  refine CW.seq (CW.region ?_)
  refine TW.move rfl rfl rfl ct ?_
  refine TW.geq rfl rfl rfl ct rfl ct ?_
  refine TW.move rfl rfl rfl ct ?_
  refine TW.move rfl rfl rfl ct ?_
  refine TW.leq rfl rfl rfl id rfl ct ?_
  refine TW.pickAnd rfl rfl rfl ct rfl pAnd0 ?_
  refine TW.assign rfl rfl rfl ct ?_
  refine TW.nil (KW.pick [0, 2] [(0, _, _), (2, _, _)] rfl (KW.then_ ?_))
  refine CW.ret ?_
  refine ret1 Tryd.results25 rfl (⟨Below.refl _ _, by simp⟩)
theorem isCapital_c {w : World} (b : Int) : Gives Tryd.prog 37 #[.int .u8 b] w fun u w' => Below w.heap.size w w' ∧ u = .bool (decide (Cap b)) := by
  refine gives_of (vs := [.int .u8 b]) [(0, none, _)] Tryd.func37 rfl Tryd.ntmps37 rfl rfl ?_
  refine CW.seq (CW.region ?_)
  refine TW.assign rfl rfl rfl ct ?_
  refine TW.nil (KW.pick [0, 2] [(0, _, _), (2, _, _)] rfl (KW.then_ ?_))
  refine CW.seq (CW.region ?_)
  refine TW.move rfl rfl rfl ct ?_
  refine TW.geq rfl rfl rfl ct rfl ct ?_
  refine TW.move rfl rfl rfl ct ?_
  refine TW.move rfl rfl rfl ct ?_
  refine TW.leq rfl rfl rfl id rfl ct ?_
  refine TW.pickAnd rfl rfl rfl ct rfl pAnd0 ?_
  refine TW.assign rfl rfl rfl ct ?_
  refine TW.nil (KW.pick [0, 2] [(0, _, _), (2, _, _)] rfl (KW.then_ ?_))
  refine CW.ret ?_
  refine ret1 Tryd.results37 rfl (⟨Below.refl _ _, by simp⟩)
theorem rCapital_c {w : World} (b : Int) : Gives Tryd.prog 36 #[.int .u8 b] w fun u w' => Below w.heap.size w w' ∧ u = .bool (decide (Cap b)) := by
  refine gives_of (vs := [.int .u8 b]) [(0, none, _)] Tryd.func36 rfl Tryd.ntmps36 rfl rfl ?_
  refine CW.seq (CW.region ?_)
  refine TW.assign rfl rfl rfl ct ?_
  refine TW.nil (KW.pick [0, 2] [(0, _, _), (2, _, _)] rfl (KW.then_ ?_))
  refine CW.seq (CW.region ?_)
  refine TW.move rfl rfl rfl ct ?_
  refine TW.geq rfl rfl rfl ct rfl ct ?_
  refine TW.move rfl rfl rfl ct ?_
  refine TW.move rfl rfl rfl ct ?_
  refine TW.leq rfl rfl rfl id rfl ct ?_
  refine TW.pickAnd rfl rfl rfl ct rfl pAnd0 ?_
  refine TW.assign rfl rfl rfl ct ?_
  refine TW.nil (KW.pick [0, 2] [(0, _, _), (2, _, _)] rfl (KW.then_ ?_))
  refine CW.ret ?_
  refine ret1 Tryd.results36 rfl (⟨Below.refl _ _, by simp⟩)

theorem isLetters_c {w : World} (s : ByteArray) : Gives Tryd.prog 27 #[.string s] w fun u w' => Below w.heap.size w w' ∧ u = .bool (dec (Pair s)) := by
  refine gives_of (vs := [.string s]) [(0, none, _)] Tryd.func27 rfl Tryd.ntmps27 rfl rfl ?_
  refine CW.seq (CW.region ?_)
  refine TW.assign rfl rfl rfl ct ?_
  refine TW.nil (KW.pick [0, 2] [(0, _, _), (2, _, _)] rfl (KW.then_ ?_))
  refine CW.seq (CW.region ?_)
  refine TW.move rfl rfl rfl ct ?_
  refine TW.lenString rfl rfl Tryd.underlying9 rfl ct ?_
  refine TW.eql rfl rfl rfl ct rfl ct ?_
  refine TW.move rfl rfl rfl ct ?_
  refine TW.move rfl rfl rfl ct ?_
  refine TW.index rfl rfl Tryd.underlying9 rfl id rfl ct (fun h => by (try dsimp only); first | omega | (simp [Cnd] at h; omega)) ?_
  refine TW.callF (cap := []) rfl rfl en37 rfl ct (Args.cons rfl id Args.nil) (fun _ => isCapital_c _) ?_
  rintro w1 b1
  refine TW.pickAnd rfl rfl rfl ct rfl pAnd0 ?_
  refine TW.move rfl rfl rfl ct ?_
  refine TW.move rfl rfl rfl ct ?_
  refine TW.index rfl rfl Tryd.underlying9 rfl id rfl ct (fun h => by (try dsimp only); first | omega | (simp [Cnd] at h; omega)) ?_
  refine TW.callF (cap := []) rfl rfl en37 rfl ct (Args.cons rfl id Args.nil) (fun _ => isCapital_c _) ?_
  rintro w2 b2
  refine TW.pickAnd rfl rfl rfl ct rfl pAnd0 ?_
  refine TW.assign rfl rfl rfl ct ?_
  refine TW.nil (KW.pick [0, 2] [(0, _, _), (2, _, _)] rfl (KW.then_ ?_))
  refine CW.ret ?_
  refine ret1 Tryd.results27 rfl (⟨b1.step b2, ?_⟩)
  congr 1
  rw [show Pair s = (((s.size : Int) = 2 ∧ Cap (bt s 0)) ∧ Cap (bt s 1)) by unfold Pair; exact propext ⟨fun h => ⟨⟨by omega, h.2.1⟩, h.2.2⟩, fun h => ⟨by omega, h.1.2, h.2⟩⟩, dec_eq_decide]
  simp [bt]
theorem pair_c {w : World} (s : ByteArray) : Gives Tryd.prog 30 #[.string s] w fun u w' => Below w.heap.size w w' ∧ u = .bool (dec (Pair s)) := by
  refine gives_of (vs := [.string s]) [(0, none, _)] Tryd.func30 rfl Tryd.ntmps30 rfl rfl ?_
  refine CW.seq (CW.region ?_)
  refine TW.assign rfl rfl rfl ct ?_
  refine TW.nil (KW.pick [0, 2] [(0, _, _), (2, _, _)] rfl (KW.then_ ?_))
  refine CW.seq (CW.region ?_)
  refine TW.move rfl rfl rfl ct ?_
  refine TW.lenString rfl rfl Tryd.underlying9 rfl ct ?_
  refine TW.eql rfl rfl rfl ct rfl ct ?_
  refine TW.move rfl rfl rfl ct ?_
  refine TW.move rfl rfl rfl ct ?_
  refine TW.index rfl rfl Tryd.underlying9 rfl id rfl ct (fun h => by (try dsimp only); first | omega | (simp [Cnd] at h; omega)) ?_
  refine TW.callF (cap := []) rfl rfl en36 rfl ct (Args.cons rfl id Args.nil) (fun _ => rCapital_c _) ?_
  rintro w1 b1
  refine TW.pickAnd rfl rfl rfl ct rfl pAnd0 ?_
  refine TW.move rfl rfl rfl ct ?_
  refine TW.move rfl rfl rfl ct ?_
  refine TW.index rfl rfl Tryd.underlying9 rfl id rfl ct (fun h => by (try dsimp only); first | omega | (simp [Cnd] at h; omega)) ?_
  refine TW.callF (cap := []) rfl rfl en36 rfl ct (Args.cons rfl id Args.nil) (fun _ => rCapital_c _) ?_
  rintro w2 b2
  refine TW.pickAnd rfl rfl rfl ct rfl pAnd0 ?_
  refine TW.assign rfl rfl rfl ct ?_
  refine TW.nil (KW.pick [0, 2] [(0, _, _), (2, _, _)] rfl (KW.then_ ?_))
  refine CW.ret ?_
  refine ret1 Tryd.results30 rfl (⟨b1.step b2, ?_⟩)
  congr 1
  rw [show Pair s = (((s.size : Int) = 2 ∧ Cap (bt s 0)) ∧ Cap (bt s 1)) by unfold Pair; exact propext ⟨fun h => ⟨⟨by omega, h.2.1⟩, h.2.2⟩, fun h => ⟨by omega, h.1.2, h.2⟩⟩, dec_eq_decide]
  simp [bt]

theorem weight_c {w : World} (i : Nat) (hi : i < 8) : Gives Tryd.prog 26 #[.int .i64 (i : Int)] w fun u w' => Below w.heap.size w w' ∧ u = .int .i64 (wt i) := by
  refine gives_of (vs := [.int .i64 (i : Int)]) [(0, none, _)] Tryd.func26 rfl Tryd.ntmps26 rfl rfl ?_
  refine CW.seq (CW.region ?_)
  refine TW.assign rfl rfl rfl ct ?_
  refine TW.nil (KW.pick [0, 2] [(0, _, _), (2, _, _)] rfl (KW.then_ ?_))
  refine CW.seq (CW.seq (CW.region ?_))
  refine TW.move rfl rfl rfl ct ?_
  refine TW.nil (KW.pick [0, 2, 3] [(0, _, _), (2, _, _), (3, _, _)] rfl (KW.then_ ?_))
  refine CW.block (CW.seq (CW.region ?_))
  refine TW.eql rfl rfl rfl ct rfl ct ?_
  refine TW.assign rfl rfl rfl ct ?_
  refine TW.nil (KW.pick [0, 2, 3, 4] [(0, _, _), (2, _, _), (3, _, _), (4, _, _)] rfl (KW.then_ ?_))
  refine CW.condP rfl (fun e => ?_) (fun n0 => ?_)
  · obtain rfl : i = 0 := by omega
    refine CW.seq (CW.region ?_)
    refine TW.assign rfl rfl rfl ct ?_
    refine TW.nil (KW.pick [0, 2, 3] [(0, _, _), (2, _, _), (3, _, _)] rfl (KW.then_ ?_))
    refine CW.ret (KW.blockR (KW.thenR ?_))
    refine ret1 Tryd.results26 rfl (⟨Below.refl _ _, rfl⟩)
  refine CW.seq (CW.region ?_)
  refine TW.eql rfl rfl rfl ct rfl ct ?_
  refine TW.assign rfl rfl rfl ct ?_
  refine TW.nil (KW.pick [0, 2, 3, 6] [(0, _, _), (2, _, _), (3, _, _), (6, _, _)] rfl (KW.then_ ?_))
  refine CW.condP rfl (fun e => ?_) (fun n1 => ?_)
  · obtain rfl : i = 1 := by omega
    refine CW.seq (CW.region ?_)
    refine TW.assign rfl rfl rfl ct ?_
    refine TW.nil (KW.pick [0, 2, 3] [(0, _, _), (2, _, _), (3, _, _)] rfl (KW.then_ ?_))
    refine CW.ret (KW.blockR (KW.thenR ?_))
    refine ret1 Tryd.results26 rfl (⟨Below.refl _ _, rfl⟩)
  refine CW.seq (CW.region ?_)
  refine TW.eql rfl rfl rfl ct rfl ct ?_
  refine TW.assign rfl rfl rfl ct ?_
  refine TW.nil (KW.pick [0, 2, 3, 8] [(0, _, _), (2, _, _), (3, _, _), (8, _, _)] rfl (KW.then_ ?_))
  refine CW.condP rfl (fun e => ?_) (fun n2 => ?_)
  · obtain rfl : i = 2 := by omega
    refine CW.seq (CW.region ?_)
    refine TW.assign rfl rfl rfl ct ?_
    refine TW.nil (KW.pick [0, 2, 3] [(0, _, _), (2, _, _), (3, _, _)] rfl (KW.then_ ?_))
    refine CW.ret (KW.blockR (KW.thenR ?_))
    refine ret1 Tryd.results26 rfl (⟨Below.refl _ _, rfl⟩)
  refine CW.seq (CW.region ?_)
  refine TW.eql rfl rfl rfl ct rfl ct ?_
  refine TW.assign rfl rfl rfl ct ?_
  refine TW.nil (KW.pick [0, 2, 3, 10] [(0, _, _), (2, _, _), (3, _, _), (10, _, _)] rfl (KW.then_ ?_))
  refine CW.condP rfl (fun e => ?_) (fun n3 => ?_)
  · obtain rfl : i = 3 := by omega
    refine CW.seq (CW.region ?_)
    refine TW.assign rfl rfl rfl ct ?_
    refine TW.nil (KW.pick [0, 2, 3] [(0, _, _), (2, _, _), (3, _, _)] rfl (KW.then_ ?_))
    refine CW.ret (KW.blockR (KW.thenR ?_))
    refine ret1 Tryd.results26 rfl (⟨Below.refl _ _, rfl⟩)
  refine CW.seq (CW.region ?_)
  refine TW.eql rfl rfl rfl ct rfl ct ?_
  refine TW.assign rfl rfl rfl ct ?_
  refine TW.nil (KW.pick [0, 2, 3, 12] [(0, _, _), (2, _, _), (3, _, _), (12, _, _)] rfl (KW.then_ ?_))
  refine CW.condP rfl (fun e => ?_) (fun n4 => ?_)
  · obtain rfl : i = 4 := by omega
    refine CW.seq (CW.region ?_)
    refine TW.assign rfl rfl rfl ct ?_
    refine TW.nil (KW.pick [0, 2, 3] [(0, _, _), (2, _, _), (3, _, _)] rfl (KW.then_ ?_))
    refine CW.ret (KW.blockR (KW.thenR ?_))
    refine ret1 Tryd.results26 rfl (⟨Below.refl _ _, rfl⟩)
  refine CW.seq (CW.region ?_)
  refine TW.eql rfl rfl rfl ct rfl ct ?_
  refine TW.assign rfl rfl rfl ct ?_
  refine TW.nil (KW.pick [0, 2, 3, 14] [(0, _, _), (2, _, _), (3, _, _), (14, _, _)] rfl (KW.then_ ?_))
  refine CW.condP rfl (fun e => ?_) (fun n5 => ?_)
  · obtain rfl : i = 5 := by omega
    refine CW.seq (CW.region ?_)
    refine TW.assign rfl rfl rfl ct ?_
    refine TW.nil (KW.pick [0, 2, 3] [(0, _, _), (2, _, _), (3, _, _)] rfl (KW.then_ ?_))
    refine CW.ret (KW.blockR (KW.thenR ?_))
    refine ret1 Tryd.results26 rfl (⟨Below.refl _ _, rfl⟩)
  refine CW.seq (CW.region ?_)
  refine TW.eql rfl rfl rfl ct rfl ct ?_
  refine TW.assign rfl rfl rfl ct ?_
  refine TW.nil (KW.pick [0, 2, 3, 16] [(0, _, _), (2, _, _), (3, _, _), (16, _, _)] rfl (KW.then_ ?_))
  refine CW.condP rfl (fun e => ?_) (fun n6 => ?_)
  · obtain rfl : i = 6 := by omega
    refine CW.seq (CW.region ?_)
    refine TW.assign rfl rfl rfl ct ?_
    refine TW.nil (KW.pick [0, 2, 3] [(0, _, _), (2, _, _), (3, _, _)] rfl (KW.then_ ?_))
    refine CW.ret (KW.blockR (KW.thenR ?_))
    refine ret1 Tryd.results26 rfl (⟨Below.refl _ _, rfl⟩)
  obtain rfl : i = 7 := by omega
  refine CW.skip (KW.blockN (KW.then_ (CW.seq (CW.region ?_))))
  refine TW.assign rfl rfl rfl ct ?_
  refine TW.nil (KW.pick [0, 2, 3] [(0, _, _), (2, _, _), (3, _, _)] rfl (KW.then_ ?_))
  refine CW.ret ?_
  refine ret1 Tryd.results26 rfl (⟨Below.refl _ _, rfl⟩)

/-- the digit of a number, as a text -/
def charB (n : Int) : ByteArray := ⟨#[UInt8.ofNat (48 + n.toNat)]⟩
theorem encode_digit {n : Int} (h0 : 0 ≤ n) (h1 : n ≤ 9) : Utf8.encode (IntKind.i32.wrap (48 + n)) = charB n := by
  have e : IntKind.i32.wrap (48 + n) = 48 + n := by rw [IntKind.wrap_i32]; omega
  rw [e]
  obtain rfl | rfl | rfl | rfl | rfl | rfl | rfl | rfl | rfl | rfl : n = 0 ∨ n = 1 ∨ n = 2 ∨ n = 3 ∨ n = 4 ∨ n = 5 ∨ n = 6 ∨ n = 7 ∨ n = 8 ∨ n = 9 := by omega
  all_goals rfl
theorem char_c {w : World} (n : Int) (h0 : 0 ≤ n) (h1 : n ≤ 9) : Gives Tryd.prog 31 #[.int .i64 n] w fun u w' => Below w.heap.size w w' ∧ u = .string (charB n) := by
  refine gives_of (vs := [.int .i64 n]) [(0, none, _)] Tryd.func31 rfl Tryd.ntmps31 rfl rfl ?_
  refine CW.seq (CW.region ?_)
  refine TW.assign rfl rfl rfl ct ?_
  refine TW.nil (KW.pick [0, 2] [(0, _, _), (2, _, _)] rfl (KW.then_ ?_))
  refine CW.seq (CW.region ?_)
  refine TW.move rfl rfl rfl ct ?_
  refine TW.add rfl rfl rfl ct rfl ct (fun _ => by (try dsimp only); omega) ?_
  refine TW.conv rfl rfl rfl Tryd.underlying21 rfl ct ?_
  refine TW.convIS rfl rfl rfl Tryd.underlying9 rfl ct ?_
  refine TW.assign rfl rfl rfl ct ?_
  refine TW.nil (KW.pick [0, 2] [(0, _, _), (2, _, _)] rfl (KW.then_ ?_))
  refine CW.ret ?_
  refine ret1 Tryd.results31 rfl (⟨Below.refl _ _, by rw [encode_digit h0 h1]⟩)
end Go.Proofs.YthldjchogdefjaaDoor
