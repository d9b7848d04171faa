import Derived.Test.YthldjchogdefjaaDoorPad
import Derived.Test.YthldjchogdefjaaDoorShelf
namespace Go.Proofs.YthldjchogdefjaaDoor
open Go.PF Go.RowKit

theorem grow_below' (w : World) (k : Nat) (os : Array Obj) : Below w.heap.size w (Go.Sort.grow (w.drewN k) os) :=
  ⟨rfl, rfl, rfl, by simp [Go.Sort.grow, World.drewN], fun i hi => by
    show (w.heap ++ os)[i]? = w.heap[i]?
    rw [Array.getElem?_append_left hi]⟩
theorem itoa_c {w : World} (n : Int) (h0 : -9223372036854775808 ≤ n) (h1 : n ≤ 9223372036854775807) (ht : Tabs w) : Gives Tryd.prog 28 #[.int .i64 n] w fun u w' => Below w.heap.size w w' ∧ u = .string ⟨(Lib.itoa n).toArray⟩ := by
  refine Calls.mono (Tryd.strconv_Itoa n h0 h1 w ht.pow) ?_
  rintro e w' ⟨rfl, k, os, rfl⟩
  exact ⟨_, rfl, grow_below' w k os, rfl⟩
theorem repeat_c {w : World} (c : Nat) (hc : c ≤ 100) : Gives Tryd.prog 29 #[.string ⟨#[48]⟩, .int .i64 (c : Int)] w fun u w' => Below w.heap.size w w' ∧ u = .string ⟨(Lib.repeatL [48] c).toArray⟩ := by
  refine Calls.mono (Tryd.strings_Repeat ⟨#[48]⟩ c w (by omega) (by show 1 * c ≤ _; omega)) ?_
  rintro e w' ⟨rfl, hb⟩
  exact ⟨_, rfl, hb, rfl⟩

theorem itoa_digit {n : Int} (h0 : 0 ≤ n) (h1 : n ≤ 9) : (ByteArray.mk (Lib.itoa n).toArray) = charB n := by
  unfold Lib.itoa charB
  rw [if_neg (by omega), Lib.decDigits_one (by omega)]

set_option maxRecDepth 20000 in
theorem make_c {w : World} (kind op : ByteArray) (n : Int) (ht : Tabs w) : Gives Tryd.prog 12 #[.string kind, .int .i64 n, .string op] w fun u w' => Below w.heap.size w w' ∧ u = .tuple #[.string (makeS kind n op).1, .int .i64 (makeS kind n op).2] := by
  refine gives_of (vs := [.string kind, .int .i64 n, .string op]) [(0, none, _), (1, none, _), (2, none, _)] Tryd.func12 rfl Tryd.ntmps12 rfl rfl ?_
  refine CW.seq (CW.region ?_)
  refine TW.assign rfl rfl rfl ct ?_
  refine TW.assign rfl rfl rfl ct ?_
  refine TW.nil (KW.pick [0, 1, 2, 6, 7] [(0, _, _), (1, _, _), (2, _, _), (6, _, _), (7, _, _)] rfl (KW.then_ ?_))
  refine CW.seq (CW.seq (CW.region ?_))
  refine TW.move rfl rfl rfl ct ?_
  refine TW.callF (cap := []) rfl rfl en27 rfl ct (Args.cons rfl ct Args.nil) (fun _ => isLetters_c _) ?_
  rintro w1 b1
  refine TW.not rfl rfl rfl ct ?_
  refine TW.move rfl rfl rfl ct ?_
  refine TW.move rfl rfl rfl ct ?_
  refine TW.callF (cap := []) rfl rfl en27 rfl ct (Args.cons rfl id Args.nil) (fun _ => isLetters_c _) ?_
  rintro w2 b2
  refine TW.not rfl rfl rfl id ?_
  refine TW.pickOr rfl rfl rfl ct rfl pOr0 ?_
  refine TW.move rfl rfl rfl ct ?_
  refine TW.move rfl rfl rfl ct ?_
  refine TW.lss rfl rfl rfl id rfl ct ?_
  refine TW.pickOr rfl rfl rfl ct rfl pOr0 ?_
  refine TW.move rfl rfl rfl ct ?_
  refine TW.move rfl rfl rfl ct ?_
  refine TW.gtr rfl rfl rfl id rfl ct ?_
  refine TW.pickOr rfl rfl rfl ct rfl pOr0 ?_
  refine TW.nil (KW.pick [0, 1, 2, 6, 7, 26] [(0, _, _), (1, _, _), (2, _, _), (6, _, _), (7, _, _), (26, _, _)] rfl (KW.then_ ?_))
  have hb2 := b1.step b2
  refine CW.cond rfl (fun hno => ?_) (fun hyes => ?_)
  · refine CW.seq (CW.region ?_)
    refine TW.assign rfl rfl rfl ct ?_
    refine TW.assign rfl rfl rfl ct ?_
    refine TW.nil (KW.pick [0, 1, 2, 6, 7] [(0, _, _), (1, _, _), (2, _, _), (6, _, _), (7, _, _)] rfl (KW.then_ ?_))
    refine CW.ret (KW.thenR ?_)
    refine ret2 Tryd.results12 rfl rfl (⟨hb2, ?_⟩)
    have h : ¬ MakeOK kind n op := by
      rintro ⟨h1, h2, h3, h4⟩
      simp [dec_pos h1, dec_pos h2] at hno
      omega
    simp [makeS, h]
    rfl
  have hok : MakeOK kind n op := by
    by_cases h1 : Pair kind <;> by_cases h2 : Pair op <;> simp [dec_pos, dec_neg, h1, h2] at hyes
    exact ⟨h1, h2, hyes.1, hyes.2⟩
  have hmk : makeS kind n op = (idOf kind n.toNat op, 0) := by simp [makeS, hok]
  obtain ⟨h1, h2, h3, h4⟩ := hok
  obtain ⟨m, rfl⟩ : ∃ m : Nat, n = m := ⟨n.toNat, by omega⟩
  rw [hmk, Int.toNat_natCast]
  have hm8 := nDigits_le8 (n := m) (by omega)
  have hmp := Lib.nDigits_pos m
  have hch := chk_in (wsum (padB m) 8)
  have hit : Lib.itoa (m : Int) = Lib.decDigits m := by unfold Lib.itoa; rw [if_neg (by omega), Int.toNat_natCast]
  have hln : (ByteArray.mk (Lib.itoa (m : Int)).toArray).size = Lib.nDigits m := by rw [size_mk, hit, Lib.decDigits_length]
  have hcat : (ByteArray.mk (Lib.repeatL [48] (8 - Lib.nDigits m)).toArray) ++ (ByteArray.mk (Lib.itoa (m : Int)).toArray) = padB m := by
    rw [append_mk, hit, pad_rep 8 m hm8]; rfl
  have hrl : (ByteArray.mk (Lib.repeatL [48] (8 - Lib.nDigits m)).toArray).size = 8 - Lib.nDigits m := by rw [size_mk, Lib.repeatL_length]; simp
  refine CW.skip (KW.then_ (CW.seq (CW.region ?_)))
  refine TW.move rfl rfl rfl ct ?_
  refine TW.callF (cap := []) rfl rfl en28 rfl ct (Args.cons rfl ct Args.nil) (fun _ => itoa_c (m : Int) (by omega) (by omega) (ht.below hb2)) ?_
  rintro w3 b3
  refine TW.assign rfl rfl rfl ct ?_
  refine TW.nil (KW.pick [0, 1, 2, 6, 7, 8] [(0, _, _), (1, _, _), (2, _, _), (6, _, _), (7, _, _), (8, _, _)] rfl (KW.then_ ?_))
  refine CW.seq (CW.region ?_)
  refine TW.move rfl rfl rfl ct ?_
  refine TW.lenString rfl rfl Tryd.underlying9 rfl ct ?_
  refine TW.sub rfl rfl rfl ct rfl ct (fun _ => by (try dsimp only); omega) ?_
  rw [hln]
  rw [show (8 : Int) - (Lib.nDigits m : Int) = ((8 - Lib.nDigits m : Nat) : Int) by omega]
  refine TW.call0 (cap := []) rfl rfl en29 rfl (Args.cons rfl ct (Args.cons rfl ct Args.nil)) (repeat_c (8 - Lib.nDigits m) (by omega)) ?_
  rintro _ w4 ⟨b4, rfl⟩
  have hb4 := (hb2.step b3).step b4
  refine TW.move rfl rfl rfl ct ?_
  refine TW.addS rfl rfl rfl ct rfl ct (fun _ => by rw [hrl, hln]; omega) ?_
  refine TW.assign rfl rfl rfl ct ?_
  refine TW.nil (KW.pick [0, 1, 2, 6, 7, 8] [(0, _, _), (1, _, _), (2, _, _), (6, _, _), (7, _, _), (8, _, _)] rfl (KW.then_ ?_))
  refine CW.seq (CW.region ?_)
  refine TW.move rfl rfl rfl ct ?_
  rw [hcat]
  have hp8 := padB_size m
  have hk2 := h1.1
  have ho2 := h2.1
  refine TW.call0 (cap := []) rfl rfl en10 rfl (Args.cons rfl ct Args.nil) (check_c _ (ht.below hb4)) ?_
  rintro _ w5 ⟨b5, rfl⟩
  rw [check_pad]
  have hb5 := hb4.step b5
  refine TW.move rfl rfl rfl ct ?_
  refine TW.extract rfl rfl rfl rfl ct ?_
  refine TW.extract rfl rfl rfl rfl ct ?_
  refine TW.assign rfl rfl rfl ct ?_
  refine TW.assign rfl rfl rfl ct ?_
  refine TW.nil (KW.pick [0, 1, 2, 6, 7, 8, 9, 10] [(0, _, _), (1, _, _), (2, _, _), (6, _, _), (7, _, _), (8, _, _), (9, _, _), (10, _, _)] rfl (KW.then_ ?_))
  refine CW.seq (CW.seq (CW.region ?_))
  refine TW.move rfl rfl rfl ct ?_
  refine TW.neq rfl rfl rfl ct rfl ct ?_
  refine TW.nil (KW.pick [0, 1, 2, 6, 7, 8, 9, 10, 41] [(0, _, _), (1, _, _), (2, _, _), (6, _, _), (7, _, _), (8, _, _), (9, _, _), (10, _, _), (41, _, _)] rfl (KW.then_ ?_))
  refine CW.condP rfl (fun hx => ?_) (fun hy => ?_)
  · exact absurd rfl hx
  refine CW.skip (KW.then_ (CW.seq (CW.region ?_)))
  refine TW.move rfl rfl rfl ct ?_
  refine TW.move rfl rfl rfl ct ?_
  refine TW.addS rfl rfl rfl ct rfl ct (fun _ => by rw [hk2, hp8]; omega) ?_
  refine TW.move rfl rfl rfl ct ?_
  refine TW.call0 (cap := []) rfl rfl en28 rfl (Args.cons rfl ct Args.nil) (itoa_c (chk (wsum (padB m) 8)) (by omega) (by omega) (ht.below hb5)) ?_
  rintro _ w6 ⟨b6, rfl⟩
  rw [itoa_digit hch.1 hch.2]
  have hc1 : (charB (chk (wsum (padB m) 8))).size = 1 := rfl
  refine TW.addS rfl rfl rfl ct rfl ct (fun _ => by rw [ByteArray.size_append, hk2, hp8, hc1]; omega) ?_
  refine TW.move rfl rfl rfl ct ?_
  refine TW.addS rfl rfl rfl ct rfl ct (fun _ => by rw [ByteArray.size_append, ByteArray.size_append, hk2, hp8, hc1, ho2]; omega) ?_
  refine TW.assign rfl rfl rfl ct ?_
  refine TW.assign rfl rfl rfl ct ?_
  refine TW.nil (KW.pick [0, 1, 2, 6, 7, 8, 9, 10] [(0, _, _), (1, _, _), (2, _, _), (6, _, _), (7, _, _), (8, _, _), (9, _, _), (10, _, _)] rfl (KW.then_ ?_))
  refine CW.ret ?_
  refine ret2 Tryd.results12 rfl rfl (⟨hb5.step b6, rfl⟩)

set_option maxRecDepth 20000 in
theorem rmake_c {w : World} (kind op : ByteArray) (n : Int) : Gives Tryd.prog 13 #[.string kind, .int .i64 n, .string op] w fun u w' => Below w.heap.size w w' ∧ u = .tuple #[.string (makeS kind n op).1, .int .i64 (makeS kind n op).2] := by
  refine gives_of (vs := [.string kind, .int .i64 n, .string op]) [(0, none, _), (1, none, _), (2, none, _)] Tryd.func13 rfl Tryd.ntmps13 rfl rfl ?_
  refine CW.seq (CW.region ?_)
  refine TW.assign rfl rfl rfl ct ?_
  refine TW.assign rfl rfl rfl ct ?_
  refine TW.nil (KW.pick [0, 1, 2, 6, 7] [(0, _, _), (1, _, _), (2, _, _), (6, _, _), (7, _, _)] rfl (KW.then_ ?_))
  refine CW.seq (CW.seq (CW.region ?_))
  refine TW.move rfl rfl rfl ct ?_
  refine TW.callF (cap := []) rfl rfl en30 rfl ct (Args.cons rfl ct Args.nil) (fun _ => pair_c _) ?_
  rintro w1 b1
  refine TW.not rfl rfl rfl ct ?_
  refine TW.move rfl rfl rfl ct ?_
  refine TW.move rfl rfl rfl ct ?_
  refine TW.callF (cap := []) rfl rfl en30 rfl ct (Args.cons rfl id Args.nil) (fun _ => pair_c _) ?_
  rintro w2 b2
  refine TW.not rfl rfl rfl id ?_
  refine TW.pickOr rfl rfl rfl ct rfl pOr0 ?_
  refine TW.move rfl rfl rfl ct ?_
  refine TW.move rfl rfl rfl ct ?_
  refine TW.lss rfl rfl rfl id rfl ct ?_
  refine TW.pickOr rfl rfl rfl ct rfl pOr0 ?_
  refine TW.move rfl rfl rfl ct ?_
  refine TW.move rfl rfl rfl ct ?_
  refine TW.gtr rfl rfl rfl id rfl ct ?_
  refine TW.pickOr rfl rfl rfl ct rfl pOr0 ?_
  refine TW.nil (KW.pick [0, 1, 2, 6, 7, 27] [(0, _, _), (1, _, _), (2, _, _), (6, _, _), (7, _, _), (27, _, _)] rfl (KW.then_ ?_))
  have hb2 := b1.step b2
  refine CW.cond rfl (fun hno => ?_) (fun hyes => ?_)
  · refine CW.seq (CW.region ?_)
    refine TW.assign rfl rfl rfl ct ?_
    refine TW.assign rfl rfl rfl ct ?_
    refine TW.nil (KW.pick [0, 1, 2, 6, 7] [(0, _, _), (1, _, _), (2, _, _), (6, _, _), (7, _, _)] rfl (KW.then_ ?_))
    refine CW.ret (KW.thenR ?_)
    refine ret2 Tryd.results13 rfl rfl (⟨hb2, ?_⟩)
    have h : ¬ MakeOK kind n op := by
      rintro ⟨h1, h2, h3, h4⟩
      simp [dec_pos h1, dec_pos h2] at hno
      omega
    simp [makeS, h]
    rfl
  have hok : MakeOK kind n op := by
    by_cases h1 : Pair kind <;> by_cases h2 : Pair op <;> simp [dec_pos, dec_neg, h1, h2] at hyes
    exact ⟨h1, h2, hyes.1, hyes.2⟩
  have hmk : makeS kind n op = (idOf kind n.toNat op, 0) := by simp [makeS, hok]
  obtain ⟨h1, h2, h3, h4⟩ := hok
  obtain ⟨m, rfl⟩ : ∃ m : Nat, n = m := ⟨n.toNat, by omega⟩
  rw [hmk, Int.toNat_natCast]
  have hch := chk_in (wsum (padB m) 8)
  refine CW.skip (KW.then_ (CW.seq (CW.region ?_)))
  refine TW.assign rfl rfl rfl ct ?_
  refine TW.nil (KW.pick [0, 1, 2, 6, 7, 8] [(0, _, _), (1, _, _), (2, _, _), (6, _, _), (7, _, _), (8, _, _)] rfl (KW.then_ ?_))
  refine CW.seq (CW.seq (CW.region ?_))
  refine TW.assign rfl rfl rfl ct ?_
  refine TW.nil (KW.pick [0, 1, 2, 6, 7, 8, 9] [(0, _, _), (1, _, _), (2, _, _), (6, _, _), (7, _, _), (8, _, _), (9, _, _)] rfl (KW.then_ ?_))
  refine CW.block ?_
  refine CW.loopS (fun k : Nat => [(0, none, .string kind), (1, none, .int .i64 ((m / 10 ^ k : Nat) : Int)), (2, none, .string op), (8, none, .string ⟨(pad k m).toArray⟩), (9, none, .int .i64 (k : Int))])
    (fun k W => k ≤ 8 ∧ Below w.heap.size w W) (fun k => 8 - k) 0 [0, 1, 2, 8, 9] ⟨by omega, hb2⟩ (by simp; rfl) ?_
  rintro k W ⟨hk, hbW⟩
  have hmk' : m / 10 ^ k ≤ m := Nat.div_le_self _ _
  have hq0 : (0 : Int) ≤ ((m / 10 ^ k : Nat) : Int) := Int.natCast_nonneg _
  refine CW.seq (CW.seq (CW.region ?_))
  refine TW.move rfl rfl rfl ct ?_
  refine TW.lss rfl rfl rfl ct rfl ct ?_
  refine TW.nil (KW.pick [0, 1, 2, 8, 9, 29] [(0, _, _), (1, _, _), (2, _, _), (8, _, _), (9, _, _), (29, _, _)] rfl (KW.then_ ?_))
  refine CW.condP rfl (fun hlt => ?_) (fun hge => ?_)
  · have hm1 : ((m / 10 ^ k : Nat) : Int) % 10 = ((m / 10 ^ k % 10 : Nat) : Int) := by omega
    have hm2 := Nat.mod_lt (m / 10 ^ k) (show 10 > 0 by omega)
    have hpl := pad_len k m
    have hcs : ∀ z, (charB z).size = 1 := fun _ => rfl
    refine CW.skip (KW.then_ (CW.seq (CW.block (CW.seq (CW.region ?_)))))
    refine TW.move rfl rfl rfl ct ?_
    refine TW.rem rfl rfl rfl ct rfl ct (fun _ => by (try dsimp only); omega) ?_
    refine TW.call0 (cap := []) rfl rfl en31 rfl (Args.cons rfl ct Args.nil) (char_c _ (by omega) (by omega)) ?_
    rintro _ w3 ⟨b3, rfl⟩
    refine TW.move rfl rfl rfl ct ?_
    refine TW.addS rfl rfl rfl ct rfl ct (fun _ => by rw [hcs, size_mk, hpl]; omega) ?_
    refine TW.assign rfl rfl rfl ct ?_
    refine TW.nil (KW.pick [0, 1, 2, 8, 9] [(0, _, _), (1, _, _), (2, _, _), (8, _, _), (9, _, _)] rfl (KW.then_ ?_))
    refine CW.region ?_
    refine TW.move rfl rfl rfl ct ?_
    refine TW.quo rfl rfl rfl ct rfl ct (fun _ => by (try dsimp only); omega) ?_
    refine TW.assign rfl rfl rfl ct ?_
    refine TW.nil (KW.pick [0, 1, 2, 8, 9] [(0, _, _), (1, _, _), (2, _, _), (8, _, _), (9, _, _)] rfl (KW.blockN (KW.then_ ?_)))
    refine CW.region ?_
    refine TW.move rfl rfl rfl ct ?_
    refine TW.add rfl rfl rfl ct rfl ct (fun _ => by (try dsimp only); omega) ?_
    refine TW.assign rfl rfl rfl ct ?_
    refine TW.nil (KW.pick [0, 1, 2, 8, 9] [(0, _, _), (1, _, _), (2, _, _), (8, _, _), (9, _, _)] rfl ?_)
    refine KW.round (k + 1) [0, 1, 2, 8, 9] ?_ ⟨by omega, hbW.step b3⟩ (by omega)
    have e1 : ((m / 10 ^ k : Nat) : Int) / 10 = ((m / 10 ^ (k + 1) : Nat) : Int) := by rw [Nat.pow_succ, ← Nat.div_div_eq_div_mul]; omega
    have e2 : charB (((m / 10 ^ k : Nat) : Int) % 10) ++ (ByteArray.mk (pad k m).toArray) = ByteArray.mk (pad (k + 1) m).toArray := by
      rw [hm1, pad_more]
      unfold charB
      rw [Int.toNat_natCast]
      exact append_mk [_] _
    rw [e1, e2]
    rfl
  · obtain rfl : k = 8 := by omega
    have hp8 := padB_size m
    have hk2 := h1.1
    have ho2 := h2.1
    have hc1 : (charB (chk (wsum (padB m) 8))).size = 1 := rfl
    refine CW.exit (KW.thenX (KW.thenX (KW.blockX (KW.then_ (CW.seq (CW.region ?_))))))
    refine TW.move rfl rfl rfl ct ?_
    refine TW.call0 (cap := []) rfl rfl en11 rfl (Args.cons rfl ct Args.nil) (rcheck_c (padB m)) ?_
    rintro _ w5 ⟨b5, rfl⟩
    rw [check_pad]
    have hb5 := hbW.step b5
    refine TW.move rfl rfl rfl ct ?_
    refine TW.extract rfl rfl rfl rfl ct ?_
    refine TW.extract rfl rfl rfl rfl ct ?_
    refine TW.assign rfl rfl rfl ct ?_
    refine TW.assign rfl rfl rfl ct ?_
    refine TW.nil (KW.pick [0, 1, 2, 8, 9, 10] [(0, _, _), (1, _, _), (2, _, _), (8, _, _), (9, _, _), (10, _, _)] rfl (KW.then_ ?_))
    refine CW.seq (CW.region ?_)
    refine TW.move rfl rfl rfl ct ?_
    refine TW.move rfl rfl rfl ct ?_
    refine TW.addS rfl rfl rfl ct rfl ct (fun _ => by show kind.size + (padB m).size ≤ _; rw [hk2, hp8]; omega) ?_
    refine TW.move rfl rfl rfl ct ?_
    refine TW.call0 (cap := []) rfl rfl en31 rfl (Args.cons rfl ct Args.nil) (char_c _ hch.1 hch.2) ?_
    rintro _ w6 ⟨b6, rfl⟩
    refine TW.addS rfl rfl rfl ct rfl ct (fun _ => by show (kind ++ padB m).size + _ ≤ _; rw [ByteArray.size_append, hk2, hp8, hc1]; omega) ?_
    refine TW.move rfl rfl rfl ct ?_
    refine TW.addS rfl rfl rfl ct rfl ct (fun _ => by show ((kind ++ padB m) ++ charB (chk (wsum (padB m) 8))).size + _ ≤ _; rw [ByteArray.size_append, ByteArray.size_append, hk2, hp8, hc1, ho2]; omega) ?_
    refine TW.assign rfl rfl rfl ct ?_
    refine TW.assign rfl rfl rfl ct ?_
    refine TW.nil (KW.pick [0, 1, 2, 6, 7, 8, 9, 10] [(0, _, _), (1, _, _), (2, _, _), (6, _, _), (7, _, _), (8, _, _), (9, _, _), (10, _, _)] rfl (KW.then_ ?_))
    refine CW.ret ?_
    refine ret2 Tryd.results13 rfl rfl (⟨hb5.step b6, rfl⟩)

set_option maxRecDepth 20000 in
theorem serial_c {w : World} (s : ByteArray) (ht : Tabs w) : Gives Tryd.prog 14 #[.string s] w fun u w' => Below w.heap.size w w' ∧ u = .tuple #[.int .i64 (serialS s).1, .int .i64 (serialS s).2] := by
  refine gives_of (vs := [.string s]) [(0, none, _)] Tryd.func14 rfl Tryd.ntmps14 rfl rfl ?_
  refine CW.seq (CW.region ?_)
  refine TW.assign rfl rfl rfl ct ?_
  refine TW.assign rfl rfl rfl ct ?_
  refine TW.nil (KW.pick [0, 2, 3] [(0, _, _), (2, _, _), (3, _, _)] rfl (KW.then_ ?_))
  refine CW.seq (CW.seq (CW.region ?_))
  refine TW.move rfl rfl rfl ct ?_
  refine TW.callF (cap := []) rfl rfl en32 rfl ct (Args.cons rfl ct Args.nil) (fun _ => isShape_c _) ?_
  rintro w1 b1
  refine TW.not rfl rfl rfl ct ?_
  refine TW.nil (KW.pick [0, 2, 3, 9] [(0, _, _), (2, _, _), (3, _, _), (9, _, _)] rfl (KW.then_ ?_))
  refine CW.cond rfl (fun hno => ?_) (fun hyes => ?_)
  · refine CW.seq (CW.region ?_)
    refine TW.assign rfl rfl rfl ct ?_
    refine TW.assign rfl rfl rfl ct ?_
    refine TW.nil (KW.pick [0, 2, 3] [(0, _, _), (2, _, _), (3, _, _)] rfl (KW.then_ ?_))
    refine CW.ret (KW.thenR ?_)
    refine ret2 Tryd.results14 rfl rfl (⟨b1, ?_⟩)
    have h : ¬ Shape s := fun h => by rw [dec_pos h] at hno; cases hno
    simp [serialS, h]
  have hsh : Shape s := dec_iff.1 (by simpa using hyes)
  have hs := hsh.size
  refine CW.skip (KW.then_ (CW.seq (CW.seq (CW.region ?_))))
  refine TW.move rfl rfl rfl ct ?_
  refine TW.callF (cap := []) rfl rfl en16 rfl ct (Args.cons rfl ct Args.nil) (fun _ => valid_c _ (ht.below b1)) ?_
  rintro w2 b2
  refine TW.not rfl rfl rfl ct ?_
  refine TW.nil (KW.pick [0, 2, 3, 12] [(0, _, _), (2, _, _), (3, _, _), (12, _, _)] rfl (KW.then_ ?_))
  have hb2 := b1.step b2
  refine CW.cond rfl (fun hno2 => ?_) (fun hyes2 => ?_)
  · refine CW.seq (CW.region ?_)
    refine TW.assign rfl rfl rfl ct ?_
    refine TW.assign rfl rfl rfl ct ?_
    refine TW.nil (KW.pick [0, 2, 3] [(0, _, _), (2, _, _), (3, _, _)] rfl (KW.then_ ?_))
    refine CW.ret (KW.thenR ?_)
    refine ret2 Tryd.results14 rfl rfl (⟨hb2, ?_⟩)
    have h : ¬ Val s := fun h => by rw [dec_pos h] at hno2; cases hno2
    simp [serialS, hsh, h]
  have hval : Val s := dec_iff.1 (by simpa using hyes2)
  refine CW.skip (KW.then_ (CW.seq (CW.region ?_)))
  refine TW.assign rfl rfl rfl ct ?_
  refine TW.nil (KW.pick [0, 2, 3, 4] [(0, _, _), (2, _, _), (3, _, _), (4, _, _)] rfl (KW.then_ ?_))
  refine CW.seq (CW.seq (CW.region ?_))
  refine TW.move rfl rfl rfl ct ?_
  refine TW.sliceSLH rfl rfl Tryd.underlying9 rfl ct rfl ct rfl ct (fun _ => by (try dsimp only); omega) ?_
  refine TW.bytesOf rfl rfl Tryd.underlying9 Tryd.underlying38 Tryd.underlying5 rfl ?_
  rintro g c w3 hsz hg hb hc
  refine TW.lenSlice rfl rfl Tryd.underlying38 rfl ct ?_
  refine TW.move rfl rfl rfl ct ?_
  refine TW.nil (KW.pick [0, 2, 3, 4, 15, 16, 17] [(0, _, _), (2, _, _), (3, _, _), (4, _, _), (15, _, _), (16, _, _), (17, _, _)] rfl (KW.then_ ?_))
  refine CW.block ?_
  have hb3 := hb2.step hb
  have hx8 : (s.extract 2 10).size = 8 := by rw [size_extract' s 2 10 (by omega)]
  have h8 := eight_extract hsh
  simp only [show Int.toNat 2 = 2 from rfl, show Int.toNat 10 = 10 from rfl] at hc ⊢
  rw [hx8] at hc ⊢
  refine CW.loopS (fun k : Nat => [(4, none, .int .i64 (sval (s.extract 2 10) k)), (15, none, .slice (some ⟨g, 0, none⟩) 8 c), (16, none, .int .i64 8), (17, none, .int .i64 (k : Int))])
    (fun k W => k ≤ 8 ∧ W = w3) (fun k => 8 - k) 0 [4, 15, 16, 17] ⟨by omega, rfl⟩ rfl ?_
  rintro k W ⟨hk, rfl⟩
  have hsv := sval_bound (s.extract 2 10) k hk (fun i hi => h8.2 i (by omega))
  have hpw : (10 : Int) ^ k ≤ 10 ^ 8 := by
    have : (10 : Nat) ^ k ≤ 10 ^ 8 := Nat.pow_le_pow_right (by omega) hk
    exact_mod_cast this
  refine CW.seq (CW.region ?_)
  refine TW.lss rfl rfl rfl ct rfl ct ?_
  refine TW.nil (KW.pick [4, 15, 16, 17, 18] [(4, _, _), (15, _, _), (16, _, _), (17, _, _), (18, _, _)] rfl (KW.then_ ?_))
  refine CW.seq ?_
  refine CW.condP rfl (fun hlt => ?_) (fun hge => ?_)
  · have hk8 : k < 8 := by omega
    have hdk := h8.2 k hk8
    have ew : IntKind.i64.wrap ((((s.extract 2 10).data.getD k 0).toNat : Int) - 48) = bt (s.extract 2 10) k - 48 := wrap_b (z := bt (s.extract 2 10) k - 48) (by omega) (by omega)
    refine CW.skip (KW.then_ (CW.seq (CW.block (CW.seq (CW.region ?_)))))
    refine TW.indexAddr rfl rfl Tryd.underlying38 sz5 rfl ct rfl ct (fun _ => by (try dsimp only); omega) ?_
    refine TW.load rfl rfl one5 rfl ct (fun _ => byteAt (hc k hk8)) ?_
    refine TW.assign rfl rfl rfl ct ?_
    refine TW.nil (KW.pick [4, 6, 15, 16, 17] [(4, _, _), (6, _, _), (15, _, _), (16, _, _), (17, _, _)] rfl (KW.then_ ?_))
    refine CW.region ?_
    refine TW.move rfl rfl rfl ct ?_
    refine TW.mul rfl rfl rfl ct rfl ct (fun _ => by omega) ?_
    refine TW.move rfl rfl rfl ct ?_
    refine TW.sub8 rfl rfl rfl ct rfl ct (fun _ => ⟨show 0 ≤ bt (s.extract 2 10) k - 48 by omega, show bt (s.extract 2 10) k - 48 ≤ 255 by omega⟩) ?_
    refine TW.conv rfl rfl rfl Tryd.underlying3 rfl ct ?_
    refine TW.add rfl rfl rfl ct rfl ct (fun _ => by rw [ew]; omega) ?_
    refine TW.assign rfl rfl rfl ct ?_
    refine TW.nil (KW.pick [4, 6, 15, 16, 17] [(4, _, _), (6, _, _), (15, _, _), (16, _, _), (17, _, _)] rfl (KW.blockN (KW.then_ ?_)))
    refine CW.region ?_
    refine TW.add rfl rfl rfl ct rfl ct (fun _ => by (try dsimp only); omega) ?_
    refine TW.move rfl rfl rfl ct ?_
    refine TW.nil (KW.pick [4, 6, 15, 16, 17] [(4, _, _), (6, _, _), (15, _, _), (16, _, _), (17, _, _)] rfl ?_)
    rw [ew]
    refine KW.round (k + 1) [4, 15, 16, 17] rfl ⟨by omega, rfl⟩ (by omega)
  · obtain rfl : k = 8 := by omega
    refine CW.exit (KW.thenX (KW.thenX (KW.blockX (KW.then_ (CW.seq (CW.region ?_))))))
    refine TW.move rfl rfl rfl ct ?_
    refine TW.assign rfl rfl rfl ct ?_
    refine TW.assign rfl rfl rfl ct ?_
    refine TW.nil (KW.pick [2, 3, 4, 15, 16, 17] [(2, _, _), (3, _, _), (4, _, _), (15, _, _), (16, _, _), (17, _, _)] rfl (KW.then_ ?_))
    refine CW.ret ?_
    refine ret2 Tryd.results14 rfl rfl (⟨hb3, by simp [serialS, hsh, hval]⟩)

set_option maxRecDepth 20000 in
theorem rserial_c {w : World} (s : ByteArray) : Gives Tryd.prog 15 #[.string s] w fun u w' => Below w.heap.size w w' ∧ u = .tuple #[.int .i64 (serialS s).1, .int .i64 (serialS s).2] := by
  refine gives_of (vs := [.string s]) [(0, none, _)] Tryd.func15 rfl Tryd.ntmps15 rfl rfl ?_
  refine CW.seq (CW.region ?_)
  refine TW.assign rfl rfl rfl ct ?_
  refine TW.assign rfl rfl rfl ct ?_
  refine TW.nil (KW.pick [0, 2, 3] [(0, _, _), (2, _, _), (3, _, _)] rfl (KW.then_ ?_))
  refine CW.seq (CW.seq (CW.region ?_))
  refine TW.move rfl rfl rfl ct ?_
  refine TW.callF (cap := []) rfl rfl en22 rfl ct (Args.cons rfl ct Args.nil) (fun _ => rShape_c _) ?_
  rintro w1 b1
  refine TW.not rfl rfl rfl ct ?_
  refine TW.nil (KW.pick [0, 2, 3, 8] [(0, _, _), (2, _, _), (3, _, _), (8, _, _)] rfl (KW.then_ ?_))
  refine CW.cond rfl (fun hno => ?_) (fun hyes => ?_)
  · refine CW.seq (CW.region ?_)
    refine TW.assign rfl rfl rfl ct ?_
    refine TW.assign rfl rfl rfl ct ?_
    refine TW.nil (KW.pick [0, 2, 3] [(0, _, _), (2, _, _), (3, _, _)] rfl (KW.then_ ?_))
    refine CW.ret (KW.thenR ?_)
    refine ret2 Tryd.results15 rfl rfl (⟨b1, ?_⟩)
    have h : ¬ Shape s := fun h => by rw [dec_pos h] at hno; cases hno
    simp [serialS, h]
  have hsh : Shape s := dec_iff.1 (by simpa using hyes)
  have hs := hsh.size
  refine CW.skip (KW.then_ (CW.seq (CW.seq (CW.region ?_))))
  refine TW.move rfl rfl rfl ct ?_
  refine TW.callF (cap := []) rfl rfl en17 rfl ct (Args.cons rfl ct Args.nil) (fun _ => rvalid_c _) ?_
  rintro w2 b2
  refine TW.not rfl rfl rfl ct ?_
  refine TW.nil (KW.pick [0, 2, 3, 11] [(0, _, _), (2, _, _), (3, _, _), (11, _, _)] rfl (KW.then_ ?_))
  have hb2 := b1.step b2
  refine CW.cond rfl (fun hno2 => ?_) (fun hyes2 => ?_)
  · refine CW.seq (CW.region ?_)
    refine TW.assign rfl rfl rfl ct ?_
    refine TW.assign rfl rfl rfl ct ?_
    refine TW.nil (KW.pick [0, 2, 3] [(0, _, _), (2, _, _), (3, _, _)] rfl (KW.then_ ?_))
    refine CW.ret (KW.thenR ?_)
    refine ret2 Tryd.results15 rfl rfl (⟨hb2, ?_⟩)
    have h : ¬ Val s := fun h => by rw [dec_pos h] at hno2; cases hno2
    simp [serialS, hsh, h]
  have hval : Val s := dec_iff.1 (by simpa using hyes2)
  have h8 := eight_extract hsh
  refine CW.skip (KW.then_ (CW.seq (CW.region ?_)))
  refine TW.assign rfl rfl rfl ct ?_
  refine TW.nil (KW.pick [0, 2, 3, 4] [(0, _, _), (2, _, _), (3, _, _), (4, _, _)] rfl (KW.then_ ?_))
  refine CW.seq (CW.seq (CW.region ?_))
  refine TW.assign rfl rfl rfl ct ?_
  refine TW.nil (KW.pick [0, 2, 3, 4, 5] [(0, _, _), (2, _, _), (3, _, _), (4, _, _), (5, _, _)] rfl (KW.then_ ?_))
  refine CW.block ?_
  refine CW.loopS (fun k : Nat => [(0, none, .string s), (4, none, .int .i64 (sval (s.extract 2 10) k)), (5, none, .int .i64 ((k : Int) + 2))])
    (fun k W => k ≤ 8 ∧ W = w2) (fun k => 8 - k) 0 [0, 4, 5] ⟨by omega, rfl⟩ rfl ?_
  rintro k W ⟨hk, rfl⟩
  have hsv := sval_bound (s.extract 2 10) k hk (fun i hi => h8.2 i (by omega))
  have hpw : (10 : Int) ^ k ≤ 10 ^ 8 := by
    have : (10 : Nat) ^ k ≤ 10 ^ 8 := Nat.pow_le_pow_right (by omega) hk
    exact_mod_cast this
  refine CW.seq (CW.seq (CW.region ?_))
  refine TW.move rfl rfl rfl ct ?_
  refine TW.lss rfl rfl rfl ct rfl ct ?_
  refine TW.nil (KW.pick [0, 4, 5, 13] [(0, _, _), (4, _, _), (5, _, _), (13, _, _)] rfl (KW.then_ ?_))
  refine CW.condP rfl (fun hlt => ?_) (fun hge => ?_)
  · have hk8 : k < 8 := by omega
    have hdk := h8.2 k hk8
    have hbx : (((s.data.getD ((k : Int) + 2).toNat 0).toNat : Int)) = bt (s.extract 2 10) k := by
      rw [bt_extract s 2 10 k (by omega) (by omega)]
      unfold bt
      rw [show ((k : Int) + 2).toNat = 2 + k by omega]
    have ew : IntKind.i64.wrap (((s.data.getD ((k : Int) + 2).toNat 0).toNat : Int) - 48) = bt (s.extract 2 10) k - 48 := by rw [hbx]; exact wrap_b (z := bt (s.extract 2 10) k - 48) (by omega) (by omega)
    refine CW.skip (KW.then_ (CW.seq (CW.block (CW.region ?_))))
    refine TW.move rfl rfl rfl ct ?_
    refine TW.mul rfl rfl rfl ct rfl ct (fun _ => by omega) ?_
    refine TW.move rfl rfl rfl ct ?_
    refine TW.move rfl rfl rfl ct ?_
    refine TW.index rfl rfl Tryd.underlying9 rfl ct rfl ct (fun _ => by (try dsimp only); omega) ?_
    refine TW.sub8 rfl rfl rfl ct rfl ct (fun _ => by rw [hbx]; omega) ?_
    refine TW.conv rfl rfl rfl Tryd.underlying3 rfl ct ?_
    refine TW.add rfl rfl rfl ct rfl ct (fun _ => by rw [ew]; omega) ?_
    refine TW.assign rfl rfl rfl ct ?_
    refine TW.nil (KW.pick [0, 4, 5] [(0, _, _), (4, _, _), (5, _, _)] rfl (KW.blockN (KW.then_ ?_)))
    refine CW.region ?_
    refine TW.move rfl rfl rfl ct ?_
    refine TW.add rfl rfl rfl ct rfl ct (fun _ => by (try dsimp only); omega) ?_
    refine TW.assign rfl rfl rfl ct ?_
    refine TW.nil (KW.pick [0, 4, 5] [(0, _, _), (4, _, _), (5, _, _)] rfl ?_)
    rw [ew]
    refine KW.round (k + 1) [0, 4, 5] ?_ ⟨by omega, rfl⟩ (by omega)
    rw [show (10 : Int) * sval (s.extract 2 10) k = sval (s.extract 2 10) k * 10 by omega, show (k : Int) + 2 + 1 = ((k + 1 : Nat) : Int) + 2 by omega]
    rfl
  · obtain rfl : k = 8 := by omega
    refine CW.exit (KW.thenX (KW.thenX (KW.blockX (KW.then_ (CW.seq (CW.region ?_))))))
    refine TW.move rfl rfl rfl ct ?_
    refine TW.assign rfl rfl rfl ct ?_
    refine TW.assign rfl rfl rfl ct ?_
    refine TW.nil (KW.pick [0, 2, 3, 4, 5] [(0, _, _), (2, _, _), (3, _, _), (4, _, _), (5, _, _)] rfl (KW.then_ ?_))
    refine CW.ret ?_
    refine ret2 Tryd.results15 rfl rfl (⟨hb2, by simp [serialS, hsh, hval]⟩)
end Go.Proofs.YthldjchogdefjaaDoor
