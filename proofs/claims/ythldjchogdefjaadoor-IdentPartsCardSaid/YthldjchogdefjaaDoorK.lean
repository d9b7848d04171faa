import Derived.Test.YthldjchogdefjaaDoorSrt
namespace Go.Proofs.YthldjchogdefjaaDoor
open Go.PF Go.RowKit

theorem bt_append_l (a b : ByteArray) {i : Nat} (h : i < a.size) : bt (a ++ b) i = bt a i := by
  unfold bt
  have h' : i < a.data.size := h
  simp only [ByteArray.data_append, Array.getD_eq_getD_getElem?, Array.getElem?_append_left h']
theorem bt_append_r (a b : ByteArray) (i : Nat) : bt (a ++ b) (a.size + i) = bt b i := by
  unfold bt
  have e : a.size = a.data.size := rfl
  simp only [ByteArray.data_append, Array.getD_eq_getD_getElem?]
  rw [Array.getElem?_append_right (by omega), e, Nat.add_sub_cancel_left]
theorem nbr_at {s : ByteArray} (hs : s.size = 13) {p b i : Nat} (hp : p < 13) (hb : b < 256) (hi : i < 13) : bt (nbr s p b) i = if i = p then (b : Int) else bt s i := by
  unfold nbr
  have s1 : (s.extract 0 p).size = p := by rw [size_extract' s 0 p (by omega)]; omega
  have s2 : (s.extract 0 p ++ ByteArray.mk #[UInt8.ofNat b]).size = p + 1 := by rw [ByteArray.size_append, s1]; rfl
  have hb1 : bt (ByteArray.mk #[UInt8.ofNat b]) 0 = (b : Int) := by
    unfold bt
    simp
    omega
  by_cases h1 : i < p
  · rw [if_neg (by omega), bt_append_l _ _ (by omega), bt_append_l _ _ (by omega), bt_extract s 0 p i (by omega) (by omega)]
    simp
  · by_cases h2 : i = p
    · subst h2
      rw [if_pos rfl, bt_append_l _ _ (by omega)]
      have := bt_append_r (s.extract 0 i) (ByteArray.mk #[UInt8.ofNat b]) 0
      rw [s1, Nat.add_zero] at this
      rw [this, hb1]
    · rw [if_neg h2]
      obtain ⟨j, rfl⟩ : ∃ j, i = (p + 1) + j := ⟨i - (p + 1), by omega⟩
      have := bt_append_r (s.extract 0 p ++ ByteArray.mk #[UInt8.ofNat b]) (s.extract (p + 1) s.size) j
      rw [s2] at this
      rw [this, bt_extract s (p + 1) s.size j (by omega) (by omega)]
theorem ext_bt {a b : ByteArray} (hs : a.size = b.size) (h : ∀ i, i < a.size → bt a i = bt b i) : a = b := by
  apply ByteArray.ext
  apply Array.ext
  · exact hs
  · intro i h1 h2
    have := h i h1
    unfold bt at this
    simp only [Array.getD_eq_getD_getElem?, Array.getElem?_eq_getElem h1, Array.getElem?_eq_getElem h2, Option.getD_some] at this
    exact UInt8.toNat_inj.1 (by omega)
theorem nbr_self {s : ByteArray} (hs : s.size = 13) {p b : Nat} (hp : p < 13) (hb : b < 256) : nbr s p b = s ↔ bt s p = (b : Int) := by
  constructor
  · intro h
    have := nbr_at hs hp hb hp
    rw [h, if_pos rfl] at this
    exact this
  · intro h
    refine ext_bt (by rw [nbr_size hs hp, hs]) fun i hi => ?_
    rw [nbr_size hs hp] at hi
    rw [nbr_at hs hp hb hi]
    split
    · rename_i e; rw [e, h]
    · rfl
theorem toList_inj {a b : ByteArray} (h : a.toList = b.toList) : a = b := by
  rw [ByteArray.toList_eq, ByteArray.toList_eq] at h
  cases a; cases b; simp at h; rw [h]
theorem beq_str (a b : ByteArray) : (a.toList == b.toList) = dec (a = b) := by
  by_cases h : a = b
  · subst h; rw [dec_pos rfl]; simp
  · rw [dec_neg h]
    simpa using fun e => h (toList_inj e)
theorem size13 {s : ByteArray} (h : s.size = 13) : s.size ≤ 9223372036854775807 := by omega
theorem flt_13 {s : ByteArray} (hs : s.size = 13) {pre : List ByteArray} (hp : ∀ t ∈ pre, t ∈ cands s) : ∀ t ∈ fins (flt pre), t.size ≤ 9223372036854775807 := by
  intro t ht
  have h1 := (fins_perm _).mem_iff.1 ht
  have h2 : t ∈ pre := (List.mem_filter.1 h1).1
  obtain ⟨i, d, hi, hd, _, rfl⟩ := mem_cands.1 (hp t h2)
  exact size13 (nbr_size hs (by omega))
theorem candsTo_sub {s : ByteArray} {i d : Nat} (hi : i < 9) (hd : d ≤ 10) : ∀ t ∈ candsTo s i ++ candsAt s i d, t ∈ cands s := by
  intro t ht
  obtain ⟨s1, h1⟩ := candsTo_pre s (show i + 1 ≤ 9 by omega)
  obtain ⟨s2, h2⟩ := candsAt_pre s i hd
  unfold cands
  rw [h1, candsTo, h2]
  simp at ht ⊢
  rcases ht with h | h
  · exact .inl h
  · exact .inr (.inl h)

set_option maxRecDepth 20000 in
theorem rmisread_c {w : World} (s : ByteArray) : Gives Tryd.prog 20 #[.string s] w fun u w' => Below w.heap.size w w' ∧ ∃ ts, (¬ Shape s ∧ ts = [] ∨ Shape s ∧ ts = misS s) ∧ SS w' u ts := by
  refine gives_of (vs := [.string s]) [(0, none, _)] Tryd.func20 rfl Tryd.ntmps20 rfl rfl ?_
  refine CW.seq (CW.region ?_)
  refine TW.assign rfl rfl rfl ct ?_
  refine TW.nil (KW.pick [0, 2] [(0, _, _), (2, _, _)] rfl (KW.then_ ?_))
  refine CW.seq (CW.region ?_)
  refine TW.buildSlice0 9 rfl rfl eo30 ?_
  rintro g0 w0 f0
  refine TW.assign rfl rfl rfl ct ?_
  refine TW.nil (KW.pick [0, 2, 3] [(0, _, _), (2, _, _), (3, _, _)] rfl (KW.then_ ?_))
  refine CW.seq (CW.seq (CW.region ?_))
  refine TW.move rfl rfl rfl ct ?_
  refine TW.callF (cap := []) rfl rfl en22 rfl ct (Args.cons rfl ct Args.nil) (fun _ => rShape_c _) ?_
  rintro w1 b1
  refine TW.not rfl rfl rfl ct ?_
  refine TW.nil (KW.pick [0, 2, 3, 10] [(0, _, _), (2, _, _), (3, _, _), (10, _, _)] rfl (KW.then_ ?_))
  have hb1 := f0.below.step b1
  have hn1 : SS w1 (.slice (some ⟨g0, 0, none⟩) 0 0) [] := ⟨_, _, rfl, Nat.le_refl _, by simp, fun i x h => by simp at h⟩
  refine CW.cond rfl (fun hno => ?_) (fun hyes => ?_)
  · refine CW.seq (CW.region ?_)
    refine TW.move rfl rfl rfl ct ?_
    refine TW.assign rfl rfl rfl ct ?_
    refine TW.nil (KW.pick [0, 2, 3] [(0, _, _), (2, _, _), (3, _, _)] rfl (KW.then_ ?_))
    refine CW.ret (KW.thenR ?_)
    refine ret1 Tryd.results20 rfl (⟨hb1, [], .inl ⟨(fun h => by rw [dec_pos h] at hno; cases hno), rfl⟩, hn1⟩)
  have hsh : Shape s := dec_iff.1 (by simpa using hyes)
  have hs := hsh.size
  refine CW.skip (KW.then_ (CW.seq (CW.seq (CW.region ?_))))
  refine TW.assign rfl rfl rfl ct ?_
  refine TW.nil (KW.pick [0, 2, 3, 4] [(0, _, _), (2, _, _), (3, _, _), (4, _, _)] rfl (KW.then_ ?_))
  refine CW.block ?_
  refine CW.loopS (fun x : Nat × Value => [(0, none, .string s), (3, none, x.2), (4, none, .int .i64 ((x.1 : Int) + 2))])
    (fun x W => x.1 ≤ 9 ∧ Below w.heap.size w W ∧ SS W x.2 (fins (flt (candsTo s x.1)))) (fun x => 9 - x.1) (0, .slice (some ⟨g0, 0, none⟩) 0 0) [0, 3, 4] ⟨by simp, hb1, by simpa [candsTo, flt, fins] using hn1⟩ rfl ?_
  rintro ⟨i, v⟩ W ⟨hi9, hbW, hsW⟩
  dsimp only at hi9 hsW
  refine CW.seq (CW.seq (CW.region ?_))
  refine TW.move rfl rfl rfl ct ?_
  refine TW.lss rfl rfl rfl ct rfl ct ?_
  refine TW.nil (KW.pick [0, 3, 4, 13] [(0, _, _), (3, _, _), (4, _, _), (13, _, _)] rfl (KW.then_ ?_))
  refine CW.condP rfl (fun hlt => ?_) (fun hge => ?_)
  · dsimp only at hlt
    have hi : i < 9 := by omega
    refine CW.skip (KW.then_ (CW.seq (CW.block (CW.seq (CW.region ?_)))))
    refine TW.assign rfl rfl rfl ct ?_
    refine TW.nil (KW.pick [0, 3, 4, 5] [(0, _, _), (3, _, _), (4, _, _), (5, _, _)] rfl (KW.then_ ?_))
    refine CW.block ?_
    refine CW.loopS (fun x : Nat × Value => [(0, none, .string s), (3, none, x.2), (4, none, .int .i64 ((i : Int) + 2)), (5, none, .int .i64 (x.1 : Int))])
      (fun x W => x.1 ≤ 10 ∧ Below w.heap.size w W ∧ SS W x.2 (fins (flt (candsTo s i ++ candsAt s i x.1)))) (fun x => 10 - x.1) (0, v) [0, 3, 4, 5] ⟨by simp, hbW, by simpa [candsAt] using hsW⟩ rfl ?_
    rintro ⟨d, v2⟩ W2 ⟨hd10, hb2, hs2⟩
    dsimp only at hd10 hs2
    refine CW.seq (CW.seq (CW.region ?_))
    refine TW.move rfl rfl rfl ct ?_
    refine TW.lss rfl rfl rfl ct rfl ct ?_
    refine TW.nil (KW.pick [0, 3, 4, 5, 17] [(0, _, _), (3, _, _), (4, _, _), (5, _, _), (17, _, _)] rfl (KW.then_ ?_))
    refine CW.condP rfl (fun hlt2 => ?_) (fun hge2 => ?_)
    · dsimp only at hlt2
      have hd : d < 10 := by omega
      have hx1 : (s.extract 0 ((i : Int) + 2).toNat).size = 2 + i := by rw [size_extract' s 0 _ (by omega)]; omega
      have hx2 : (charB (d : Int)).size = 1 := rfl
      have hx3 : (s.extract ((i : Int) + 2 + 1).toNat s.size).size = 13 - (3 + i) := by rw [size_extract' s _ _ (by omega)]; omega
      have hx4 : (s.extract 0 ((i : Int) + 2).toNat ++ charB (d : Int)).size = 3 + i := by rw [ByteArray.size_append, hx1, hx2]; omega
      refine CW.skip (KW.then_ (CW.seq (CW.block (CW.seq (CW.draw mixed (by kernel_rfl) ?_)))))
      refine DW.move rfl rfl rfl ct ?_
      refine DW.move rfl rfl rfl ct ?_
      refine DW.sliceSH rfl rfl Tryd.underlying9 rfl ct rfl ct (fun _ => by (try dsimp only); omega) ?_
      refine DW.move rfl rfl rfl ct ?_
      refine DW.call (.ex (.string (charB (d : Int)))) trivial rfl rfl en31 rfl ct (DArgs.cons rfl ct DArgs.nil) (fun _ w' _ => char_c (d : Int) (by omega) (by omega)) ?_
      refine DW.addS rfl rfl rfl ct rfl ct (fun _ => by rw [hx1, hx2]; omega) ?_
      refine DW.move rfl rfl rfl ct ?_
      refine DW.move rfl rfl rfl ct ?_
      refine DW.add rfl rfl rfl ct rfl ct (fun _ => by omega) ?_
      refine DW.sliceSL rfl rfl Tryd.underlying9 rfl ct rfl ct (fun _ => by (try dsimp only); omega) ?_
      refine DW.addS rfl rfl rfl ct rfl ct (fun _ => by rw [hx4, hx3]; omega) ?_
      refine DW.assign rfl rfl rfl ct ?_
      refine DW.nil (DW.fin [0, 3, 4, 5, 6] [(0, _, _), (3, _, _), (4, _, _), (5, _, _), (6, _, _)] rfl (fun w3 b3 => KW.then_ ?_))
      refine CW.seq (CW.region ?_)
      refine TW.move rfl rfl rfl ct ?_
      refine TW.move rfl rfl rfl ct ?_
      refine TW.neqS rfl rfl rfl ct rfl ct ?_
      refine TW.move rfl rfl rfl ct ?_
      refine TW.move rfl rfl rfl ct ?_
      have hnb : s.extract 0 ((i : Int) + 2).toNat ++ charB (d : Int) ++ s.extract ((i : Int) + 2 + 1).toNat s.size = nbr s (2 + i) (48 + d) := by
        unfold nbr charB
        rw [show ((i : Int) + 2).toNat = 2 + i by omega, show ((i : Int) + 2 + 1).toNat = 2 + i + 1 by omega, Int.toNat_natCast]
      rw [hnb]
      have hb3 := hb2.step b3
      have hs3 := ss_step hs2 b3
      have hself := nbr_self hs (p := 2 + i) (b := 48 + d) (by omega) (by omega)
      have hat : candsAt s i (d + 1) = candsAt s i d ++ at1 s i d := rfl
      refine TW.callF (cap := []) rfl rfl en17 rfl ct (Args.cons rfl id Args.nil) (fun _ => rvalid_c _) ?_
      rintro w4 b4
      refine TW.pickAnd rfl rfl rfl ct rfl pAnd0 ?_
      refine TW.nil (KW.pick [0, 3, 4, 5, 6, 37] [(0, _, _), (3, _, _), (4, _, _), (5, _, _), (6, _, _), (37, _, _)] rfl (KW.then_ ?_))
      have hb4 := hb3.step b4
      have hs4 := ss_step hs3 b4
      refine CW.cond rfl (fun hin => ?_) (fun hout => ?_)
      · rw [beq_str] at hin
        simp only [Bool.and_eq_true, Bool.not_eq_true'] at hin
        have hne : ¬ nbr s (2 + i) (48 + d) = s := fun h => by rw [dec_pos h] at hin; cases hin.1
        have hval : dec (Val (nbr s (2 + i) (48 + d))) = true := hin.2
        have hflt : flt (candsTo s i ++ candsAt s i (d + 1)) = flt (candsTo s i ++ candsAt s i d) ++ [nbr s (2 + i) (48 + d)] := by
          rw [hat, at1, if_neg (fun h => hne (hself.2 (by omega))), ← List.append_assoc, flt_snoc, if_pos hval]
        have hlen : (fins (flt (candsTo s i ++ candsAt s i d))).length ≤ 1000000 := by
          rw [fins_len]
          have h1 : (flt (candsTo s i ++ candsAt s i d)).length ≤ _ := List.length_filter_le _ _
          have h2 := candsTo_len s i
          have h3 := candsAt_len s i d
          rw [List.length_append] at h1
          omega
        have hall := flt_13 hs (candsTo_sub hi (show d + 1 ≤ 10 by omega))
        rw [hflt, fins_snoc] at hall
        refine CW.region ?_
        refine TW.move rfl rfl rfl ct ?_
        refine TW.move rfl rfl rfl ct ?_
        refine TW.call0 (cap := []) rfl rfl en35 rfl (Args.cons rfl ct (Args.cons rfl ct Args.nil)) (insert_c _ hs4 hlen) ?_
        rintro v5 w5 ⟨b5, ho5, _⟩
        refine TW.assign rfl rfl rfl ct ?_
        refine TW.nil (KW.pick [0, 3, 4, 5, 6] [(0, _, _), (3, _, _), (4, _, _), (5, _, _), (6, _, _)] rfl (KW.blockN (KW.then_ ?_)))
        refine CW.region ?_
        refine TW.move rfl rfl rfl ct ?_
        refine TW.add rfl rfl rfl ct rfl ct (fun _ => by (try dsimp only); omega) ?_
        refine TW.assign rfl rfl rfl ct ?_
        refine TW.nil (KW.pick [0, 3, 4, 5, 6] [(0, _, _), (3, _, _), (4, _, _), (5, _, _), (6, _, _)] rfl ?_)
        refine KW.round (d + 1, v5) [0, 3, 4, 5] rfl ⟨by show d + 1 ≤ 10; omega, hb4.step b5, ?_⟩ (by show 10 - (d + 1) < 10 - d; omega)
        show SS w5 v5 (fins (flt (candsTo s i ++ candsAt s i (d + 1))))
        rw [hflt, fins_snoc]
        refine own_strs ho5 hall ?_
        rw [insS_len]; omega
      · have hflt : flt (candsTo s i ++ candsAt s i (d + 1)) = flt (candsTo s i ++ candsAt s i d) := by
          rw [hat, at1]
          by_cases hq : bt s (2 + i) = 48 + (d : Int)
          · rw [if_pos hq, List.append_nil]
          · have hne : ¬ nbr s (2 + i) (48 + d) = s := fun h => hq (by have := hself.1 h; omega)
            rw [if_neg hq, ← List.append_assoc, flt_snoc, if_neg, List.append_nil]
            rw [beq_str, dec_neg hne] at hout
            simpa using hout
        refine CW.skip (KW.blockN (KW.then_ (CW.region ?_)))
        refine TW.move rfl rfl rfl ct ?_
        refine TW.add rfl rfl rfl ct rfl ct (fun _ => by (try dsimp only); omega) ?_
        refine TW.assign rfl rfl rfl ct ?_
        refine TW.nil (KW.pick [0, 3, 4, 5, 6] [(0, _, _), (3, _, _), (4, _, _), (5, _, _), (6, _, _)] rfl ?_)
        refine KW.round (d + 1, v2) [0, 3, 4, 5] rfl ⟨by show d + 1 ≤ 10; omega, hb4, ?_⟩ (by show 10 - (d + 1) < 10 - d; omega)
        show SS w4 v2 (fins (flt (candsTo s i ++ candsAt s i (d + 1))))
        rw [hflt]
        exact hs4
    · dsimp only at hge2
      obtain rfl : d = 10 := by omega
      refine CW.exit (KW.thenX (KW.thenX (KW.blockX (KW.blockN (KW.then_ (CW.region ?_))))))
      refine TW.move rfl rfl rfl ct ?_
      refine TW.add rfl rfl rfl ct rfl ct (fun _ => by (try dsimp only); omega) ?_
      refine TW.assign rfl rfl rfl ct ?_
      refine TW.nil (KW.pick [0, 3, 4, 5] [(0, _, _), (3, _, _), (4, _, _), (5, _, _)] rfl ?_)
      refine KW.round (i + 1, v2) [0, 3, 4] ?_ ⟨by show i + 1 ≤ 9; omega, hb2, hs2⟩ (by show 9 - (i + 1) < 9 - i; omega)
      show some _ = some _
      simp only [show ((i : Int) + 2 + 1) = ((i + 1 : Nat) : Int) + 2 by omega]
  · dsimp only at hge
    obtain rfl : i = 9 := by omega
    refine CW.exit (KW.thenX (KW.thenX (KW.blockX (KW.then_ (CW.seq (CW.region ?_))))))
    refine TW.move rfl rfl rfl ct ?_
    refine TW.assign rfl rfl rfl ct ?_
    refine TW.nil (KW.pick [0, 2, 3, 4] [(0, _, _), (2, _, _), (3, _, _), (4, _, _)] rfl (KW.then_ ?_))
    refine CW.ret ?_
    refine ret1 Tryd.results20 rfl (⟨hbW, misS s, .inr ⟨hsh, rfl⟩, by rw [← fins_found]; exact hsW⟩)
end Go.Proofs.YthldjchogdefjaaDoor
