import Derived.Test.YtmhfeehkpndadaaGreatQZa
set_option linter.unusedSimpArgs false
set_option linter.unusedVariables false
namespace Go.Proofs.YtmhfeehkpndadaaGreat
open Go.PF Go.RowKit Go.Ord

def WantTo (d : Dist) (l : List Ev) (T : List Int) (k : Nat) : Prop := Poss d (restS l T) ∧ ∀ i, i < k → ¬ Poss d (restS l (T.eraseIdx i))
set_option maxRecDepth 20000 in
set_option maxHeartbeats 1000000 in
theorem minimal_law {w : World} {dv lv : Value} {d : Dist} {l : List Ev} (x y : Int) (hx0 : 0 ≤ x) (hx1 : x ≤ 255) (hy0 : 0 ≤ y) (hy1 : y ≤ 255) (hd : SD w dv d) (hl : SE w lv l) :
    Gives Tryz.prog 5 #[dv, lv, .int .u8 x, .int .u8 y] w fun u w' => Below w.heap.size w w' ∧ u = .bool true := by
  obtain ⟨b, rfl⟩ := Int.eq_ofNat_of_zero_le hx0
  obtain ⟨p, rfl⟩ := Int.eq_ofNat_of_zero_le hy0
  refine gives_of (vs := [dv, lv, .int .u8 (b : Int), .int .u8 (p : Int)]) [(0, none, _), (1, none, _), (2, none, _), (3, none, _)] Tryz.func5 rfl Tryz.ntmps5 rfl rfl ?_
  refine CW.seq (CW.region ?_)
  refine TW.assign rfl rfl rfl ct ?_
  refine TW.nil (KW.pick [0, 1, 2, 3, 8] [(0, _, _), (1, _, _), (2, _, _), (3, _, _), (8, _, _)] rfl (KW.then_ ?_))
  refine CW.seq (CW.region ?_)
  refine TW.call0 (cap := []) rfl rfl en11 rfl Args.nil (head_c) ?_
  rintro z1 w1 ⟨b1, rfl⟩
  refine TW.assign rfl rfl rfl ct ?_
  refine TW.nil (KW.pick [0, 1, 2, 3, 8, 9] [(0, _, _), (1, _, _), (2, _, _), (3, _, _), (8, _, _), (9, _, _)] rfl (KW.then_ ?_))
  refine CW.seq (CW.seq (CW.region ?_))
  refine TW.move rfl rfl rfl ct ?_
  refine TW.move rfl rfl rfl ct ?_
  have hd1 := sd_step hd b1
  have hl1 := se_step hl b1
  refine TW.call0 (cap := []) rfl rfl en18 rfl (Args.cons rfl ct (Args.cons rfl ct Args.nil)) (light_c hd1 hl1) ?_
  rintro z2 w2 ⟨c2, rfl⟩
  have b2 := b1.step c2
  have hd2 := sd_step hd1 c2
  have hl2 := se_step hl1 c2
  refine TW.not rfl rfl rfl ct ?_
  refine TW.nil (KW.pick [0, 1, 2, 3, 8, 9, 20] [(0, _, _), (1, _, _), (2, _, _), (3, _, _), (8, _, _), (9, _, _), (20, _, _)] rfl (KW.then_ ?_))
  refine CW.cond rfl (fun hbad => ?_) (fun hgood => ?_)
  · refine CW.seq (CW.region ?_)
    refine TW.move rfl rfl rfl ct ?_
    refine TW.assign rfl rfl rfl ct ?_
    refine TW.nil (KW.pick [0, 1, 2, 3, 8, 9] [(0, _, _), (1, _, _), (2, _, _), (3, _, _), (8, _, _), (9, _, _)] rfl (KW.then_ ?_))
    refine CW.ret (KW.thenR ?_)
    refine ret1 Tryz.results5 rfl (⟨b2, rfl⟩)
  have hf : LiP d l := dec_iff.1 (by simpa using hgood)
  have hw := hf.ok.wf
  have hnd := hf.nd
  have hl7 := hf.light.l7
  have hr7 := hf.r7
  refine CW.skip (KW.then_ (CW.seq (CW.region ?_)))
  refine TW.move rfl rfl rfl ct ?_
  refine TW.move rfl rfl rfl ct ?_
  refine TW.call0 (cap := []) rfl rfl en13 rfl (Args.cons rfl ct (Args.cons rfl ct Args.nil)) (withdraw_c hd2 hl2 hnd) ?_
  rintro z3 w3 ⟨c3, v3, rfl, s3⟩
  have b3 := b2.step c3
  have hd3 := sd_step hd2 c3
  have hl3 := se_step hl2 c3
  refine TW.move rfl rfl rfl ct ?_
  refine TW.extract rfl rfl rfl rfl ct ?_
  refine TW.extract rfl rfl rfl rfl ct ?_
  refine TW.assign rfl rfl rfl ct ?_
  refine TW.assign rfl rfl rfl ct ?_
  refine TW.nil (KW.pick [0, 1, 2, 3, 8, 9, 10, 11] [(0, _, _), (1, _, _), (2, _, _), (3, _, _), (8, _, _), (9, _, _), (10, _, _), (11, _, _)] rfl (KW.then_ ?_))
  refine CW.seq (CW.seq (CW.region ?_))
  refine TW.move rfl rfl rfl ct ?_
  refine TW.eql rfl rfl rfl ct rfl ct ?_
  refine TW.move rfl rfl rfl ct ?_
  refine TW.move rfl rfl rfl ct ?_
  refine TW.move rfl rfl rfl ct ?_
  refine TW.move rfl rfl rfl ct ?_
  refine TW.callF (cap := []) rfl rfl en16 rfl ct (Args.cons rfl id (Args.cons rfl id (Args.cons rfl id Args.nil))) (fun _ => minimal_c hd3 hl3 s3 hnd) ?_
  rintro w4 c4
  refine TW.not rfl rfl rfl id ?_
  refine TW.pickAnd rfl rfl rfl ct rfl pAnd0 ?_
  refine TW.nil (KW.pick [0, 1, 2, 3, 8, 9, 10, 11, 36] [(0, _, _), (1, _, _), (2, _, _), (3, _, _), (8, _, _), (9, _, _), (10, _, _), (11, _, _), (36, _, _)] rfl (KW.then_ ?_))
  have b4 := b3.step c4
  have hd4 := sd_step hd3 c4
  have hl4 := se_step hl3 c4
  refine CW.cond rfl (fun hb1 => ?_) (fun hb2 => ?_)
  · exfalso
    cases hfi : firstS d l with
    | none => rw [(hf.ok.non hfi).1] at hb1; simp at hb1
    | some a =>
      rw [(hf.ok.som hfi).1, (hf.ok.som hfi).2, dec_pos (first_min hw hfi)] at hb1
      simp at hb1
  refine CW.skip (KW.then_ (CW.seq (CW.region ?_)))
  refine TW.move rfl rfl rfl ct ?_
  refine TW.call0 (cap := []) rfl rfl en20 rfl (Args.cons rfl ct Args.nil) (rrecords_c hl4 (by omega) hnd) ?_
  rintro rv w5 ⟨c5, hrv⟩
  refine TW.move rfl rfl rfl ct ?_
  refine TW.call0 (cap := []) rfl rfl en19 rfl (Args.cons rfl ct (Args.cons rfl ct Args.nil)) (picked_c (b := b) hrv (by omega) (by omega)) ?_
  rintro pv w6 ⟨c6, hpv⟩
  have hsub := pickS_sub (recsS l) b
  obtain ⟨T, hT⟩ : ∃ T, T = pickS (recsS l) b := ⟨_, rfl⟩
  rw [← hT] at hpv hsub
  have hTl : T.length ≤ 7 := by have := hsub.length_le; omega
  have c46 := c5.step c6
  have b6 := b4.step c46
  have hd6 := sd_step hd4 c46
  have hl6 := se_step hl4 c46
  obtain ⟨X, xcap, rfl, _⟩ := hpv.form
  refine TW.assign rfl rfl rfl ct ?_
  refine TW.nil (KW.pick [0, 1, 2, 3, 8, 9, 10, 11, 12] [(0, _, _), (1, _, _), (2, _, _), (3, _, _), (8, _, _), (9, _, _), (10, _, _), (11, _, _), (12, _, _)] rfl (KW.then_ ?_))
  refine CW.seq (CW.region ?_)
  refine TW.move rfl rfl rfl ct ?_
  refine TW.move rfl rfl rfl ct ?_
  refine TW.move rfl rfl rfl ct ?_
  refine TW.call0 (cap := []) rfl rfl en21 rfl (Args.cons rfl ct (Args.cons rfl ct (Args.cons rfl ct Args.nil))) (explains_c hd6 hl6 hpv (by omega) hnd) ?_
  rintro z7 w7 ⟨c7, rfl⟩
  have b7 := b6.step c7
  have hd7 := sd_step hd6 c7
  have hl7' := se_step hl6 c7
  have p7 := si_step hpv c7
  rw [dec_congr (hw.rest T)]
  refine TW.assign rfl rfl rfl ct ?_
  refine TW.nil (KW.pick [0, 1, 2, 3, 8, 9, 10, 11, 12, 13] [(0, _, _), (1, _, _), (2, _, _), (3, _, _), (8, _, _), (9, _, _), (10, _, _), (11, _, _), (12, _, _), (13, _, _)] rfl (KW.then_ ?_))
  refine CW.seq (CW.seq (CW.region ?_))
  refine TW.assign rfl rfl rfl ct ?_
  refine TW.nil (KW.pick [0, 1, 2, 3, 8, 9, 10, 11, 12, 13, 14] [(0, _, _), (1, _, _), (2, _, _), (3, _, _), (8, _, _), (9, _, _), (10, _, _), (11, _, _), (12, _, _), (13, _, _), (14, _, _)] rfl (KW.then_ ?_))
  refine CW.block ?_
  refine CW.loopS (fun k : Nat => [(0, none, dv), (1, none, lv), (3, none, .int .u8 (p : Int)), (9, none, .bool true), (12, none, .slice X T.length xcap), (13, none, .bool (dec (WantTo d l T k))), (14, none, .int .i64 (k : Int))])
    (fun k W' => k ≤ T.length ∧ Below w7.heap.size w7 W') (fun k => T.length - k) 0 [0, 1, 3, 9, 12, 13, 14] ⟨Nat.zero_le _, Below.refl _ _⟩ (by rw [show dec (WantTo d l T 0) = dec (Poss d (restS l T)) from dec_congr ⟨fun h => h.1, fun h => ⟨h, fun i hi => absurd hi (by omega)⟩⟩]; rfl) ?_
  rintro k W' ⟨hk, hB'⟩
  refine CW.seq (CW.seq (CW.region ?_))
  refine TW.move rfl rfl rfl ct ?_
  refine TW.move rfl rfl rfl ct ?_
  refine TW.lenSlice rfl rfl Tryz.underlying24 rfl ct ?_
  refine TW.lss rfl rfl rfl ct rfl ct ?_
  refine TW.nil (KW.pick [0, 1, 3, 9, 12, 13, 14, 48] [(0, _, _), (1, _, _), (3, _, _), (9, _, _), (12, _, _), (13, _, _), (14, _, _), (48, _, _)] rfl (KW.then_ ?_))
  refine CW.condP rfl (fun hlt => ?_) (fun hge => ?_)
  · have hS' := p7.below hB'
    have hd' := sd_step hd7 hB'
    have hl' := se_step hl7' hB'
    obtain ⟨ad, rfl⟩ := hS'.addr (by omega)
    have her : T.take k ++ T.drop (k + 1) = T.eraseIdx k := List.eraseIdx_eq_take_drop_succ T k |>.symm
    have hnext : WantTo d l T (k + 1) ↔ WantTo d l T k ∧ ¬ Poss d (restS l (T.eraseIdx k)) := by
      constructor
      · rintro ⟨h1, h2⟩
        exact ⟨⟨h1, fun i hi => h2 i (by omega)⟩, h2 k (by omega)⟩
      · rintro ⟨⟨h1, h2⟩, h3⟩
        refine ⟨h1, fun i hi => ?_⟩
        by_cases hik : i = k
        · subst hik; exact h3
        · exact h2 i (by omega)
    by_cases hwant : WantTo d l T k
    · rw [dec_pos hwant]
      obtain ⟨ps1, p1, r1, n1, a1⟩ := (hS'.takeS (i := k) (by omega)).flat (T := intT) (by decide)
      obtain ⟨ps2, p2, r2, n2, a2⟩ := (SL.dropS hS' (i := k + 1) (by omega)).flat (T := intT) (by decide)
      refine CW.skip (KW.then_ (CW.seq (CW.block ?_)))
      refine CW.drawR mixed fun W4 c4' => ?_
      refine RW.draw .own 14 (by kernel_rfl) (by kernel_rfl) rfl rfl c4' ?_
      refine DW.move rfl rfl rfl ct ?_
      refine DW.move rfl rfl rfl ct ?_
      refine DW.move rfl rfl rfl ct ?_
      refine DW.move rfl rfl rfl ct ?_
      refine OW.buildSlice0 3 rfl rfl eo24 ?_
      refine DW.sure ?_
      refine DW.move rfl rfl rfl ct ?_
      refine DW.move rfl rfl rfl ct ?_
      refine DW.sliceH rfl rfl Tryz.underlying24 sz3 rfl id rfl id (fun h => by (try dsimp only); first | omega | (simp [Cnd] at h; omega)) ?_
      refine DW.sure ?_
      refine OW.append (m := k) (A := some ad) (ps1.flatMap (·.1)) rfl rfl go24 rfl (by kernel_rfl) rfl ct a1 n1 (one_flat intT_one r1) (by omega) (by omega) ?_
      refine DW.sure ?_
      refine DW.move rfl rfl rfl ct ?_
      refine DW.move rfl rfl rfl ct ?_
      refine DW.add rfl rfl rfl id rfl ct (fun h => by (try dsimp only); first | omega | (simp [Cnd] at h; omega)) ?_
      refine DW.sliceL rfl rfl Tryz.underlying24 sz3 rfl id rfl id (fun h => by (try dsimp only); first | omega | (simp [Cnd] at h; omega)) ?_
      refine DW.sure ?_
      refine OW.append (m := T.length - (k + 1)) (A := if xcap = k + 1 then some ad else (some ad).map (fun a : Addr => a.add ((k + 1) * 1))) (ps2.flatMap (·.1)) rfl rfl go24 rfl (by kernel_rfl) rfl ct a2 n2 (one_flat intT_one r2) (by omega) (by omega) ?_
      refine DW.sure ?_
      refine DW.nil (DW.finX [0, 1, 3, 9, 12, 13, 14, 52, 53, 54] [(0, _, _), (1, _, _), (3, _, _), (9, _, _), (12, _, _), (13, _, _), (14, _, _), (52, _, _), (53, _, _), (54, _, _)] rfl [64] rfl fun vs w8 c8 hs8 => KW.rk' ?_)
      obtain ⟨v64, rfl, h64⟩ := Sats.one hs8
      have h64' : OwnS w8 3 1 v64 (0 + k + (T.length - (k + 1))) ([] ++ ps1.flatMap (·.1) ++ ps2.flatMap (·.1)) ∧ ∀ g, v64.ownBlock = some g → W'.heap.size ≤ g := h64
      have hlen1 : ps1.length = k := by have := congrArg List.length p1; simp at this; omega
      have hlen2 : ps2.length = T.length - (k + 1) := by have := congrArg List.length p2; simpa using this
      have hr8 : SI w8 v64 (T.eraseIdx k) := by
        have h := OwnS.toSLn (T := intT) (by decide) (n := 0 + k + (T.length - (k + 1))) (ps := ps1 ++ ps2) c8 (fun q hq => (List.mem_append.1 hq).elim (r1 q) (r2 q)) (by rw [List.flatMap_append]; exact h64'.1) (by simp; omega) (by simp; omega)
        rw [List.map_append, p1, p2, her] at h
        exact h.now intT_now
      have hd8 := sd_step hd' c8
      have hl8 := se_step hl' c8
      refine RW.one (by kernel_rfl) (by kernel_rfl) rfl ?_
      refine TW.known rfl rfl ?_
      refine TW.call0 (cap := []) rfl rfl en21 rfl (Args.cons rfl (by simp_all [Cnd, sureC]) (Args.cons rfl (by simp_all [Cnd, sureC]) (Args.cons rfl (by simp_all [Cnd, sureC]) Args.nil))) (explains_c hd8 hl8 hr8 (by omega) hnd) ?_
      rintro z9 w9 ⟨c9, rfl⟩
      rw [dec_congr (hw.rest (T.eraseIdx k))]
      refine TW.nil (KW.pick [0, 1, 3, 9, 12, 13, 14, 52, 65] [(0, _, _), (1, _, _), (3, _, _), (9, _, _), (12, _, _), (13, _, _), (14, _, _), (52, _, _), (65, _, _)] rfl (KW.rk ?_))
      refine RW.one (by kernel_rfl) (by kernel_rfl) rfl ?_
      refine TW.known rfl rfl ?_
      refine TW.not rfl rfl rfl ct ?_
      refine TW.nil (KW.pick [0, 1, 3, 9, 12, 13, 14, 52, 66] [(0, _, _), (1, _, _), (3, _, _), (9, _, _), (12, _, _), (13, _, _), (14, _, _), (52, _, _), (66, _, _)] rfl (KW.rk ?_))
      refine RW.one (by kernel_rfl) (by kernel_rfl) rfl ?_
      refine TW.pickAnd rfl rfl rfl ct rfl pT ?_
      refine TW.nil (KW.pick [0, 1, 3, 9, 12, 13, 14, 67] [(0, _, _), (1, _, _), (3, _, _), (9, _, _), (12, _, _), (13, _, _), (14, _, _), (67, _, _)] rfl (KW.rk ?_))
      refine RW.one (by kernel_rfl) (by kernel_rfl) rfl ?_
      refine TW.assign rfl rfl rfl ct ?_
      refine TW.nil (KW.pick [0, 1, 3, 9, 12, 13, 14] [(0, _, _), (1, _, _), (3, _, _), (9, _, _), (12, _, _), (13, _, _), (14, _, _)] rfl (KW.rk ?_))
      refine RW.end rfl (KW.pick [0, 1, 3, 9, 12, 13, 14] [(0, _, _), (1, _, _), (3, _, _), (9, _, _), (12, _, _), (13, _, _), (14, _, _)] rfl (KW.blockN (KW.then_ ?_)))
      refine CW.region ?_
      refine TW.move rfl rfl rfl ct ?_
      refine TW.add rfl rfl rfl ct rfl ct (fun _ => by (try dsimp only); omega) ?_
      refine TW.assign rfl rfl rfl ct ?_
      refine TW.nil (KW.pick [0, 1, 3, 9, 12, 13, 14] [(0, _, _), (1, _, _), (3, _, _), (9, _, _), (12, _, _), (13, _, _), (14, _, _)] rfl ?_)
      refine KW.round (k + 1) [0, 1, 3, 9, 12, 13, 14] ?_ ⟨by omega, (hB'.step c8).step c9⟩ (by omega)
      rw [show dec (WantTo d l T (k + 1)) = (true && !dec (Poss d (restS l (T.eraseIdx k)))) from ?_]
      · rfl
      · rw [dec_congr hnext]
        by_cases hq : Poss d (restS l (T.eraseIdx k))
        · rw [dec_pos hq, dec_neg fun h => h.2 hq]; rfl
        · rw [dec_neg hq, dec_pos ⟨hwant, hq⟩]; rfl
    · rw [dec_neg hwant]
      refine CW.skip (KW.then_ (CW.seq (CW.block (CW.draw mixed (by kernel_rfl) ?_))))
      refine DW.move rfl rfl rfl ct ?_
      refine DW.move rfl rfl rfl ct ?_
      refine DW.dead (.bool false) rfl (by simp [Cnd]) rfl rfl ?_
      refine DW.dead (.bool false) rfl (by simp [Cnd]) rfl rfl ?_
      refine DW.dead (.bool false) rfl (by simp [Cnd]) rfl rfl ?_
      refine DW.dead (.bool false) rfl (by simp [Cnd]) rfl rfl ?_
      refine DW.dead (.bool false) rfl (by simp [Cnd]) rfl rfl ?_
      refine DW.dead (.bool false) rfl (by simp [Cnd]) rfl rfl ?_
      refine DW.dead (.bool false) rfl (by simp [Cnd]) rfl rfl ?_
      refine DW.dead (.bool false) rfl (by simp [Cnd]) rfl rfl ?_
      refine DW.dead (.bool false) rfl (by simp [Cnd]) rfl rfl ?_
      refine DW.dead (.bool false) rfl (by simp [Cnd]) rfl rfl ?_
      refine DW.dead (.bool false) rfl (by simp [Cnd]) rfl rfl ?_
      refine DW.dead (.bool false) rfl (by simp [Cnd]) rfl rfl ?_
      refine DW.dead (.bool false) rfl (by simp [Cnd]) rfl rfl ?_
      refine DW.dead (.bool false) rfl (by simp [Cnd]) rfl rfl ?_
      refine DW.pickAnd rfl rfl rfl ct rfl pAnd0 ?_
      refine DW.assign rfl rfl rfl ct ?_
      refine DW.nil (DW.fin [0, 1, 3, 9, 12, 13, 14] [(0, _, _), (1, _, _), (3, _, _), (9, _, _), (12, _, _), (13, _, _), (14, _, _)] rfl (fun w8 c8 => KW.blockN (KW.then_ ?_)))
      refine CW.region ?_
      refine TW.move rfl rfl rfl ct ?_
      refine TW.add rfl rfl rfl ct rfl ct (fun _ => by (try dsimp only); omega) ?_
      refine TW.assign rfl rfl rfl ct ?_
      refine TW.nil (KW.pick [0, 1, 3, 9, 12, 13, 14] [(0, _, _), (1, _, _), (3, _, _), (9, _, _), (12, _, _), (13, _, _), (14, _, _)] rfl ?_)
      refine KW.round (k + 1) [0, 1, 3, 9, 12, 13, 14] ?_ ⟨by omega, hB'.step c8⟩ (by omega)
      rw [show dec (WantTo d l T (k + 1)) = false from dec_neg fun h => hwant (hnext.1 h).1]
      rfl
  have hke : k = T.length := by omega
  subst hke
  have hW := b7.step hB'
  have hd8 := sd_step hd7 hB'
  have hl8 := se_step hl7' hB'
  have p8 := si_step p7 hB'
  have hmin : MinP d l T ↔ WantTo d l T T.length := ⟨fun h => ⟨h.poss, h.each⟩, fun h => ⟨hw, (recsS_inc l).sublist hsub, fun x hx => hsub.subset hx, h.1, h.2⟩⟩
  refine CW.exit (KW.thenX (KW.thenX (KW.blockX (KW.then_ (CW.seq (CW.seq (CW.region ?_)))))))
  refine TW.move rfl rfl rfl ct ?_
  refine TW.move rfl rfl rfl ct ?_
  refine TW.move rfl rfl rfl ct ?_
  refine TW.call0 (cap := []) rfl rfl en16 rfl (Args.cons rfl ct (Args.cons rfl ct (Args.cons rfl ct Args.nil))) (minimal_c hd8 hl8 p8 hnd) ?_
  rintro z9 w9 ⟨c9, rfl⟩
  rw [dec_congr hmin]
  refine TW.move rfl rfl rfl ct ?_
  refine TW.neqB rfl rfl Tryz.underlying4 rfl ct rfl ct ?_
  refine TW.nil (KW.pick [0, 1, 3, 9, 12, 13, 14, 73] [(0, _, _), (1, _, _), (3, _, _), (9, _, _), (12, _, _), (13, _, _), (14, _, _), (73, _, _)] rfl (KW.then_ ?_))
  refine CW.cond rfl (fun hb1 => ?_) (fun hb2 => ?_)
  · exfalso
    simp at hb1
  have hd9 := sd_step hd8 c9
  have hl9 := se_step hl8 c9
  have p9 := si_step p8 c9
  refine CW.skip (KW.then_ (CW.seq (CW.region ?_)))
  refine TW.move rfl rfl rfl ct ?_
  refine TW.move rfl rfl rfl ct ?_
  refine TW.call0 (cap := []) rfl rfl en19 rfl (Args.cons rfl ct (Args.cons rfl ct Args.nil)) (picked_c (b := p) p9 (by omega) (by omega)) ?_
  rintro sv w10 ⟨c10, hsv⟩
  have hsub2 := pickS_sub T p
  obtain ⟨S2, hS2⟩ : ∃ S2, S2 = pickS T p := ⟨_, rfl⟩
  rw [← hS2] at hsv hsub2
  obtain ⟨Y, ycap, rfl, _⟩ := hsv.form
  refine TW.assign rfl rfl rfl ct ?_
  refine TW.nil (KW.pick [0, 1, 3, 9, 12, 13, 14, 15] [(0, _, _), (1, _, _), (3, _, _), (9, _, _), (12, _, _), (13, _, _), (14, _, _), (15, _, _)] rfl (KW.then_ ?_))
  refine CW.seq (CW.region ?_)
  refine TW.move rfl rfl rfl ct ?_
  refine TW.move rfl rfl rfl ct ?_
  refine TW.move rfl rfl rfl ct ?_
  refine TW.not rfl rfl rfl id ?_
  refine TW.move rfl rfl rfl id ?_
  refine TW.move rfl rfl rfl ct ?_
  refine TW.lenSlice rfl rfl Tryz.underlying24 rfl id ?_
  refine TW.move rfl rfl rfl ct ?_
  refine TW.lenSlice rfl rfl Tryz.underlying24 rfl id ?_
  refine TW.eql rfl rfl rfl id rfl id ?_
  refine TW.pickOr rfl rfl rfl id rfl pOr1 ?_
  refine TW.move rfl rfl rfl id ?_
  refine TW.move rfl rfl rfl ct ?_
  refine TW.move rfl rfl rfl ct ?_
  refine TW.move rfl rfl rfl ct ?_
  refine TW.callF (cap := []) rfl rfl en21 rfl ct (Args.cons rfl id (Args.cons rfl id (Args.cons rfl id Args.nil))) (fun _ => explains_c (sd_step hd9 c10) (se_step hl9 c10) hsv (by omega) hnd) ?_
  rintro w11 c11
  refine TW.not rfl rfl rfl id ?_
  refine TW.pickOr rfl rfl rfl id rfl pOr1 ?_
  refine TW.pickAnd rfl rfl rfl ct rfl pAnd0 ?_
  refine TW.assign rfl rfl rfl ct ?_
  refine TW.nil (KW.pick [0, 1, 3, 8, 9, 12, 13, 14, 15] [(0, _, _), (1, _, _), (3, _, _), (8, _, _), (9, _, _), (12, _, _), (13, _, _), (14, _, _), (15, _, _)] rfl (KW.then_ ?_))
  refine CW.ret ?_
  refine ret1 Tryz.results5 rfl (⟨((hW.step c9).step c10).step c11, ?_⟩)
  rw [dec_congr (hw.rest S2)]
  by_cases hwant : WantTo d l T T.length
  · rw [dec_pos hwant]
    by_cases he : S2.length = T.length
    · simp [he]
    · rw [dec_neg ((hmin.2 hwant).part hsub2 he)]
      simp
  · rw [dec_neg hwant]
    rfl
end Go.Proofs.YtmhfeehkpndadaaGreat
