import Derived.Test.YtmhfeehkpndadaaGreatQZb
set_option linter.unusedSimpArgs false
set_option linter.unusedVariables false
namespace Go.Proofs.YtmhfeehkpndadaaGreat
open Go.PF Go.RowKit Go.Ord
theorem evT_one : Ty.One evT := fun _ _ _ _ ⟨v, h, _, _, _, A, cap, hv, _⟩ u hu => by
  rw [h] at hu
  simp at hu
  rcases hu with rfl | rfl | rfl | rfl
  · rfl
  · rfl
  · rfl
  · rw [hv]; rfl

theorem with_rev {d : Dist} {l : List Ev} (h : LOK d l) : withE d l.reverse = withE d l ∧ withS d l.reverse = withS d l := by
  rw [h.rev.err, h.err, h.rev.set, h.set, first_rev]
  exact ⟨rfl, rfl⟩
theorem with_twice {d : Dist} {l : List Ev} {e : Ev} (h : LOK d l) (hm : e ∈ l) (hl : l.length ≤ 13) : withE d (l ++ [e]) = withE d l ∧ withS d (l ++ [e]) = withS d l := by
  have h2 := h.twice hm hl
  rw [h2.err, h.err, h2.set, h.set, first_twice h.wf.wd (h.wf.each e hm) hm]
  exact ⟨rfl, rfl⟩

set_option maxRecDepth 20000 in
set_option maxHeartbeats 1000000 in
theorem order_law {w : World} {dv lv : Value} {d : Dist} {l : List Ev} (x y : Int) (hx0 : 0 ≤ x) (hx1 : x ≤ 255) (hy0 : 0 ≤ y) (hy1 : y ≤ 255) (hd : SD w dv d) (hl : SE w lv l) :
    Gives Tryz.prog 9 #[dv, lv, .int .u8 x, .int .u8 y] w fun u w' => Below w.heap.size w w' ∧ u = .bool true := by
  obtain ⟨b, rfl⟩ := Int.eq_ofNat_of_zero_le hx0
  obtain ⟨A, cap, rfl, _⟩ := hl.form
  refine gives_of (vs := [dv, .slice A l.length cap, .int .u8 (b : Int), .int .u8 y]) [(0, none, _), (1, none, _), (2, none, _), (3, none, _)] Tryz.func9 rfl Tryz.ntmps9 rfl rfl ?_
  refine CW.seq (CW.region ?_)
  refine TW.assign rfl rfl rfl ct ?_
  refine TW.nil (KW.pick [0, 1, 2, 3, 8] [(0, _, _), (1, _, _), (2, _, _), (3, _, _), (8, _, _)] rfl (KW.then_ ?_))
  refine CW.seq (CW.region ?_)
  refine TW.call0 (cap := []) rfl rfl en11 rfl Args.nil (head_c) ?_
  rintro z1 w1 ⟨b1, rfl⟩
  refine TW.assign rfl rfl rfl ct ?_
  refine TW.nil (KW.pick [0, 1, 2, 3, 8, 9] [(0, _, _), (1, _, _), (2, _, _), (3, _, _), (8, _, _), (9, _, _)] rfl (KW.then_ ?_))
  refine CW.seq (CW.seq (CW.region ?_))
  refine TW.move rfl rfl rfl ct ?_
  refine TW.move rfl rfl rfl ct ?_
  have hd1 := sd_step hd b1
  have hl1 := se_step hl b1
  refine TW.call0 (cap := []) rfl rfl en18 rfl (Args.cons rfl ct (Args.cons rfl ct Args.nil)) (light_c hd1 hl1) ?_
  rintro z2 w2 ⟨c2, rfl⟩
  have b2 := b1.step c2
  have hd2 := sd_step hd1 c2
  have hl2 := se_step hl1 c2
  refine TW.not rfl rfl rfl ct ?_
  refine TW.nil (KW.pick [0, 1, 2, 3, 8, 9, 24] [(0, _, _), (1, _, _), (2, _, _), (3, _, _), (8, _, _), (9, _, _), (24, _, _)] rfl (KW.then_ ?_))
  refine CW.cond rfl (fun hbad => ?_) (fun hgood => ?_)
  · refine CW.seq (CW.region ?_)
    refine TW.move rfl rfl rfl ct ?_
    refine TW.assign rfl rfl rfl ct ?_
    refine TW.nil (KW.pick [0, 1, 2, 3, 8, 9] [(0, _, _), (1, _, _), (2, _, _), (3, _, _), (8, _, _), (9, _, _)] rfl (KW.then_ ?_))
    refine CW.ret (KW.thenR ?_)
    refine ret1 Tryz.results9 rfl (⟨b2, rfl⟩)
  have hf : LiP d l := dec_iff.1 (by simpa using hgood)
  have hw := hf.ok.wf
  have hnd := hf.nd
  have hl7 := hf.light.l7
  have hr7 := hf.r7
  refine CW.skip (KW.then_ (CW.seq (CW.region ?_)))
  refine TW.assign rfl rfl rfl ct ?_
  refine TW.nil (KW.pick [0, 1, 2, 3, 8, 9, 10] [(0, _, _), (1, _, _), (2, _, _), (3, _, _), (8, _, _), (9, _, _), (10, _, _)] rfl (KW.then_ ?_))
  refine CW.seq (CW.seq (CW.region ?_))
  refine TW.move rfl rfl rfl ct ?_
  refine TW.lenSlice rfl rfl Tryz.underlying23 rfl ct ?_
  refine TW.sub rfl rfl rfl ct rfl ct (fun _ => by (try dsimp only); omega) ?_
  refine TW.assign rfl rfl rfl ct ?_
  refine TW.nil (KW.pick [0, 1, 2, 3, 8, 9, 10, 11] [(0, _, _), (1, _, _), (2, _, _), (3, _, _), (8, _, _), (9, _, _), (10, _, _), (11, _, _)] rfl (KW.then_ ?_))
  refine CW.block ?_
  refine CW.loopS (fun x : Nat × Value × List (List Value × Ev) => [(0, none, dv), (1, none, .slice A l.length cap), (2, none, .int .u8 (b : Int)), (3, none, .int .u8 y), (9, none, .bool true), (10, none, x.2.1), (11, none, .int .i64 ((x.1 : Int) - 1))])
    (fun x W' => x.1 ≤ l.length ∧ Below w2.heap.size w2 W' ∧ RowL evT W' 43 w2.heap.size x.2.1 x.2.2 ∧ x.2.2.map (·.2) = (l.drop x.1).reverse) (fun x => x.1) (l.length, .slice none 0 0, []) [0, 1, 2, 3, 9, 10, 11] ⟨Nat.le_refl _, Below.refl _ _, RowL.nil _ _ _ _, by simp⟩ rfl ?_
  rintro ⟨k, rv, ps⟩ W ⟨hk, hB, hR, hmap⟩
  dsimp only at hk hB hR hmap
  have hpl : ps.length = l.length - k := by have := congrArg List.length hmap; simpa using this
  refine CW.seq (CW.seq (CW.region ?_))
  refine TW.move rfl rfl rfl ct ?_
  refine TW.geq rfl rfl rfl ct rfl ct ?_
  refine TW.nil (KW.pick [0, 1, 2, 3, 9, 10, 11, 30] [(0, _, _), (1, _, _), (2, _, _), (3, _, _), (9, _, _), (10, _, _), (11, _, _), (30, _, _)] rfl (KW.then_ ?_))
  refine CW.condP rfl (fun hlt => ?_) (fun hge => ?_)
  · obtain ⟨j, rfl⟩ : ∃ j, k = j + 1 := ⟨k - 1, by omega⟩
    have hj : (((j + 1 : Nat) : Int) - 1) = (j : Int) := by omega
    rw [hj]
    obtain ⟨e, he, hem⟩ := getx (l := l) (k := j) (by omega)
    obtain ⟨ad, rfl⟩ := hl2.addr (by omega)
    obtain ⟨nv, hcells0, i1, i2, i3, hn0⟩ := SE.get hl2 he
    obtain ⟨C, ncap, rfl, _⟩ := hn0.form
    have hcells : ∀ i v, [Value.int .i64 e.office, .int .i64 e.low, .int .i64 e.high, .slice C e.needs.length ncap][i]? = some v → W.cell? ((ad.add ((j : Int).toNat * 4)).add i) = some v := fun i v hv => (hB.cell (block_lt_of_cell (hcells0 i v hv))).trans (hcells0 i v hv)
    refine CW.skip (KW.then_ (CW.seq (CW.block (CW.region ?_))))
    refine TW.move rfl rfl rfl ct ?_
    refine TW.move rfl rfl rfl ct ?_
    refine TW.move rfl rfl rfl ct ?_
    refine TW.indexAddr rfl rfl Tryz.underlying23 sz43 rfl ct rfl ct (fun _ => by (try dsimp only); omega) ?_
    refine TW.loadS _ rfl rfl Tryz.underlying43 sz43 rfl ct (fun _ => hcells) rfl ?_
    refine TW.buildSlice 43 _ rfl rfl rfl eo23 (Args.cons rfl ct Args.nil) rfl rfl rfl rfl rfl ?_
    rintro g7 w7 f7
    have hR7 := hR.step f7.below
    have hBW7 := hB.step f7.below
    refine TW.append [.int .i64 e.office, .int .i64 e.low, .int .i64 e.high, .slice C e.needs.length ncap] rfl rfl go23 rfl hR7.1 rfl rfl (fun j v hj => ⟨⟨g7, 0, none⟩, rfl, f7.blk.fld hj⟩) (fun v hv => by simp at hv; rcases hv with rfl | rfl | rfl | rfl <;> rfl) (by omega) (by omega) ?_
    rintro rv' w8 hO8 hg8 hnew8
    refine TW.assign rfl rfl rfl ct ?_
    refine TW.nil (KW.pick [0, 1, 2, 3, 9, 10, 11] [(0, _, _), (1, _, _), (2, _, _), (3, _, _), (9, _, _), (10, _, _), (11, _, _)] rfl (KW.blockN (KW.then_ ?_)))
    refine CW.region ?_
    refine TW.move rfl rfl rfl ct ?_
    refine TW.sub rfl rfl rfl ct rfl ct (fun _ => by (try dsimp only); omega) ?_
    refine TW.assign rfl rfl rfl ct ?_
    refine TW.nil (KW.pick [0, 1, 2, 3, 9, 10, 11] [(0, _, _), (1, _, _), (2, _, _), (3, _, _), (9, _, _), (10, _, _), (11, _, _)] rfl ?_)
    have hn7 : SL intT (RowF w7 rv) w7 (.slice C e.needs.length ncap) e.needs := (hn0.below hBW7).wider (fun q hq => ⟨by have := hBW7.size; omega, fun e => by have := hR.2.2 q e; omega⟩)
    have hR8 : RowL evT w8 43 w2.heap.size rv' (ps ++ [([.int .i64 e.office, .int .i64 e.low, .int .i64 e.high, .slice C e.needs.length ncap], e)]) := hR7.app hO8 hg8 hnew8 ⟨_, rfl, i1, i2, i3, hn7⟩ hBW7.size
    refine KW.round (j, rv', ps ++ [([.int .i64 e.office, .int .i64 e.low, .int .i64 e.high, .slice C e.needs.length ncap], e)]) [0, 1, 2, 3, 9, 10, 11] rfl ⟨by show j ≤ l.length; omega, hBW7.grown hg8 hBW7.size hR.2.2, hR8, ?_⟩ (by show j < j + 1; omega)
    show List.map Prod.snd (ps ++ [_]) = (l.drop j).reverse
    obtain ⟨hjl, hje⟩ := List.getElem?_eq_some_iff.1 he
    rw [List.map_append, hmap, List.drop_eq_getElem_cons hjl, hje, List.reverse_cons]
    rfl
  have hk0 : k = 0 := by omega
  subst hk0
  have hrv := hR.sl (by decide)
  rw [hmap, List.drop_zero] at hrv
  have b3 := b2.step hB
  have hd3 := sd_step hd2 hB
  have hl3 := se_step hl2 hB
  have hndr : ∀ e ∈ l.reverse, e.needs.length ≤ 1000 := fun e he => hnd e (by simpa using he)
  refine CW.exit (KW.thenX (KW.thenX (KW.blockX (KW.then_ (CW.seq (CW.region ?_))))))
  refine TW.move rfl rfl rfl ct ?_
  refine TW.call0 (cap := []) rfl rfl en20 rfl (Args.cons rfl ct Args.nil) (rrecords_c hl3 (by omega) hnd) ?_
  rintro cv w4 ⟨c4, hcv⟩
  refine TW.move rfl rfl rfl ct ?_
  refine TW.call0 (cap := []) rfl rfl en19 rfl (Args.cons rfl ct (Args.cons rfl ct Args.nil)) (picked_c (b := b) hcv (by omega) (by omega)) ?_
  rintro pv w5 ⟨c5, hpv⟩
  obtain ⟨T, hT⟩ : ∃ T, T = pickS (recsS l) b := ⟨_, rfl⟩
  rw [← hT] at hpv
  have c35 := c4.step c5
  have b5 := b3.step c35
  have hd5 := sd_step hd3 c35
  have hl5 := se_step hl3 c35
  have hr5 := se_step hrv c35
  refine TW.assign rfl rfl rfl ct ?_
  refine TW.nil (KW.pick [0, 1, 2, 3, 9, 10, 11, 12] [(0, _, _), (1, _, _), (2, _, _), (3, _, _), (9, _, _), (10, _, _), (11, _, _), (12, _, _)] rfl (KW.then_ ?_))
  refine CW.seq (CW.region ?_)
  refine TW.move rfl rfl rfl ct ?_
  refine TW.move rfl rfl rfl ct ?_
  refine TW.call0 (cap := []) rfl rfl en13 rfl (Args.cons rfl ct (Args.cons rfl ct Args.nil)) (withdraw_c hd5 hl5 hnd) ?_
  rintro z6 w6 ⟨c6, v6, rfl, s6⟩
  have hd6 := sd_step hd5 c6
  have hl6 := se_step hl5 c6
  have hr6 := se_step hr5 c6
  refine TW.move rfl rfl rfl ct ?_
  refine TW.extract rfl rfl rfl rfl ct ?_
  refine TW.extract rfl rfl rfl rfl ct ?_
  refine TW.assign rfl rfl rfl ct ?_
  refine TW.assign rfl rfl rfl ct ?_
  refine TW.nil (KW.pick [0, 1, 2, 3, 9, 10, 11, 12, 13, 14] [(0, _, _), (1, _, _), (2, _, _), (3, _, _), (9, _, _), (10, _, _), (11, _, _), (12, _, _), (13, _, _), (14, _, _)] rfl (KW.then_ ?_))
  refine CW.seq (CW.region ?_)
  refine TW.move rfl rfl rfl ct ?_
  refine TW.move rfl rfl rfl ct ?_
  refine TW.call0 (cap := []) rfl rfl en13 rfl (Args.cons rfl ct (Args.cons rfl ct Args.nil)) (withdraw_c hd6 hr6 hndr) ?_
  rintro z7 w7 ⟨c7, v7, rfl, s7⟩
  rw [(with_rev hf.ok).1]
  rw [(with_rev hf.ok).2] at s7
  have b7 := (b5.step c6).step c7
  have hd7 := sd_step hd6 c7
  have hl7' := se_step hl6 c7
  have hr7' := se_step hr6 c7
  have s67 := si_step s6 c7
  have hp7 := si_step (si_step hpv c6) c7
  refine TW.move rfl rfl rfl ct ?_
  refine TW.extract rfl rfl rfl rfl ct ?_
  refine TW.extract rfl rfl rfl rfl ct ?_
  refine TW.assign rfl rfl rfl ct ?_
  refine TW.assign rfl rfl rfl ct ?_
  refine TW.nil (KW.pick [0, 1, 2, 3, 9, 10, 11, 12, 13, 14, 15, 16] [(0, _, _), (1, _, _), (2, _, _), (3, _, _), (9, _, _), (10, _, _), (11, _, _), (12, _, _), (13, _, _), (14, _, _), (15, _, _), (16, _, _)] rfl (KW.then_ ?_))
  refine CW.seq (CW.seq (CW.region ?_))
  refine TW.move rfl rfl rfl ct ?_
  refine TW.move rfl rfl rfl ct ?_
  refine TW.neq rfl rfl rfl ct rfl ct ?_
  refine TW.move rfl rfl rfl ct ?_
  refine TW.move rfl rfl rfl ct ?_
  refine TW.move rfl rfl rfl ct ?_
  refine TW.callF (cap := []) rfl rfl en15 rfl ct (Args.cons rfl id (Args.cons rfl id Args.nil)) (fun _ => ints_c s67 s7) ?_
  rintro w8 c8
  refine TW.not rfl rfl rfl id ?_
  refine TW.pickOr rfl rfl rfl ct rfl pOr0 ?_
  refine TW.move rfl rfl rfl ct ?_
  refine TW.move rfl rfl rfl ct ?_
  refine TW.move rfl rfl rfl ct ?_
  refine TW.move rfl rfl rfl ct ?_
  have hd8 := sd_step hd7 c8
  have hl8 := se_step hl7' c8
  have hr8 := se_step hr7' c8
  have hp8 := si_step hp7 c8
  refine TW.callF (cap := []) rfl rfl en16 rfl ct (Args.cons rfl id (Args.cons rfl id (Args.cons rfl id Args.nil))) (fun _ => minimal_c hd8 hl8 hp8 hnd) ?_
  rintro w9 c9
  refine TW.move rfl rfl rfl ct ?_
  refine TW.move rfl rfl rfl ct ?_
  refine TW.move rfl rfl rfl ct ?_
  have hd9 := sd_step hd8 c9
  have hl9 := se_step hl8 c9
  have hr9 := se_step hr8 c9
  have hp9 := si_step hp8 c9
  refine TW.callF (cap := []) rfl rfl en16 rfl ct (Args.cons rfl id (Args.cons rfl id (Args.cons rfl id Args.nil))) (fun _ => minimal_c hd9 hr9 hp9 hndr) ?_
  rintro w10 c10
  refine TW.neqB rfl rfl Tryz.underlying4 rfl id rfl id ?_
  refine TW.pickOr rfl rfl rfl ct rfl pOr0 ?_
  refine TW.nil (KW.pick [0, 1, 2, 3, 9, 10, 11, 12, 13, 14, 15, 16, 75] [(0, _, _), (1, _, _), (2, _, _), (3, _, _), (9, _, _), (10, _, _), (11, _, _), (12, _, _), (13, _, _), (14, _, _), (15, _, _), (16, _, _), (75, _, _)] rfl (KW.then_ ?_))
  rw [dec_congr (min_rev (d := d) (l := l) (S := T))]
  have c7A := (c8.step c9).step c10
  have b10 := b7.step c7A
  have hd10 := sd_step hd9 c10
  have hl10 := se_step hl9 c10
  have s10 := si_step s67 c7A
  refine CW.cond rfl (fun hb1 => ?_) (fun hb2 => ?_)
  · exfalso
    simp at hb1
  refine CW.skip (KW.then_ (CW.seq (CW.seq (CW.region ?_))))
  refine TW.move rfl rfl rfl ct ?_
  refine TW.lenSlice rfl rfl Tryz.underlying23 rfl ct ?_
  refine TW.eql rfl rfl rfl ct rfl ct ?_
  refine TW.move rfl rfl rfl ct ?_
  refine TW.move rfl rfl rfl ct ?_
  refine TW.lenSlice rfl rfl Tryz.underlying23 rfl id ?_
  refine TW.gtr rfl rfl rfl id rfl ct ?_
  refine TW.pickOr rfl rfl rfl ct rfl pOr0 ?_
  refine TW.nil (KW.pick [0, 1, 2, 3, 9, 10, 11, 12, 13, 14, 15, 16, 83] [(0, _, _), (1, _, _), (2, _, _), (3, _, _), (9, _, _), (10, _, _), (11, _, _), (12, _, _), (13, _, _), (14, _, _), (15, _, _), (16, _, _), (83, _, _)] rfl (KW.then_ ?_))
  refine CW.cond rfl (fun hb1 => ?_) (fun hb2 => ?_)
  · refine CW.seq (CW.region ?_)
    refine TW.move rfl rfl rfl ct ?_
    refine TW.assign rfl rfl rfl ct ?_
    refine TW.nil (KW.pick [0, 1, 2, 3, 8, 9, 10, 11, 12, 13, 14, 15, 16] [(0, _, _), (1, _, _), (2, _, _), (3, _, _), (8, _, _), (9, _, _), (10, _, _), (11, _, _), (12, _, _), (13, _, _), (14, _, _), (15, _, _), (16, _, _)] rfl (KW.then_ ?_))
    refine CW.ret (KW.thenR ?_)
    refine ret1 Tryz.results9 rfl (⟨b10, rfl⟩)
  have hpos : 0 < l.length ∧ l.length ≤ 6 := by
    simp at hb2
    have h0 : l.length ≠ 0 := fun e => hb2.1 (List.eq_nil_of_length_eq_zero e)
    have := hb2.2
    omega
  have hm := Int.emod_lt_of_pos y (show (0 : Int) < (l.length : Int) by omega)
  have hm0 := Int.emod_nonneg y (show (l.length : Int) ≠ 0 by omega)
  have hwy : IntKind.i64.wrap y = y := wrap_fits (by omega)
  obtain ⟨k, hk⟩ := Int.eq_ofNat_of_zero_le hm0
  have hkl : k < l.length := by omega
  obtain ⟨e, he, hem⟩ := getx (l := l) (k := k) (by omega)
  obtain ⟨ad, rfl⟩ := hl10.addr (by omega)
  obtain ⟨nv, hcells, i1, i2, i3, hn0⟩ := SE.get hl10 he
  obtain ⟨C, ncap, rfl, _⟩ := hn0.form
  obtain ⟨ps1, p1, r1, n1, a1⟩ := hl10.flat (T := evT) (by decide)
  refine CW.skip (KW.then_ (CW.seq (CW.drawO mixed (by kernel_rfl) ?_)))
  refine OW.buildSlice0 43 rfl rfl eo23 ?_
  refine DW.move rfl rfl rfl ct ?_
  refine OW.append (m := l.length) (A := some ad) (ps1.flatMap (·.1)) rfl rfl go23 rfl (by kernel_rfl) rfl ct a1 n1 (one_flat evT_one r1) (by omega) (by omega) ?_
  refine DW.move rfl rfl rfl ct ?_
  refine DW.move rfl rfl rfl ct ?_
  refine DW.conv rfl rfl rfl Tryz.underlying3 rfl ct ?_
  rw [hwy]
  refine DW.move rfl rfl rfl ct ?_
  refine DW.lenSlice rfl rfl Tryz.underlying23 rfl ct ?_
  refine DW.rem rfl rfl rfl ct rfl ct (fun _ => ⟨hy0, by omega, by omega⟩) ?_
  rw [hk]
  refine DW.indexAddr rfl rfl Tryz.underlying23 sz43 rfl ct rfl ct (fun _ => by (try dsimp only); omega) ?_
  refine DW.loadS _ rfl rfl Tryz.underlying43 sz43 rfl ct (fun _ => hcells) rfl ?_
  refine OW.buildSlice 43 _ rfl rfl rfl eo23 (DArgs.cons rfl ct DArgs.nil) rfl rfl rfl rfl rfl ?_
  refine OW.appendR [Value.int .i64 e.office, .int .i64 e.low, .int .i64 e.high, .slice C e.needs.length ncap] rfl rfl go23 rfl (by kernel_rfl) rfl ct (fun u hu => by
    simp at hu
    rcases hu with rfl | rfl | rfl | rfl <;> rfl) (by omega) (by omega) rfl ?_
  refine OW.assign rfl rfl rfl ct (rowE_strong _ _ _ _ _) (by kernel_rfl) ?_
  refine DW.nil (DW.finX [0, 1, 2, 3, 9, 10, 11, 12, 13, 14, 15, 16] [(0, _, _), (1, _, _), (2, _, _), (3, _, _), (9, _, _), (10, _, _), (11, _, _), (12, _, _), (13, _, _), (14, _, _), (15, _, _), (16, _, _)] rfl [17] rfl fun vs w11 c11 hs11 => KW.then_ ?_)
  obtain ⟨v17, rfl, h17⟩ := Sats.one hs11
  refine CW.seq (CW.region ?_)
  refine TW.move rfl rfl rfl ct ?_
  refine TW.move rfl rfl rfl ct ?_
  have h17' : OwnS w11 43 4 v17 (0 + l.length + 1) ([] ++ ps1.flatMap (·.1) ++ [Value.int .i64 e.office, .int .i64 e.low, .int .i64 e.high, .slice C e.needs.length ncap]) ∧ ∀ g, v17.ownBlock = some g → w10.heap.size ≤ g := h17
  have hlen1 : ps1.length = l.length := by have := congrArg List.length p1; simpa using this
  have hr11 : SE w11 v17 (l ++ [e]) := by
    have h := OwnS.toSLn (T := evT) (by decide) (n := 0 + l.length + 1) (ps := ps1 ++ [([Value.int .i64 e.office, .int .i64 e.low, .int .i64 e.high, .slice C e.needs.length ncap], e)]) c11 (fun q hq => (List.mem_append.1 hq).elim (r1 q) (fun h => by rw [List.mem_singleton] at h; subst h; exact ⟨_, rfl, i1, i2, i3, hn0⟩)) (by
      rw [List.flatMap_append]
      have h18 := h17'.1
      rw [List.nil_append] at h18
      exact h18) (by simp; omega) (by simp; omega)
    rw [List.map_append, p1] at h
    exact h.now evT_now
  have hd11 := sd_step hd10 c11
  have hnd2 : ∀ z ∈ l ++ [e], z.needs.length ≤ 1000 := fun z hz => by
    rcases List.mem_append.1 hz with h | h
    · exact hnd z h
    · rw [List.mem_singleton] at h; subst h; exact hnd z hem
  refine TW.call0 (cap := []) rfl rfl en13 rfl (Args.cons rfl ct (Args.cons rfl ct Args.nil)) (withdraw_c hd11 hr11 hnd2) ?_
  rintro z12 w12 ⟨c12, v12, rfl, s12⟩
  obtain ⟨q1, q2⟩ := with_twice hf.ok hem (by omega)
  rw [q1]
  rw [q2] at s12
  have s10' := si_step (si_step s10 c11) c12
  refine TW.move rfl rfl rfl ct ?_
  refine TW.extract rfl rfl rfl rfl ct ?_
  refine TW.extract rfl rfl rfl rfl ct ?_
  refine TW.assign rfl rfl rfl ct ?_
  refine TW.assign rfl rfl rfl ct ?_
  refine TW.nil (KW.pick [0, 1, 2, 3, 9, 10, 11, 12, 13, 14, 15, 16, 17, 18, 19] [(0, _, _), (1, _, _), (2, _, _), (3, _, _), (9, _, _), (10, _, _), (11, _, _), (12, _, _), (13, _, _), (14, _, _), (15, _, _), (16, _, _), (17, _, _), (18, _, _), (19, _, _)] rfl (KW.then_ ?_))
  refine CW.seq (CW.region ?_)
  refine TW.move rfl rfl rfl ct ?_
  refine TW.move rfl rfl rfl ct ?_
  refine TW.move rfl rfl rfl ct ?_
  refine TW.move rfl rfl rfl ct ?_
  refine TW.eql rfl rfl rfl id rfl id ?_
  refine TW.pickAnd rfl rfl rfl ct rfl pAnd0 ?_
  refine TW.move rfl rfl rfl ct ?_
  refine TW.move rfl rfl rfl ct ?_
  refine TW.move rfl rfl rfl ct ?_
  refine TW.callF (cap := []) rfl rfl en15 rfl ct (Args.cons rfl id (Args.cons rfl id Args.nil)) (fun _ => ints_c s10' s12) ?_
  rintro w13 c13
  refine TW.pickAnd rfl rfl rfl ct rfl pAnd0 ?_
  refine TW.assign rfl rfl rfl ct ?_
  refine TW.nil (KW.pick [0, 1, 2, 3, 8, 9, 10, 11, 12, 13, 14, 15, 16, 17, 18, 19] [(0, _, _), (1, _, _), (2, _, _), (3, _, _), (8, _, _), (9, _, _), (10, _, _), (11, _, _), (12, _, _), (13, _, _), (14, _, _), (15, _, _), (16, _, _), (17, _, _), (18, _, _), (19, _, _)] rfl (KW.then_ ?_))
  refine CW.ret ?_
  refine ret1 Tryz.results9 rfl (⟨((b10.step c11).step c12).step c13, by simp⟩)
end Go.Proofs.YtmhfeehkpndadaaGreat
