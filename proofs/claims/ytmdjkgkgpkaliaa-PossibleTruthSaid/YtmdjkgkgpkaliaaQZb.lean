import Derived.Test.YtmdjkgkgpkaliaaQZa
import Derived.Test.YtmdjkgkgpkaliaaQSpr
set_option linter.unusedSimpArgs false
set_option linter.unusedVariables false
namespace Go.Proofs.Ytmdjkgkgpkaliaa
open Go.PF Go.RowKit Go.Ord

theorem evT_one : Ty.One evT := fun _ _ _ _ ⟨v, h, _, _, _, A, cap, hv, _⟩ u hu => by
  rw [h] at hu
  simp at hu
  rcases hu with rfl | rfl | rfl | rfl
  · rfl
  · rfl
  · rfl
  · rw [hv]; rfl

set_option maxRecDepth 20000 in
theorem fewer_law {w : World} {dv lv : Value} {d : Dist} {l : List Ev} (most k0 : Int) (hk0 : 0 ≤ k0) (hk1 : k0 ≤ 255) (hd : SD w dv d) (hl : SE w lv l) :
    Gives Try.prog 7 #[dv, lv, .int .i64 most, .int .u8 k0] w fun u w' => Below w.heap.size w w' ∧ u = .bool true := by
  obtain ⟨B, bcap, rfl, hbcap⟩ := hl.form
  refine gives_of (vs := [dv, .slice B l.length bcap, .int .i64 most, .int .u8 k0]) [(0, none, _), (1, none, _), (2, none, _), (3, none, _)] Try.func7 rfl Try.ntmps7 rfl rfl ?_
  refine CW.seq (CW.region ?_)
  refine TW.assign rfl rfl rfl ct ?_
  refine TW.nil (KW.pick [0, 1, 2, 3, 8] [(0, _, _), (1, _, _), (2, _, _), (3, _, _), (8, _, _)] rfl (KW.then_ ?_))
  refine CW.seq (CW.region ?_)
  refine TW.call0 (cap := []) rfl rfl en10 rfl Args.nil (head_c) ?_
  rintro y w1 ⟨b1, rfl⟩
  refine TW.assign rfl rfl rfl ct ?_
  refine TW.nil (KW.pick [0, 1, 2, 3, 8, 9] [(0, _, _), (1, _, _), (2, _, _), (3, _, _), (8, _, _), (9, _, _)] rfl (KW.then_ ?_))
  refine CW.seq (CW.seq (CW.region ?_))
  refine TW.move rfl rfl rfl ct ?_
  refine TW.move rfl rfl rfl ct ?_
  refine TW.move rfl rfl rfl ct ?_
  have hd1 := sd_step hd b1
  have hl1 := se_step hl b1
  refine TW.call0 (cap := []) rfl rfl en18 rfl (Args.cons rfl ct (Args.cons rfl ct (Args.cons rfl ct Args.nil))) (fine_c hd1 hl1) ?_
  rintro y w2 ⟨c2, rfl⟩
  have b2 := b1.step c2
  have hd2 := sd_step hd1 c2
  have hl2 := se_step hl1 c2
  refine TW.not rfl rfl rfl ct ?_
  refine TW.move rfl rfl rfl ct ?_
  refine TW.move rfl rfl rfl ct ?_
  refine TW.lenSlice rfl rfl Try.underlying23 rfl id ?_
  refine TW.eql rfl rfl rfl id rfl ct ?_
  refine TW.pickOr rfl rfl rfl ct rfl pOr0 ?_
  refine TW.nil (KW.pick [0, 1, 2, 3, 8, 9, 27] [(0, _, _), (1, _, _), (2, _, _), (3, _, _), (8, _, _), (9, _, _), (27, _, _)] rfl (KW.then_ ?_))
  refine CW.cond rfl (fun hbad => ?_) (fun hgood => ?_)
  · refine CW.seq (CW.region ?_)
    refine TW.move rfl rfl rfl ct ?_
    refine TW.assign rfl rfl rfl ct ?_
    refine TW.nil (KW.pick [0, 1, 2, 3, 8, 9] [(0, _, _), (1, _, _), (2, _, _), (3, _, _), (8, _, _), (9, _, _)] rfl (KW.then_ ?_))
    refine CW.ret (KW.thenR ?_)
    refine ret1 Try.results7 rfl (⟨b2, rfl⟩)
  have hf : FineP d l most := dec_iff.1 (by cases hq : dec (FineP d l most) <;> simp_all)
  have hl0 : 0 < l.length := by
    rw [dec_pos hf] at hgood
    simp at hgood
    exact List.length_pos_iff.2 hgood
  have hsm := fine_small hf
  have hm3 := hf.m3
  have hwx : IntKind.i64.wrap k0 = k0 := wrap_fits (by omega)
  obtain ⟨k, hk⟩ : ∃ k : Nat, IntKind.i64.wrap k0 % (l.length : Int) = k := ⟨(IntKind.i64.wrap k0 % (l.length : Int)).toNat, by
    have := Int.emod_nonneg (IntKind.i64.wrap k0) (b := (l.length : Int)) (by omega)
    omega⟩
  have hkl : k < l.length := by
    have := Int.emod_lt_of_pos (IntKind.i64.wrap k0) (b := (l.length : Int)) (by omega)
    omega
  obtain ⟨ad, rfl⟩ := hl2.addr hl0
  refine CW.skip (KW.then_ (CW.seq (CW.region ?_)))
  refine TW.move rfl rfl rfl ct ?_
  refine TW.conv rfl rfl rfl Try.underlying3 rfl ct ?_
  refine TW.move rfl rfl rfl ct ?_
  refine TW.lenSlice rfl rfl Try.underlying23 rfl ct ?_
  refine TW.rem rfl rfl rfl ct rfl ct (fun _ => by rw [hwx]; exact ⟨hk0, by omega, by omega⟩) ?_
  refine TW.assign rfl rfl rfl ct ?_
  refine TW.nil (KW.pick [0, 1, 2, 3, 8, 9, 10] [(0, _, _), (1, _, _), (2, _, _), (3, _, _), (8, _, _), (9, _, _), (10, _, _)] rfl (KW.then_ ?_))
  refine CW.seq (CW.drawO mixed (by kernel_rfl) ?_)
  rw [hk]
  refine OW.buildSlice0 43 rfl rfl eo23 ?_
  refine DW.move rfl rfl rfl ct ?_
  refine DW.move rfl rfl rfl ct ?_
  refine DW.sliceH rfl rfl Try.underlying23 sz43 rfl ct rfl ct (fun _ => by (try dsimp only); omega) ?_
  have hT := hl2.takeS (i := k) (by omega)
  have hD := SL.dropS hl2 (i := k + 1) (by omega)
  obtain ⟨ps1, p1, r1, n1, a1⟩ := hT.flat (T := evT) (by decide)
  obtain ⟨ps2, p2, r2, n2, a2⟩ := hD.flat (T := evT) (by decide)
  refine OW.append (m := k) (A := some ad) (ps1.flatMap (·.1)) rfl rfl go23 rfl (by kernel_rfl) rfl ct a1 n1 (one_flat evT_one r1) (by omega) (by omega) ?_
  refine DW.move rfl rfl rfl ct ?_
  refine DW.move rfl rfl rfl ct ?_
  refine DW.add rfl rfl rfl ct rfl ct (fun _ => by (try dsimp only); omega) ?_
  refine DW.sliceL rfl rfl Try.underlying23 sz43 rfl ct rfl ct (fun _ => by (try dsimp only); omega) ?_
  refine OW.append (m := l.length - (k + 1)) (A := if bcap = k + 1 then some ad else (some ad).map (fun a : Addr => a.add ((k + 1) * 4))) (ps2.flatMap (·.1)) rfl rfl go23 rfl (by kernel_rfl) rfl ct a2 n2 (one_flat evT_one r2) (by omega) (by omega) ?_
  refine OW.assign rfl rfl rfl ct (rowE_strong _ _ _ _ _) (by kernel_rfl) ?_
  refine DW.nil (DW.finP [0, 1, 2, 9, 11] rfl fun vs w3 c3 hs3 => KW.then_ ?_)
  obtain ⟨v0, v1, v2, v9, v11, rfl, h0, h1, h2, h9, h11⟩ := Sats.five hs3
  refine CW.seq (CW.region ?_)
  refine TW.move rfl rfl rfl ct ?_
  refine TW.move rfl rfl rfl ct ?_
  refine TW.move rfl rfl rfl ct ?_
  have h11' : OwnS w3 43 4 v11 (0 + k + (l.length - (k + 1))) ([] ++ ps1.flatMap (·.1) ++ ps2.flatMap (·.1)) ∧ ∀ g, v11.ownBlock = some g → w2.heap.size ≤ g := h11
  have e0 : v0 = dv := h0
  have e1 : v1 = .slice (some ad) l.length bcap := h1
  have e2 : v2 = .int .i64 most := h2
  have e9 : v9 = .bool true := h9
  subst e0 e1 e2 e9
  obtain ⟨l', hl'⟩ : ∃ l', l' = l.take k ++ l.drop (k + 1) := ⟨_, rfl⟩
  have hsub : l'.Sublist l := by
    rw [hl', ← List.eraseIdx_eq_take_drop_succ]
    exact List.eraseIdx_sublist l k
  have hlen1 : ps1.length = k := by have := congrArg List.length p1; simp at this; omega
  have hlen2 : ps2.length = l.length - (k + 1) := by have := congrArg List.length p2; simpa using this
  have hr3 : SE w3 v11 l' := by
    have h := OwnS.toSLn (T := evT) (by decide) (n := 0 + k + (l.length - (k + 1))) (ps := ps1 ++ ps2) c3 (fun p hp => (List.mem_append.1 hp).elim (r1 p) (r2 p)) (by rw [List.flatMap_append]; exact h11'.1) (by simp; omega) (by simp; omega)
    rw [List.map_append, p1, p2, ← hl'] at h
    exact h.now evT_now
  have b3 := b2.step c3
  have hd3 := sd_step hd2 c3
  have hl3 := se_step hl2 c3
  have hnd := fine_needs hf
  have hnd' : ∀ e ∈ l', e.needs.length ≤ 1000 := fun e he => hnd e (hsub.subset he)
  have hll' : l'.length ≤ l.length := hsub.length_le
  refine TW.call0 (cap := []) rfl rfl en12 rfl (Args.cons rfl ct (Args.cons rfl ct (Args.cons rfl ct Args.nil))) (worlds_c hd3 hl3 hnd) ?_
  rintro y w4 ⟨c4, wv, rfl, hw4⟩
  have b4 := b3.step c4
  refine TW.move rfl rfl rfl ct ?_
  refine TW.extract rfl rfl rfl rfl ct ?_
  refine TW.extract rfl rfl rfl rfl ct ?_
  refine TW.assign rfl rfl rfl ct ?_
  refine TW.assign rfl rfl rfl ct ?_
  refine TW.nil (KW.pick [0, 1, 2, 9, 11, 12, 13] [(0, _, _), (1, _, _), (2, _, _), (9, _, _), (11, _, _), (12, _, _), (13, _, _)] rfl (KW.then_ ?_))
  refine CW.seq (CW.region ?_)
  refine TW.move rfl rfl rfl ct ?_
  refine TW.move rfl rfl rfl ct ?_
  refine TW.move rfl rfl rfl ct ?_
  refine TW.call0 (cap := []) rfl rfl en12 rfl (Args.cons rfl ct (Args.cons rfl ct (Args.cons rfl ct Args.nil))) (worlds_c (sd_step hd3 c4) (se_step hr3 c4) hnd') ?_
  rintro y w5 ⟨c5, vv, rfl, hv5⟩
  have b5 := b4.step c5
  have hw5 := hw4.below c5
  have hr5 := se_step (se_step hr3 c4) c5
  obtain ⟨A, cap, rfl, _⟩ := hw5.form
  have hmax := hw5.len.2.2
  refine TW.move rfl rfl rfl ct ?_
  refine TW.extract rfl rfl rfl rfl ct ?_
  refine TW.extract rfl rfl rfl rfl ct ?_
  refine TW.assign rfl rfl rfl ct ?_
  refine TW.assign rfl rfl rfl ct ?_
  refine TW.nil (KW.pick [0, 1, 2, 9, 11, 12, 13, 14, 15] [(0, _, _), (1, _, _), (2, _, _), (9, _, _), (11, _, _), (12, _, _), (13, _, _), (14, _, _), (15, _, _)] rfl (KW.then_ ?_))
  refine CW.seq (CW.seq (CW.region ?_))
  refine TW.move rfl rfl rfl ct ?_
  refine TW.neq rfl rfl rfl ct rfl ct ?_
  refine TW.nil (KW.pick [0, 1, 2, 9, 11, 12, 13, 14, 15, 59] [(0, _, _), (1, _, _), (2, _, _), (9, _, _), (11, _, _), (12, _, _), (13, _, _), (14, _, _), (15, _, _), (59, _, _)] rfl (KW.then_ ?_))
  refine CW.condP rfl (fun hne => ?_) (fun heq => ?_)
  · refine CW.seq (CW.region ?_)
    refine TW.move rfl rfl rfl ct ?_
    refine TW.assign rfl rfl rfl ct ?_
    refine TW.nil (KW.pick [0, 1, 2, 8, 9, 11, 12, 13, 14, 15] [(0, _, _), (1, _, _), (2, _, _), (8, _, _), (9, _, _), (11, _, _), (12, _, _), (13, _, _), (14, _, _), (15, _, _)] rfl (KW.then_ ?_))
    refine CW.ret (KW.thenR ?_)
    refine ret1 Try.results7 rfl (⟨b5, rfl⟩)
  have hok : worldsS d l most ≠ [] := fun e => by rw [hf.wok.err, if_pos e] at heq; simp at heq
  obtain ⟨x0, hx0⟩ := List.exists_mem_of_ne_nil _ hok
  obtain ⟨y0, hy0, _⟩ := hf.wok.fewer hsub hx0
  rw [(hf.wok.sub hsub).ok hy0]
  refine CW.skip (KW.then_ (CW.seq (CW.seq (CW.region ?_))))
  refine TW.assign rfl rfl rfl ct ?_
  refine TW.nil (KW.pick [0, 1, 2, 9, 11, 12, 13, 14, 15, 16] [(0, _, _), (1, _, _), (2, _, _), (9, _, _), (11, _, _), (12, _, _), (13, _, _), (14, _, _), (15, _, _), (16, _, _)] rfl (KW.then_ ?_))
  refine CW.block ?_
  refine CW.loopS (fun k : Nat => [(9, none, .bool true), (11, none, v11), (12, none, .slice A (worldsS d l most).length cap), (14, none, vv), (15, none, .int .i64 0), (16, none, .int .i64 (k : Int))])
    (fun k W => k ≤ (worldsS d l most).length ∧ Below w5.heap.size w5 W) (fun k => (worldsS d l most).length - k) 0 [9, 11, 12, 14, 15, 16] ⟨by omega, Below.refl _ _⟩ rfl ?_
  rintro k W ⟨hk, hW⟩
  refine CW.seq (CW.seq (CW.region ?_))
  refine TW.move rfl rfl rfl ct ?_
  refine TW.move rfl rfl rfl ct ?_
  refine TW.lenSlice rfl rfl Try.underlying22 rfl ct ?_
  refine TW.lss rfl rfl rfl ct rfl ct ?_
  refine TW.nil (KW.pick [9, 11, 12, 14, 15, 16, 64] [(9, _, _), (11, _, _), (12, _, _), (14, _, _), (15, _, _), (16, _, _), (64, _, _)] rfl (KW.then_ ?_))
  refine CW.condP rfl (fun hlt => ?_) (fun hge => ?_)
  · obtain ⟨x, hx, hxm⟩ := getx (l := worldsS d l most) (k := k) (by omega)
    obtain ⟨ad, rfl⟩ := hw5.addr (by omega)
    obtain ⟨rv, hcell, hrow⟩ := (hw5.below hW).row hx
    have hx3 := hf.wok.len hxm
    refine CW.skip (KW.then_ (CW.seq (CW.block (CW.seq (CW.region ?_)))))
    refine TW.move rfl rfl rfl ct ?_
    refine TW.move rfl rfl rfl ct ?_
    refine TW.move rfl rfl rfl ct ?_
    refine TW.move rfl rfl rfl ct ?_
    refine TW.indexAddr rfl rfl Try.underlying22 sz24 rfl ct rfl ct (fun _ => by (try dsimp only); omega) ?_
    refine TW.load rfl rfl one24 rfl ct (fun _ => hcell) ?_
    refine TW.call0 (cap := []) rfl rfl en24 rfl (Args.cons rfl ct (Args.cons rfl ct Args.nil)) (known_c (se_step hr5 hW) hrow (by omega) hnd' (by omega)) ?_
    rintro kv w6 ⟨c6, hkv⟩
    refine TW.call0 (cap := []) rfl rfl en23 rfl (Args.cons rfl ct (Args.cons rfl ct Args.nil)) (rsome_c ((hv5.below hW).below c6) hkv) ?_
    rintro y w7 ⟨c7, rfl⟩
    have hE := hf.wok.fewer hsub hxm
    rw [decide_eq_true hE]
    refine TW.not rfl rfl rfl ct ?_
    refine TW.nil (KW.pick [9, 11, 12, 14, 15, 16, 75] [(9, _, _), (11, _, _), (12, _, _), (14, _, _), (15, _, _), (16, _, _), (75, _, _)] rfl (KW.then_ ?_))
    refine CW.cond rfl (fun hno => ?_) (fun hyes => ?_)
    · exact absurd hno (by simp)
    · refine CW.skip (KW.blockN (KW.then_ (CW.region ?_)))
      refine TW.move rfl rfl rfl ct ?_
      refine TW.add rfl rfl rfl ct rfl ct (fun _ => by (try dsimp only); omega) ?_
      refine TW.assign rfl rfl rfl ct ?_
      refine TW.nil (KW.pick [9, 11, 12, 14, 15, 16] [(9, _, _), (11, _, _), (12, _, _), (14, _, _), (15, _, _), (16, _, _)] rfl ?_)
      refine KW.round (k + 1) [9, 11, 12, 14, 15, 16] rfl ⟨by omega, (hW.step c6).step c7⟩ (by omega)
  · refine CW.exit (KW.thenX (KW.thenX (KW.blockX (KW.then_ (CW.seq (CW.region ?_))))))
    refine TW.move rfl rfl rfl ct ?_
    refine TW.move rfl rfl rfl ct ?_
    refine TW.move rfl rfl rfl ct ?_
    refine TW.eql rfl rfl rfl id rfl ct ?_
    refine TW.pickAnd rfl rfl rfl ct rfl pAnd0 ?_
    refine TW.assign rfl rfl rfl ct ?_
    refine TW.nil (KW.pick [8, 9, 11, 12, 14, 15, 16] [(8, _, _), (9, _, _), (11, _, _), (12, _, _), (14, _, _), (15, _, _), (16, _, _)] rfl (KW.then_ ?_))
    refine CW.ret ?_
    refine ret1 Try.results7 rfl (⟨b5.step hW, rfl⟩)
end Go.Proofs.Ytmdjkgkgpkaliaa
