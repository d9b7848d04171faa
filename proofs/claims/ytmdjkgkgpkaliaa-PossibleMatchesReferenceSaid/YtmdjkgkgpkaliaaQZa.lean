import Derived.Test.YtmdjkgkgpkaliaaQOe
import Derived.Test.YtmdjkgkgpkaliaaQOc
set_option linter.unusedSimpArgs false
set_option linter.unusedVariables false
namespace Go.Proofs.Ytmdjkgkgpkaliaa
open Go.PF Go.RowKit Go.Ord

theorem fine_small {d : Dist} {l : List Ev} {most : Int} (h : FineP d l most) : l.length ≤ 8 ∧ ∀ e ∈ l, e.needs.length ≤ 6 := ⟨by have := h.few.fd.l1; omega, h.few.nd⟩
theorem fine_needs {d : Dist} {l : List Ev} {most : Int} (h : FineP d l most) : ∀ e ∈ l, e.needs.length ≤ 1000 := fun e he => by have := (fine_small h).2 e he; omega

set_option maxRecDepth 20000 in
theorem all_law {w : World} {dv lv sv : Value} {d : Dist} {l : List Ev} {s : List Int} {F : Nat → Prop} (most : Int) (hd : SD w dv d) (hl : SE w lv l) (hs : SL intT F w sv s) :
    Gives Try.prog 5 #[dv, lv, .int .i64 most, sv] w fun u w' => Below w.heap.size w w' ∧ u = .bool true := by
  obtain ⟨B, bcap, rfl, _⟩ := hs.form
  refine gives_of (vs := [dv, lv, .int .i64 most, .slice B s.length bcap]) [(0, none, _), (1, none, _), (2, none, _), (3, none, _)] Try.func5 rfl Try.ntmps5 rfl rfl ?_
  refine CW.seq (CW.region ?_)
  refine TW.assign rfl rfl rfl ct ?_
  refine TW.nil (KW.pick [0, 1, 2, 3, 8] [(0, _, _), (1, _, _), (2, _, _), (3, _, _), (8, _, _)] rfl (KW.then_ ?_))
  refine CW.seq (CW.region ?_)
  refine TW.call0 (cap := []) rfl rfl en10 rfl Args.nil (head_c) ?_
  rintro y w1 ⟨b1, rfl⟩
  refine TW.assign rfl rfl rfl ct ?_
  refine TW.nil (KW.pick [0, 1, 2, 3, 8, 9] [(0, _, _), (1, _, _), (2, _, _), (3, _, _), (8, _, _), (9, _, _)] rfl (KW.then_ ?_))
  refine CW.seq (CW.seq (CW.region ?_))
  refine TW.move rfl rfl rfl ct ?_
  refine TW.move rfl rfl rfl ct ?_
  refine TW.move rfl rfl rfl ct ?_
  have hd1 := sd_step hd b1
  have hl1 := se_step hl b1
  refine TW.call0 (cap := []) rfl rfl en18 rfl (Args.cons rfl ct (Args.cons rfl ct (Args.cons rfl ct Args.nil))) (fine_c hd1 hl1) ?_
  rintro y w2 ⟨c2, rfl⟩
  have b2 := b1.step c2
  have hd2 := sd_step hd1 c2
  have hl2 := se_step hl1 c2
  refine TW.not rfl rfl rfl ct ?_
  refine TW.move rfl rfl rfl ct ?_
  refine TW.move rfl rfl rfl ct ?_
  refine TW.lenSlice rfl rfl Try.underlying24 rfl id ?_
  refine TW.move rfl rfl rfl ct ?_
  refine TW.gtr rfl rfl rfl id rfl id ?_
  refine TW.pickOr rfl rfl rfl ct rfl pOr0 ?_
  refine TW.nil (KW.pick [0, 1, 2, 3, 8, 9, 25] [(0, _, _), (1, _, _), (2, _, _), (3, _, _), (8, _, _), (9, _, _), (25, _, _)] rfl (KW.then_ ?_))
  refine CW.cond rfl (fun hbad => ?_) (fun hgood => ?_)
  · refine CW.seq (CW.region ?_)
    refine TW.move rfl rfl rfl ct ?_
    refine TW.assign rfl rfl rfl ct ?_
    refine TW.nil (KW.pick [0, 1, 2, 3, 8, 9] [(0, _, _), (1, _, _), (2, _, _), (3, _, _), (8, _, _), (9, _, _)] rfl (KW.then_ ?_))
    refine CW.ret (KW.thenR ?_)
    refine ret1 Try.results5 rfl (⟨b2, rfl⟩)
  have hf : FineP d l most := dec_iff.1 (by cases hq : dec (FineP d l most) <;> simp_all)
  have hsl : (s.length : Int) ≤ most := by rw [dec_pos hf] at hgood; simp at hgood; omega
  have hsm := fine_small hf
  have hm3 := hf.m3
  refine CW.skip (KW.then_ (CW.seq (CW.region ?_)))
  refine TW.move rfl rfl rfl ct ?_
  refine TW.move rfl rfl rfl ct ?_
  refine TW.move rfl rfl rfl ct ?_
  refine TW.call0 (cap := []) rfl rfl en16 rfl (Args.cons rfl ct (Args.cons rfl ct Args.nil)) (rest_c hl2 (hs.below b2) (by omega) (fun e he => by have := hsm.2 e he; omega)) ?_
  rintro rv w3 ⟨c3, hrv⟩
  have b3 := b2.step c3
  refine TW.call0 (cap := []) rfl rfl en22 rfl (Args.cons rfl ct (Args.cons rfl ct (Args.cons rfl ct Args.nil))) (fit_c (sd_step hd2 c3) hrv) ?_
  rintro y w4 ⟨c4, tv, rfl⟩
  have b4 := b3.step c4
  rw [dec_congr (hf.wf.rest s)]
  refine TW.move rfl rfl rfl ct ?_
  refine TW.extract rfl rfl rfl rfl ct ?_
  refine TW.extract rfl rfl rfl rfl ct ?_
  refine TW.assign rfl rfl rfl ct ?_
  refine TW.assign rfl rfl rfl ct ?_
  refine TW.nil (KW.pick [0, 1, 2, 3, 8, 9, 11] [(0, _, _), (1, _, _), (2, _, _), (3, _, _), (8, _, _), (9, _, _), (11, _, _)] rfl (KW.then_ ?_))
  refine CW.seq (CW.seq (CW.region ?_))
  refine TW.move rfl rfl rfl ct ?_
  refine TW.not rfl rfl rfl ct ?_
  refine TW.nil (KW.pick [0, 1, 2, 3, 8, 9, 11, 36] [(0, _, _), (1, _, _), (2, _, _), (3, _, _), (8, _, _), (9, _, _), (11, _, _), (36, _, _)] rfl (KW.then_ ?_))
  refine CW.cond rfl (fun hno => ?_) (fun hyes => ?_)
  · refine CW.seq (CW.region ?_)
    refine TW.move rfl rfl rfl ct ?_
    refine TW.assign rfl rfl rfl ct ?_
    refine TW.nil (KW.pick [0, 1, 2, 3, 8, 9, 11] [(0, _, _), (1, _, _), (2, _, _), (3, _, _), (8, _, _), (9, _, _), (11, _, _)] rfl (KW.then_ ?_))
    refine CW.ret (KW.thenR ?_)
    refine ret1 Try.results5 rfl (⟨b4, rfl⟩)
  have hp : Poss d (restS l s) := dec_iff.1 (by simpa using hyes)
  have hd4 := sd_step (sd_step hd2 c3) c4
  have hl4 := se_step (se_step hl2 c3) c4
  refine CW.skip (KW.then_ (CW.seq (CW.region ?_)))
  refine TW.move rfl rfl rfl ct ?_
  refine TW.move rfl rfl rfl ct ?_
  refine TW.move rfl rfl rfl ct ?_
  refine TW.call0 (cap := []) rfl rfl en12 rfl (Args.cons rfl ct (Args.cons rfl ct (Args.cons rfl ct Args.nil))) (worlds_c hd4 hl4 (fine_needs hf)) ?_
  rintro y w5 ⟨c5, wv, rfl, hw5⟩
  have b5 := b4.step c5
  obtain ⟨x, hx, hin⟩ := hf.wok.has hsl hp
  rw [hf.wok.ok hx]
  refine TW.move rfl rfl rfl ct ?_
  refine TW.extract rfl rfl rfl rfl ct ?_
  refine TW.extract rfl rfl rfl rfl ct ?_
  refine TW.assign rfl rfl rfl ct ?_
  refine TW.assign rfl rfl rfl ct ?_
  refine TW.nil (KW.pick [0, 1, 2, 3, 8, 9, 11, 12, 13] [(0, _, _), (1, _, _), (2, _, _), (3, _, _), (8, _, _), (9, _, _), (11, _, _), (12, _, _), (13, _, _)] rfl (KW.then_ ?_))
  refine CW.seq (CW.region ?_)
  refine TW.move rfl rfl rfl ct ?_
  refine TW.move rfl rfl rfl ct ?_
  refine TW.known rfl rfl ?_
  refine TW.move rfl rfl rfl ct ?_
  refine TW.known rfl rfl ?_
  refine TW.eql rfl rfl rfl ct rfl ct ?_
  refine TW.pickAnd rfl rfl rfl ct rfl pT ?_
  refine TW.move rfl rfl rfl ct ?_
  refine TW.known rfl rfl ?_
  refine TW.move rfl rfl rfl ct ?_
  refine TW.known rfl rfl ?_
  refine TW.move rfl rfl rfl ct ?_
  refine TW.known rfl rfl ?_
  refine TW.move rfl rfl rfl ct ?_
  refine TW.known rfl rfl ?_
  refine TW.call0 (cap := []) rfl rfl en24 rfl (Args.cons rfl ct (Args.cons rfl ct Args.nil)) (known_c (se_step hl4 c5) (hs.below b5) (by omega) (fine_needs hf) (by omega)) ?_
  rintro kv w6 ⟨c6, hkv⟩
  refine TW.known rfl rfl ?_
  refine TW.call0 (cap := []) rfl rfl en23 rfl (Args.cons rfl ct (Args.cons rfl ct Args.nil)) (rsome_c (hw5.below c6) hkv) ?_
  rintro y w7 ⟨c7, rfl⟩
  refine TW.pickAnd rfl rfl rfl ct rfl pT ?_
  refine TW.assign rfl rfl rfl ct ?_
  refine TW.nil (KW.pick [0, 1, 2, 3, 8, 9, 11, 12, 13] [(0, _, _), (1, _, _), (2, _, _), (3, _, _), (8, _, _), (9, _, _), (11, _, _), (12, _, _), (13, _, _)] rfl (KW.then_ ?_))
  refine CW.ret ?_
  refine ret1 Try.results5 rfl (⟨(b5.step c6).step c7, ?_⟩)
  have hE : ∃ b ∈ worldsS d l most, ∀ x ∈ s.filter (fun y => decide (y ∈ recsS l)), x ∈ b := ⟨x, hx, hin⟩
  rw [decide_eq_true hE]
  rfl

set_option maxRecDepth 20000 in
theorem more_law {w : World} {dv lv : Value} {d : Dist} {l : List Ev} (most : Int) (hd : SD w dv d) (hl : SE w lv l) :
    Gives Try.prog 6 #[dv, lv, .int .i64 most] w fun u w' => Below w.heap.size w w' ∧ u = .bool true := by
  refine gives_of (vs := [dv, lv, .int .i64 most]) [(0, none, _), (1, none, _), (2, none, _)] Try.func6 rfl Try.ntmps6 rfl rfl ?_
  refine CW.seq (CW.region ?_)
  refine TW.assign rfl rfl rfl ct ?_
  refine TW.nil (KW.pick [0, 1, 2, 6] [(0, _, _), (1, _, _), (2, _, _), (6, _, _)] rfl (KW.then_ ?_))
  refine CW.seq (CW.region ?_)
  refine TW.call0 (cap := []) rfl rfl en10 rfl Args.nil (head_c) ?_
  rintro y w1 ⟨b1, rfl⟩
  refine TW.assign rfl rfl rfl ct ?_
  refine TW.nil (KW.pick [0, 1, 2, 6, 7] [(0, _, _), (1, _, _), (2, _, _), (6, _, _), (7, _, _)] rfl (KW.then_ ?_))
  refine CW.seq (CW.seq (CW.region ?_))
  refine TW.move rfl rfl rfl ct ?_
  refine TW.move rfl rfl rfl ct ?_
  refine TW.move rfl rfl rfl ct ?_
  have hd1 := sd_step hd b1
  have hl1 := se_step hl b1
  refine TW.call0 (cap := []) rfl rfl en18 rfl (Args.cons rfl ct (Args.cons rfl ct (Args.cons rfl ct Args.nil))) (fine_c hd1 hl1) ?_
  rintro y w2 ⟨c2, rfl⟩
  have b2 := b1.step c2
  have hd2 := sd_step hd1 c2
  have hl2 := se_step hl1 c2
  refine TW.not rfl rfl rfl ct ?_
  refine TW.move rfl rfl rfl ct ?_
  refine TW.move rfl rfl rfl ct ?_
  refine TW.eql rfl rfl rfl id rfl ct ?_
  refine TW.pickOr rfl rfl rfl ct rfl pOr0 ?_
  refine TW.nil (KW.pick [0, 1, 2, 6, 7, 22] [(0, _, _), (1, _, _), (2, _, _), (6, _, _), (7, _, _), (22, _, _)] rfl (KW.then_ ?_))
  refine CW.cond rfl (fun hbad => ?_) (fun hgood => ?_)
  · refine CW.seq (CW.region ?_)
    refine TW.move rfl rfl rfl ct ?_
    refine TW.assign rfl rfl rfl ct ?_
    refine TW.nil (KW.pick [0, 1, 2, 6, 7] [(0, _, _), (1, _, _), (2, _, _), (6, _, _), (7, _, _)] rfl (KW.then_ ?_))
    refine CW.ret (KW.thenR ?_)
    refine ret1 Try.results6 rfl (⟨b2, rfl⟩)
  have hf : FineP d l most := dec_iff.1 (by cases hq : dec (FineP d l most) <;> simp_all)
  have h3 : most ≠ 3 := by rw [dec_pos hf] at hgood; simp at hgood; exact hgood
  have hm3 := hf.m3
  have hm0 := hf.m0
  refine CW.skip (KW.then_ (CW.seq (CW.region ?_)))
  refine TW.move rfl rfl rfl ct ?_
  refine TW.move rfl rfl rfl ct ?_
  refine TW.move rfl rfl rfl ct ?_
  refine TW.call0 (cap := []) rfl rfl en12 rfl (Args.cons rfl ct (Args.cons rfl ct (Args.cons rfl ct Args.nil))) (worlds_c hd2 hl2 (fine_needs hf)) ?_
  rintro y w3 ⟨c3, wv, rfl, hw3⟩
  have b3 := b2.step c3
  have hd3 := sd_step hd2 c3
  have hl3 := se_step hl2 c3
  refine TW.move rfl rfl rfl ct ?_
  refine TW.extract rfl rfl rfl rfl ct ?_
  refine TW.extract rfl rfl rfl rfl ct ?_
  refine TW.assign rfl rfl rfl ct ?_
  refine TW.assign rfl rfl rfl ct ?_
  refine TW.nil (KW.pick [0, 1, 2, 6, 7, 8, 9] [(0, _, _), (1, _, _), (2, _, _), (6, _, _), (7, _, _), (8, _, _), (9, _, _)] rfl (KW.then_ ?_))
  refine CW.seq (CW.region ?_)
  refine TW.move rfl rfl rfl ct ?_
  refine TW.move rfl rfl rfl ct ?_
  refine TW.move rfl rfl rfl ct ?_
  refine TW.add rfl rfl rfl ct rfl ct (fun _ => by (try dsimp only); omega) ?_
  refine TW.call0 (cap := []) rfl rfl en12 rfl (Args.cons rfl ct (Args.cons rfl ct (Args.cons rfl ct Args.nil))) (worlds_c hd3 hl3 (fine_needs hf)) ?_
  rintro y w4 ⟨c4, vv, rfl, hv4⟩
  have b4 := b3.step c4
  have hw4 := hw3.below c4
  obtain ⟨A, cap, rfl, _⟩ := hw4.form
  have hmax := hw4.len.2.2
  refine TW.move rfl rfl rfl ct ?_
  refine TW.extract rfl rfl rfl rfl ct ?_
  refine TW.extract rfl rfl rfl rfl ct ?_
  refine TW.assign rfl rfl rfl ct ?_
  refine TW.assign rfl rfl rfl ct ?_
  refine TW.nil (KW.pick [0, 1, 2, 6, 7, 8, 9, 10, 11] [(0, _, _), (1, _, _), (2, _, _), (6, _, _), (7, _, _), (8, _, _), (9, _, _), (10, _, _), (11, _, _)] rfl (KW.then_ ?_))
  refine CW.seq (CW.seq (CW.region ?_))
  refine TW.move rfl rfl rfl ct ?_
  refine TW.neq rfl rfl rfl ct rfl ct ?_
  refine TW.nil (KW.pick [0, 1, 2, 6, 7, 8, 9, 10, 11, 40] [(0, _, _), (1, _, _), (2, _, _), (6, _, _), (7, _, _), (8, _, _), (9, _, _), (10, _, _), (11, _, _), (40, _, _)] rfl (KW.then_ ?_))
  refine CW.condP rfl (fun hne => ?_) (fun heq => ?_)
  · refine CW.seq (CW.region ?_)
    refine TW.move rfl rfl rfl ct ?_
    refine TW.assign rfl rfl rfl ct ?_
    refine TW.nil (KW.pick [0, 1, 2, 6, 7, 8, 9, 10, 11] [(0, _, _), (1, _, _), (2, _, _), (6, _, _), (7, _, _), (8, _, _), (9, _, _), (10, _, _), (11, _, _)] rfl (KW.then_ ?_))
    refine CW.ret (KW.thenR ?_)
    refine ret1 Try.results6 rfl (⟨b4, rfl⟩)
  have hok : worldsS d l most ≠ [] := fun e => by rw [hf.wok.err, if_pos e] at heq; simp at heq
  obtain ⟨b0, hb0⟩ := List.exists_mem_of_ne_nil _ hok
  obtain ⟨c0, hc0, _⟩ := hf.wok.more (by omega) hb0
  have hw' : WOK d l (most + 1) := ⟨hf.wf, by omega, by omega, hf.rl⟩
  rw [hw'.ok hc0]
  refine CW.skip (KW.then_ (CW.seq (CW.seq (CW.region ?_))))
  refine TW.assign rfl rfl rfl ct ?_
  refine TW.nil (KW.pick [0, 1, 2, 6, 7, 8, 9, 10, 11, 12] [(0, _, _), (1, _, _), (2, _, _), (6, _, _), (7, _, _), (8, _, _), (9, _, _), (10, _, _), (11, _, _), (12, _, _)] rfl (KW.then_ ?_))
  refine CW.block ?_
  refine CW.loopS (fun k : Nat => [(7, none, .bool true), (8, none, .slice A (worldsS d l most).length cap), (10, none, vv), (11, none, .int .i64 0), (12, none, .int .i64 (k : Int))])
    (fun k W => k ≤ (worldsS d l most).length ∧ Below w4.heap.size w4 W) (fun k => (worldsS d l most).length - k) 0 [7, 8, 10, 11, 12] ⟨by omega, Below.refl _ _⟩ rfl ?_
  rintro k W ⟨hk, hW⟩
  refine CW.seq (CW.seq (CW.region ?_))
  refine TW.move rfl rfl rfl ct ?_
  refine TW.move rfl rfl rfl ct ?_
  refine TW.lenSlice rfl rfl Try.underlying22 rfl ct ?_
  refine TW.lss rfl rfl rfl ct rfl ct ?_
  refine TW.nil (KW.pick [7, 8, 10, 11, 12, 45] [(7, _, _), (8, _, _), (10, _, _), (11, _, _), (12, _, _), (45, _, _)] rfl (KW.then_ ?_))
  refine CW.condP rfl (fun hlt => ?_) (fun hge => ?_)
  · obtain ⟨x, hx, hxm⟩ := getx (l := worldsS d l most) (k := k) (by omega)
    obtain ⟨ad, rfl⟩ := hw4.addr (by omega)
    obtain ⟨rv, hcell, hrow⟩ := (hw4.below hW).row hx
    refine CW.skip (KW.then_ (CW.seq (CW.block (CW.seq (CW.region ?_)))))
    refine TW.move rfl rfl rfl ct ?_
    refine TW.move rfl rfl rfl ct ?_
    refine TW.move rfl rfl rfl ct ?_
    refine TW.indexAddr rfl rfl Try.underlying22 sz24 rfl ct rfl ct (fun _ => by (try dsimp only); omega) ?_
    refine TW.load rfl rfl one24 rfl ct (fun _ => hcell) ?_
    refine TW.call0 (cap := []) rfl rfl en23 rfl (Args.cons rfl ct (Args.cons rfl ct Args.nil)) (rsome_c (hv4.below hW) hrow) ?_
    rintro y w5 ⟨c5, rfl⟩
    have hE := hf.wok.more (by omega) hxm
    rw [decide_eq_true hE]
    refine TW.not rfl rfl rfl ct ?_
    refine TW.nil (KW.pick [7, 8, 10, 11, 12, 54] [(7, _, _), (8, _, _), (10, _, _), (11, _, _), (12, _, _), (54, _, _)] rfl (KW.then_ ?_))
    refine CW.cond rfl (fun hno => ?_) (fun hyes => ?_)
    · exact absurd hno (by simp)
    · refine CW.skip (KW.blockN (KW.then_ (CW.region ?_)))
      refine TW.move rfl rfl rfl ct ?_
      refine TW.add rfl rfl rfl ct rfl ct (fun _ => by (try dsimp only); omega) ?_
      refine TW.assign rfl rfl rfl ct ?_
      refine TW.nil (KW.pick [7, 8, 10, 11, 12] [(7, _, _), (8, _, _), (10, _, _), (11, _, _), (12, _, _)] rfl ?_)
      refine KW.round (k + 1) [7, 8, 10, 11, 12] rfl ⟨by omega, hW.step c5⟩ (by omega)
  · refine CW.exit (KW.thenX (KW.thenX (KW.blockX (KW.then_ (CW.seq (CW.region ?_))))))
    refine TW.move rfl rfl rfl ct ?_
    refine TW.move rfl rfl rfl ct ?_
    refine TW.move rfl rfl rfl ct ?_
    refine TW.eql rfl rfl rfl id rfl ct ?_
    refine TW.pickAnd rfl rfl rfl ct rfl pAnd0 ?_
    refine TW.assign rfl rfl rfl ct ?_
    refine TW.nil (KW.pick [6, 7, 8, 10, 11, 12] [(6, _, _), (7, _, _), (8, _, _), (10, _, _), (11, _, _), (12, _, _)] rfl (KW.then_ ?_))
    refine CW.ret ?_
    refine ret1 Try.results6 rfl (⟨b4.step hW, rfl⟩)

set_option maxRecDepth 20000 in
set_option maxHeartbeats 1000000 in
theorem worlds_law {w : World} {dv lv : Value} {d : Dist} {l : List Ev} (most : Int) (hd : SD w dv d) (hl : SE w lv l) :
    Gives Try.prog 4 #[dv, lv, .int .i64 most] w fun u w' => Below w.heap.size w w' ∧ u = .bool true := by
  refine gives_of (vs := [dv, lv, .int .i64 most]) [(0, none, _), (1, none, _), (2, none, _)] Try.func4 rfl Try.ntmps4 rfl rfl ?_
  refine CW.seq (CW.region ?_)
  refine TW.assign rfl rfl rfl ct ?_
  refine TW.nil (KW.pick [0, 1, 2, 6] [(0, _, _), (1, _, _), (2, _, _), (6, _, _)] rfl (KW.then_ ?_))
  refine CW.seq (CW.region ?_)
  refine TW.call0 (cap := []) rfl rfl en10 rfl Args.nil (head_c) ?_
  rintro y w1 ⟨b1, rfl⟩
  refine TW.assign rfl rfl rfl ct ?_
  refine TW.nil (KW.pick [0, 1, 2, 6, 7] [(0, _, _), (1, _, _), (2, _, _), (6, _, _), (7, _, _)] rfl (KW.then_ ?_))
  refine CW.seq (CW.seq (CW.region ?_))
  refine TW.move rfl rfl rfl ct ?_
  refine TW.move rfl rfl rfl ct ?_
  refine TW.move rfl rfl rfl ct ?_
  have hd1 := sd_step hd b1
  have hl1 := se_step hl b1
  refine TW.call0 (cap := []) rfl rfl en18 rfl (Args.cons rfl ct (Args.cons rfl ct (Args.cons rfl ct Args.nil))) (fine_c hd1 hl1) ?_
  rintro y w2 ⟨c2, rfl⟩
  have b2 := b1.step c2
  have hd2 := sd_step hd1 c2
  have hl2 := se_step hl1 c2
  refine TW.not rfl rfl rfl ct ?_
  refine TW.nil (KW.pick [0, 1, 2, 6, 7, 20] [(0, _, _), (1, _, _), (2, _, _), (6, _, _), (7, _, _), (20, _, _)] rfl (KW.then_ ?_))
  refine CW.cond rfl (fun hbad => ?_) (fun hgood => ?_)
  · refine CW.seq (CW.region ?_)
    refine TW.move rfl rfl rfl ct ?_
    refine TW.assign rfl rfl rfl ct ?_
    refine TW.nil (KW.pick [0, 1, 2, 6, 7] [(0, _, _), (1, _, _), (2, _, _), (6, _, _), (7, _, _)] rfl (KW.then_ ?_))
    refine CW.ret (KW.thenR ?_)
    refine ret1 Try.results4 rfl (⟨b2, rfl⟩)
  have hf : FineP d l most := dec_iff.1 (by simpa using hgood)
  have hm3 := hf.m3
  have hm0 := hf.m0
  have hsm := fine_small hf
  refine CW.skip (KW.then_ (CW.seq (CW.region ?_)))
  refine TW.move rfl rfl rfl ct ?_
  refine TW.move rfl rfl rfl ct ?_
  refine TW.move rfl rfl rfl ct ?_
  refine TW.call0 (cap := []) rfl rfl en12 rfl (Args.cons rfl ct (Args.cons rfl ct (Args.cons rfl ct Args.nil))) (worlds_c hd2 hl2 (fine_needs hf)) ?_
  rintro y w3 ⟨c3, wv, rfl, hw3⟩
  have b3 := b2.step c3
  have hd3 := sd_step hd2 c3
  have hl3 := se_step hl2 c3
  obtain ⟨A, cap, rfl, _⟩ := hw3.form
  have hmax := hw3.len.2.2
  obtain ⟨ws, hws⟩ : ∃ ws, ws = worldsS d l most := ⟨_, rfl⟩
  have herr := hf.wok.err
  have hmem := fun b => hf.wok.mem (b := b)
  have hlex := hf.wok.lex
  have hinc := fun b => hf.wok.inc (b := b)
  rw [← hws] at hw3 hmax herr hmem hlex hinc
  rw [← hws]
  rw [herr]
  refine TW.move rfl rfl rfl ct ?_
  refine TW.extract rfl rfl rfl rfl ct ?_
  refine TW.extract rfl rfl rfl rfl ct ?_
  refine TW.assign rfl rfl rfl ct ?_
  refine TW.assign rfl rfl rfl ct ?_
  refine TW.nil (KW.pick [0, 1, 2, 6, 7, 8, 9] [(0, _, _), (1, _, _), (2, _, _), (6, _, _), (7, _, _), (8, _, _), (9, _, _)] rfl (KW.then_ ?_))
  refine CW.seq (CW.seq (CW.region ?_))
  refine TW.move rfl rfl rfl ct ?_
  refine TW.neq rfl rfl rfl ct rfl ct ?_
  refine TW.nil (KW.pick [0, 1, 2, 6, 7, 8, 9, 30] [(0, _, _), (1, _, _), (2, _, _), (6, _, _), (7, _, _), (8, _, _), (9, _, _), (30, _, _)] rfl (KW.then_ ?_))
  refine CW.condP rfl (fun hne => ?_) (fun heq => ?_)
  · have h0 : ws = [] := by
      by_cases e : ws = []
      · exact e
      · rw [if_neg e] at hne; simp at hne
    subst h0
    rw [if_pos rfl]
    refine CW.seq (CW.region ?_)
    refine TW.move rfl rfl rfl ct ?_
    refine TW.move rfl rfl rfl ct ?_
    refine TW.move rfl rfl rfl ct ?_
    refine TW.eql rfl rfl rfl id rfl ct ?_
    refine TW.pickAnd rfl rfl rfl ct rfl pAnd0 ?_
    refine TW.move rfl rfl rfl ct ?_
    refine TW.move rfl rfl rfl ct ?_
    refine TW.lenSlice rfl rfl Try.underlying22 rfl id ?_
    refine TW.eql rfl rfl rfl id rfl ct ?_
    refine TW.pickAnd rfl rfl rfl ct rfl pAnd0 ?_
    refine TW.assign rfl rfl rfl ct ?_
    refine TW.nil (KW.pick [0, 1, 2, 6, 7, 8, 9] [(0, _, _), (1, _, _), (2, _, _), (6, _, _), (7, _, _), (8, _, _), (9, _, _)] rfl (KW.then_ ?_))
    refine CW.ret (KW.thenR ?_)
    refine ret1 Try.results4 rfl (⟨b3, rfl⟩)
  have hwne : ws ≠ [] := fun e => by rw [if_pos e] at heq; simp at heq
  have hpos : 0 < ws.length := List.length_pos_iff.2 hwne
  refine CW.skip (KW.then_ (CW.seq (CW.region ?_)))
  refine TW.move rfl rfl rfl ct ?_
  refine TW.call0 (cap := []) rfl rfl en19 rfl (Args.cons rfl ct Args.nil) (rrecords_c hl3 (by omega) (fine_needs hf)) ?_
  rintro rv w4 ⟨c4, hrv⟩
  have b4 := b3.step c4
  obtain ⟨R, rcap, rfl, _⟩ := hrv.form
  have hrl := hf.rl
  refine TW.assign rfl rfl rfl ct ?_
  refine TW.nil (KW.pick [0, 1, 2, 6, 7, 8, 9, 10] [(0, _, _), (1, _, _), (2, _, _), (6, _, _), (7, _, _), (8, _, _), (9, _, _), (10, _, _)] rfl (KW.then_ ?_))
  refine CW.seq (CW.seq (CW.region ?_))
  refine TW.move rfl rfl rfl ct ?_
  refine TW.lenSlice rfl rfl Try.underlying22 rfl ct ?_
  refine TW.eql rfl rfl rfl ct rfl ct ?_
  refine TW.nil (KW.pick [0, 1, 2, 6, 7, 8, 9, 10, 45] [(0, _, _), (1, _, _), (2, _, _), (6, _, _), (7, _, _), (8, _, _), (9, _, _), (10, _, _), (45, _, _)] rfl (KW.then_ ?_))
  refine CW.condP rfl (fun hz => ?_) (fun hnz => ?_)
  · exfalso
    omega
  refine CW.skip (KW.then_ (CW.seq (CW.seq (CW.region ?_))))
  refine TW.assign rfl rfl rfl ct ?_
  refine TW.nil (KW.pick [0, 1, 2, 6, 7, 8, 9, 10, 11] [(0, _, _), (1, _, _), (2, _, _), (6, _, _), (7, _, _), (8, _, _), (9, _, _), (10, _, _), (11, _, _)] rfl (KW.then_ ?_))
  refine CW.block ?_
  have hw4 := hw3.below c4
  have hl4 := hl3.below c4
  refine CW.loopS (fun k : Nat => [(0, none, dv), (1, none, lv), (2, none, .int .i64 most), (7, none, .bool true), (8, none, .slice A ws.length cap), (10, none, .slice R (recsS l).length rcap), (11, none, .int .i64 (k : Int))])
    (fun k W => k ≤ ws.length ∧ Below w4.heap.size w4 W) (fun k => ws.length - k) 0 [0, 1, 2, 7, 8, 10, 11] ⟨by omega, Below.refl _ _⟩ rfl ?_
  rintro k W ⟨hk, hW⟩
  refine CW.seq (CW.seq (CW.region ?_))
  refine TW.move rfl rfl rfl ct ?_
  refine TW.move rfl rfl rfl ct ?_
  refine TW.lenSlice rfl rfl Try.underlying22 rfl ct ?_
  refine TW.lss rfl rfl rfl ct rfl ct ?_
  refine TW.nil (KW.pick [0, 1, 2, 7, 8, 10, 11, 49] [(0, _, _), (1, _, _), (2, _, _), (7, _, _), (8, _, _), (10, _, _), (11, _, _), (49, _, _)] rfl (KW.then_ ?_))
  refine CW.condP rfl (fun hlt => ?_) (fun hge => ?_)
  · obtain ⟨x, hx, hxm⟩ := getx (l := ws) (k := k) (by omega)
    obtain ⟨ad, rfl⟩ := hw4.addr (by omega)
    obtain ⟨xv, hcx0, hrx⟩ := (hw4.below hW).row hx
    obtain ⟨X, xcap, rfl, _⟩ := hrx.form
    have hcx := hcx0
    have hl4' := se_step hl3 c4
    have hd4' := sd_step hd3 c4
    obtain ⟨q1, q2, q3⟩ := (hmem x).1 hxm
    have hxi := hinc x hxm
    have hx3 : x.length ≤ 3 := by omega
    have hxlen : (x.length : Int) = min most ((recsS l).length : Int) := by omega
    have hwi : ∀ z ∈ x, z ∈ recsS l := fun z hz => q1.subset hz
    have hrW := hrv.below hW
    rcases Nat.eq_zero_or_pos k with hk0 | hk0
    · subst hk0
      refine CW.skip (KW.then_ (CW.seq (CW.block (CW.seq (CW.seq (CW.draw mixed (by kernel_rfl) ?_))))))
      refine DW.move rfl rfl rfl ct ?_
      refine DW.move rfl rfl rfl ct ?_
      refine DW.indexAddr rfl rfl Try.underlying22 sz24 rfl ct rfl ct (fun _ => by (try dsimp only); omega) ?_
      refine DW.load rfl rfl one24 rfl ct (fun _ => hcx) ?_
      refine DW.lenSlice rfl rfl Try.underlying24 rfl ct ?_
      refine DW.move rfl rfl rfl ct ?_
      refine DW.move rfl rfl rfl ct ?_
      refine DW.lenSlice rfl rfl Try.underlying24 rfl ct ?_
      refine DW.minI rfl rfl rfl ct rfl ct ?_
      refine DW.neq rfl rfl rfl ct rfl ct ?_
      refine DW.move rfl rfl rfl ct ?_
      refine DW.move rfl rfl rfl ct ?_
      refine DW.move rfl rfl rfl ct ?_
      refine DW.indexAddr rfl rfl Try.underlying22 sz24 rfl id rfl id (fun h => by (try dsimp only); first | omega | (simp [Cnd] at h; omega)) ?_
      refine DW.load rfl rfl one24 rfl id (fun _ => hcx) ?_
      refine DW.move rfl rfl rfl ct ?_
      refine DW.call (.ex (.bool (decide (∀ z ∈ x, z ∈ recsS l)))) trivial rfl rfl en20 rfl ct (DArgs.cons rfl id (DArgs.cons rfl id DArgs.nil)) (fun _ w' hb' => (rwithin_c (hrx.below hb') (hrW.below hb')).mono fun u w'' ⟨h1, h2⟩ => ⟨h1, h2⟩) ?_
      refine DW.not rfl rfl rfl id ?_
      refine DW.pickOr rfl rfl rfl ct rfl pOr0 ?_
      refine DW.move rfl rfl rfl ct ?_
      refine DW.move rfl rfl rfl ct ?_
      refine DW.gtr rfl rfl rfl id rfl ct ?_
      refine DW.move rfl rfl rfl id ?_
      refine DW.dead (.bool false) rfl (by simp [Cnd]) rfl rfl ?_
      refine DW.dead (.bool false) rfl (by simp [Cnd]) rfl rfl ?_
      refine DW.dead (.bool false) rfl (by simp [Cnd]) rfl rfl ?_
      refine DW.dead (.bool false) rfl (by simp [Cnd]) rfl rfl ?_
      refine DW.dead (.bool false) rfl (by simp [Cnd]) rfl rfl ?_
      refine DW.dead (.bool false) rfl (by simp [Cnd]) rfl rfl ?_
      refine DW.dead (.bool false) rfl (by simp [Cnd]) rfl rfl ?_
      refine DW.dead (.bool false) rfl (by simp [Cnd]) rfl rfl ?_
      refine DW.dead (.bool false) rfl (by simp [Cnd]) rfl rfl ?_
      refine DW.dead (.bool false) rfl (by simp [Cnd]) rfl rfl ?_
      refine DW.dead (.bool false) rfl (by simp [Cnd]) rfl rfl ?_
      refine DW.pickAnd rfl rfl rfl id rfl pAnd1 ?_
      refine DW.pickOr rfl rfl rfl ct rfl pOr0 ?_
      refine DW.nil (DW.fin [0, 1, 2, 7, 8, 10, 11, 87] [(0, _, _), (1, _, _), (2, _, _), (7, _, _), (8, _, _), (10, _, _), (11, _, _), (87, _, _)] rfl (fun w5 b5 => KW.then_ ?_))
      rw [decide_eq_true hwi]
      refine CW.cond rfl (fun hbd => ?_) (fun hgd => ?_)
      · exfalso
        simp [hxlen] at hbd
      refine CW.skip (KW.then_ (CW.seq (CW.seq (CW.region ?_))))
      refine TW.assign rfl rfl rfl ct ?_
      refine TW.nil (KW.pick [0, 1, 2, 7, 8, 10, 11, 12] [(0, _, _), (1, _, _), (2, _, _), (7, _, _), (8, _, _), (10, _, _), (11, _, _), (12, _, _)] rfl (KW.then_ ?_))
      refine CW.block ?_
      have hW5 := hW.step b5
      have hrx5 := hrx.below b5
      have hcx5 := (b5.cell (block_lt_of_cell hcx0)).trans hcx0
      refine CW.loopS (fun j : Nat => [(0, none, dv), (1, none, lv), (2, none, .int .i64 most), (7, none, .bool true), (8, none, .slice (some ad) ws.length cap), (10, none, .slice R (recsS l).length rcap), (11, none, .int .i64 ((0 : Nat) : Int)), (12, none, .int .i64 (j : Int))])
        (fun j W' => 1 ≤ j ∧ j ≤ x.length + 1 ∧ Below w5.heap.size w5 W') (fun j => x.length + 1 - j) 1 [0, 1, 2, 7, 8, 10, 11, 12] ⟨by omega, by omega, Below.refl _ _⟩ rfl ?_
      rintro j W6 ⟨hj1, hj2, hW6⟩
      have hcx6 : W6.cell? (ad.add (((0 : Nat) : Int).toNat * 1)) = some (.slice X x.length xcap) := (hW6.cell (block_lt_of_cell hcx5)).trans hcx5
      have hrx6 := hrx5.below hW6
      refine CW.seq (CW.seq (CW.region ?_))
      refine TW.move rfl rfl rfl ct ?_
      refine TW.move rfl rfl rfl ct ?_
      refine TW.move rfl rfl rfl ct ?_
      refine TW.indexAddr rfl rfl Try.underlying22 sz24 rfl ct rfl ct (fun _ => by (try dsimp only); omega) ?_
      refine TW.load rfl rfl one24 rfl ct (fun _ => hcx6) ?_
      refine TW.lenSlice rfl rfl Try.underlying24 rfl ct ?_
      refine TW.lss rfl rfl rfl ct rfl ct ?_
      refine TW.nil (KW.pick [0, 1, 2, 7, 8, 10, 11, 12, 94] [(0, _, _), (1, _, _), (2, _, _), (7, _, _), (8, _, _), (10, _, _), (11, _, _), (12, _, _), (94, _, _)] rfl (KW.then_ ?_))
      refine CW.condP rfl (fun hlt2 => ?_) (fun hge2 => ?_)
      · obtain ⟨z, hz, _⟩ := getx (l := x) (k := j) (by omega)
        obtain ⟨y', hy', _⟩ := getx (l := x) (k := j - 1) (by omega)
        obtain ⟨xd, rfl⟩ := hrx6.addr (by omega)
        have hcz : W6.cell? (xd.add (((j : Int) - 1).toNat * 1)) = some (.int .i64 y') := by
          rw [show ((j : Int) - 1) = ((j - 1 : Nat) : Int) by omega]
          exact hrx6.getI hy'
        have hlt' : y' < z := by
          have := List.pairwise_iff_getElem.1 hxi (j - 1) j (by omega) (by omega) (by omega)
          obtain ⟨_, e1⟩ := List.getElem?_eq_some_iff.1 hz
          obtain ⟨_, e2⟩ := List.getElem?_eq_some_iff.1 hy'
          rw [e1, e2] at this
          exact this
        refine CW.skip (KW.then_ (CW.seq (CW.block (CW.seq (CW.draw mixed (by kernel_rfl) ?_)))))
        refine DW.move rfl rfl rfl ct ?_
        refine DW.move rfl rfl rfl ct ?_
        refine DW.indexAddr rfl rfl Try.underlying22 sz24 rfl ct rfl ct (fun _ => by (try dsimp only); omega) ?_
        refine DW.load rfl rfl one24 rfl ct (fun _ => hcx6) ?_
        refine DW.move rfl rfl rfl ct ?_
        refine DW.sub rfl rfl rfl ct rfl ct (fun _ => by (try dsimp only); omega) ?_
        refine DW.indexAddr rfl rfl Try.underlying24 sz3 rfl ct rfl ct (fun _ => by (try dsimp only); omega) ?_
        refine DW.load rfl rfl one3 rfl ct (fun _ => hcz) ?_
        refine DW.move rfl rfl rfl ct ?_
        refine DW.move rfl rfl rfl ct ?_
        refine DW.indexAddr rfl rfl Try.underlying22 sz24 rfl ct rfl ct (fun _ => by (try dsimp only); omega) ?_
        refine DW.load rfl rfl one24 rfl ct (fun _ => hcx6) ?_
        refine DW.move rfl rfl rfl ct ?_
        refine DW.indexAddr rfl rfl Try.underlying24 sz3 rfl ct rfl ct (fun _ => by (try dsimp only); omega) ?_
        refine DW.load rfl rfl one3 rfl ct (fun _ => hrx6.getI hz) ?_
        refine DW.geq rfl rfl rfl ct rfl ct ?_
        refine DW.nil (DW.fin [0, 1, 2, 7, 8, 10, 11, 12, 112] [(0, _, _), (1, _, _), (2, _, _), (7, _, _), (8, _, _), (10, _, _), (11, _, _), (12, _, _), (112, _, _)] rfl (fun w7 b7 => KW.then_ ?_))
        refine CW.condP rfl (fun hg1 => ?_) (fun hg2 => ?_)
        · exfalso
          omega
        · refine CW.skip (KW.blockN (KW.then_ (CW.region ?_)))
          refine TW.move rfl rfl rfl ct ?_
          refine TW.add rfl rfl rfl ct rfl ct (fun _ => by (try dsimp only); omega) ?_
          refine TW.assign rfl rfl rfl ct ?_
          refine TW.nil (KW.pick [0, 1, 2, 7, 8, 10, 11, 12] [(0, _, _), (1, _, _), (2, _, _), (7, _, _), (8, _, _), (10, _, _), (11, _, _), (12, _, _)] rfl ?_)
          refine KW.round (j + 1) [0, 1, 2, 7, 8, 10, 11, 12] rfl ⟨by omega, by omega, hW6.step b7⟩ (by omega)
      · refine CW.exit (KW.thenX (KW.thenX (KW.blockX (KW.then_ (CW.seq (CW.region ?_))))))
        refine TW.move rfl rfl rfl ct ?_
        refine TW.move rfl rfl rfl ct ?_
        refine TW.move rfl rfl rfl ct ?_
        refine TW.move rfl rfl rfl ct ?_
        refine TW.indexAddr rfl rfl Try.underlying22 sz24 rfl ct rfl ct (fun _ => by (try dsimp only); omega) ?_
        refine TW.load rfl rfl one24 rfl ct (fun _ => hcx6) ?_
        have hb46 := hW5.step hW6
        refine TW.call0 (cap := []) rfl rfl en16 rfl (Args.cons rfl ct (Args.cons rfl ct Args.nil)) (rest_c (se_step hl4' hb46) hrx6 (by omega) (fun e he => by have := hsm.2 e he; omega)) ?_
        rintro rv7 w7 ⟨c7, h7⟩
        refine TW.call0 (cap := []) rfl rfl en22 rfl (Args.cons rfl ct (Args.cons rfl ct (Args.cons rfl ct Args.nil))) (fit_c (sd_step (sd_step hd4' hb46) c7) h7) ?_
        rintro y8 w8 ⟨c8, tv, rfl⟩
        rw [dec_congr (hf.wf.rest x), dec_pos q3]
        refine TW.move rfl rfl rfl ct ?_
        refine TW.extract rfl rfl rfl rfl ct ?_
        refine TW.extract rfl rfl rfl rfl ct ?_
        refine TW.assign rfl rfl rfl ct ?_
        refine TW.assign rfl rfl rfl ct ?_
        refine TW.nil (KW.pick [0, 1, 2, 7, 8, 10, 11, 12, 14] [(0, _, _), (1, _, _), (2, _, _), (7, _, _), (8, _, _), (10, _, _), (11, _, _), (12, _, _), (14, _, _)] rfl (KW.then_ ?_))
        refine CW.seq (CW.region ?_)
        refine TW.move rfl rfl rfl ct ?_
        refine TW.not rfl rfl rfl ct ?_
        refine TW.nil (KW.pick [0, 1, 2, 7, 8, 10, 11, 12, 14, 125] [(0, _, _), (1, _, _), (2, _, _), (7, _, _), (8, _, _), (10, _, _), (11, _, _), (12, _, _), (14, _, _), (125, _, _)] rfl (KW.then_ ?_))
        refine CW.cond rfl (fun hg1 => ?_) (fun hg2 => ?_)
        · exact absurd hg1 (by simp)
        · refine CW.skip (KW.blockN (KW.then_ (CW.region ?_)))
          refine TW.move rfl rfl rfl ct ?_
          refine TW.add rfl rfl rfl ct rfl ct (fun _ => by (try dsimp only); omega) ?_
          refine TW.assign rfl rfl rfl ct ?_
          refine TW.nil (KW.pick [0, 1, 2, 7, 8, 10, 11, 12, 14] [(0, _, _), (1, _, _), (2, _, _), (7, _, _), (8, _, _), (10, _, _), (11, _, _), (12, _, _), (14, _, _)] rfl ?_)
          refine KW.round (0 + 1) [0, 1, 2, 7, 8, 10, 11] rfl ⟨by omega, (hb46.step c7).step c8⟩ (by omega)
    · obtain ⟨y, hy, hym⟩ := getx (l := ws) (k := k - 1) (by omega)
      obtain ⟨yv, hcy0, hry⟩ := (hw4.below hW).row hy
      have hcy : W.cell? (ad.add (((k : Int) - 1).toNat * 1)) = some yv := by
        rw [show ((k : Int) - 1) = ((k - 1 : Nat) : Int) by omega]
        exact hcy0
      have hyx : lexS y x = true := by
        have := List.pairwise_iff_getElem.1 hlex (k - 1) k (by omega) (by omega) (by omega)
        obtain ⟨_, e1⟩ := List.getElem?_eq_some_iff.1 hx
        obtain ⟨_, e2⟩ := List.getElem?_eq_some_iff.1 hy
        rw [e1, e2] at this
        exact this
      refine CW.skip (KW.then_ (CW.seq (CW.block (CW.seq (CW.seq (CW.draw mixed (by kernel_rfl) ?_))))))
      refine DW.move rfl rfl rfl ct ?_
      refine DW.move rfl rfl rfl ct ?_
      refine DW.indexAddr rfl rfl Try.underlying22 sz24 rfl ct rfl ct (fun _ => by (try dsimp only); omega) ?_
      refine DW.load rfl rfl one24 rfl ct (fun _ => hcx) ?_
      refine DW.lenSlice rfl rfl Try.underlying24 rfl ct ?_
      refine DW.move rfl rfl rfl ct ?_
      refine DW.move rfl rfl rfl ct ?_
      refine DW.lenSlice rfl rfl Try.underlying24 rfl ct ?_
      refine DW.minI rfl rfl rfl ct rfl ct ?_
      refine DW.neq rfl rfl rfl ct rfl ct ?_
      refine DW.move rfl rfl rfl ct ?_
      refine DW.move rfl rfl rfl ct ?_
      refine DW.move rfl rfl rfl ct ?_
      refine DW.indexAddr rfl rfl Try.underlying22 sz24 rfl id rfl id (fun h => by (try dsimp only); first | omega | (simp [Cnd] at h; omega)) ?_
      refine DW.load rfl rfl one24 rfl id (fun _ => hcx) ?_
      refine DW.move rfl rfl rfl ct ?_
      refine DW.call (.ex (.bool (decide (∀ z ∈ x, z ∈ recsS l)))) trivial rfl rfl en20 rfl ct (DArgs.cons rfl id (DArgs.cons rfl id DArgs.nil)) (fun _ w' hb' => (rwithin_c (hrx.below hb') (hrW.below hb')).mono fun u w'' ⟨h1, h2⟩ => ⟨h1, h2⟩) ?_
      refine DW.not rfl rfl rfl id ?_
      refine DW.pickOr rfl rfl rfl ct rfl pOr0 ?_
      refine DW.move rfl rfl rfl ct ?_
      refine DW.move rfl rfl rfl ct ?_
      refine DW.gtr rfl rfl rfl id rfl ct ?_
      refine DW.move rfl rfl rfl id ?_
      refine DW.move rfl rfl rfl ct ?_
      refine DW.move rfl rfl rfl ct ?_
      refine DW.sub rfl rfl rfl id rfl ct (fun h => by (try dsimp only); first | omega | (simp [Cnd] at h; omega)) ?_
      refine DW.indexAddr rfl rfl Try.underlying22 sz24 rfl id rfl id (fun h => by (try dsimp only); first | omega | (simp [Cnd] at h; omega)) ?_
      refine DW.load rfl rfl one24 rfl id (fun _ => hcy) ?_
      refine DW.move rfl rfl rfl ct ?_
      refine DW.move rfl rfl rfl ct ?_
      refine DW.indexAddr rfl rfl Try.underlying22 sz24 rfl id rfl id (fun h => by (try dsimp only); first | omega | (simp [Cnd] at h; omega)) ?_
      refine DW.load rfl rfl one24 rfl id (fun _ => hcx) ?_
      refine DW.call (.ex (.bool (lexS y x))) trivial rfl rfl en21 rfl ct (DArgs.cons rfl id (DArgs.cons rfl id DArgs.nil)) (fun _ w' hb' => (less_c (hry.below hb') (hrx.below hb')).mono fun u w'' ⟨h1, h2⟩ => ⟨h1, h2⟩) ?_
      refine DW.not rfl rfl rfl id ?_
      refine DW.pickAnd rfl rfl rfl id rfl pAnd1 ?_
      refine DW.pickOr rfl rfl rfl ct rfl pOr0 ?_
      refine DW.nil (DW.fin [0, 1, 2, 7, 8, 10, 11, 87] [(0, _, _), (1, _, _), (2, _, _), (7, _, _), (8, _, _), (10, _, _), (11, _, _), (87, _, _)] rfl (fun w5 b5 => KW.then_ ?_))
      rw [decide_eq_true hwi, hyx]
      refine CW.cond rfl (fun hbd => ?_) (fun hgd => ?_)
      · exfalso
        simp [hxlen] at hbd
      refine CW.skip (KW.then_ (CW.seq (CW.seq (CW.region ?_))))
      refine TW.assign rfl rfl rfl ct ?_
      refine TW.nil (KW.pick [0, 1, 2, 7, 8, 10, 11, 12] [(0, _, _), (1, _, _), (2, _, _), (7, _, _), (8, _, _), (10, _, _), (11, _, _), (12, _, _)] rfl (KW.then_ ?_))
      refine CW.block ?_
      have hW5 := hW.step b5
      have hrx5 := hrx.below b5
      have hcx5 := (b5.cell (block_lt_of_cell hcx0)).trans hcx0
      refine CW.loopS (fun j : Nat => [(0, none, dv), (1, none, lv), (2, none, .int .i64 most), (7, none, .bool true), (8, none, .slice (some ad) ws.length cap), (10, none, .slice R (recsS l).length rcap), (11, none, .int .i64 (k : Int)), (12, none, .int .i64 (j : Int))])
        (fun j W' => 1 ≤ j ∧ j ≤ x.length + 1 ∧ Below w5.heap.size w5 W') (fun j => x.length + 1 - j) 1 [0, 1, 2, 7, 8, 10, 11, 12] ⟨by omega, by omega, Below.refl _ _⟩ rfl ?_
      rintro j W6 ⟨hj1, hj2, hW6⟩
      have hcx6 : W6.cell? (ad.add ((k : Int).toNat * 1)) = some (.slice X x.length xcap) := (hW6.cell (block_lt_of_cell hcx5)).trans hcx5
      have hrx6 := hrx5.below hW6
      refine CW.seq (CW.seq (CW.region ?_))
      refine TW.move rfl rfl rfl ct ?_
      refine TW.move rfl rfl rfl ct ?_
      refine TW.move rfl rfl rfl ct ?_
      refine TW.indexAddr rfl rfl Try.underlying22 sz24 rfl ct rfl ct (fun _ => by (try dsimp only); omega) ?_
      refine TW.load rfl rfl one24 rfl ct (fun _ => hcx6) ?_
      refine TW.lenSlice rfl rfl Try.underlying24 rfl ct ?_
      refine TW.lss rfl rfl rfl ct rfl ct ?_
      refine TW.nil (KW.pick [0, 1, 2, 7, 8, 10, 11, 12, 94] [(0, _, _), (1, _, _), (2, _, _), (7, _, _), (8, _, _), (10, _, _), (11, _, _), (12, _, _), (94, _, _)] rfl (KW.then_ ?_))
      refine CW.condP rfl (fun hlt2 => ?_) (fun hge2 => ?_)
      · obtain ⟨z, hz, _⟩ := getx (l := x) (k := j) (by omega)
        obtain ⟨y', hy', _⟩ := getx (l := x) (k := j - 1) (by omega)
        obtain ⟨xd, rfl⟩ := hrx6.addr (by omega)
        have hcz : W6.cell? (xd.add (((j : Int) - 1).toNat * 1)) = some (.int .i64 y') := by
          rw [show ((j : Int) - 1) = ((j - 1 : Nat) : Int) by omega]
          exact hrx6.getI hy'
        have hlt' : y' < z := by
          have := List.pairwise_iff_getElem.1 hxi (j - 1) j (by omega) (by omega) (by omega)
          obtain ⟨_, e1⟩ := List.getElem?_eq_some_iff.1 hz
          obtain ⟨_, e2⟩ := List.getElem?_eq_some_iff.1 hy'
          rw [e1, e2] at this
          exact this
        refine CW.skip (KW.then_ (CW.seq (CW.block (CW.seq (CW.draw mixed (by kernel_rfl) ?_)))))
        refine DW.move rfl rfl rfl ct ?_
        refine DW.move rfl rfl rfl ct ?_
        refine DW.indexAddr rfl rfl Try.underlying22 sz24 rfl ct rfl ct (fun _ => by (try dsimp only); omega) ?_
        refine DW.load rfl rfl one24 rfl ct (fun _ => hcx6) ?_
        refine DW.move rfl rfl rfl ct ?_
        refine DW.sub rfl rfl rfl ct rfl ct (fun _ => by (try dsimp only); omega) ?_
        refine DW.indexAddr rfl rfl Try.underlying24 sz3 rfl ct rfl ct (fun _ => by (try dsimp only); omega) ?_
        refine DW.load rfl rfl one3 rfl ct (fun _ => hcz) ?_
        refine DW.move rfl rfl rfl ct ?_
        refine DW.move rfl rfl rfl ct ?_
        refine DW.indexAddr rfl rfl Try.underlying22 sz24 rfl ct rfl ct (fun _ => by (try dsimp only); omega) ?_
        refine DW.load rfl rfl one24 rfl ct (fun _ => hcx6) ?_
        refine DW.move rfl rfl rfl ct ?_
        refine DW.indexAddr rfl rfl Try.underlying24 sz3 rfl ct rfl ct (fun _ => by (try dsimp only); omega) ?_
        refine DW.load rfl rfl one3 rfl ct (fun _ => hrx6.getI hz) ?_
        refine DW.geq rfl rfl rfl ct rfl ct ?_
        refine DW.nil (DW.fin [0, 1, 2, 7, 8, 10, 11, 12, 112] [(0, _, _), (1, _, _), (2, _, _), (7, _, _), (8, _, _), (10, _, _), (11, _, _), (12, _, _), (112, _, _)] rfl (fun w7 b7 => KW.then_ ?_))
        refine CW.condP rfl (fun hg1 => ?_) (fun hg2 => ?_)
        · exfalso
          omega
        · refine CW.skip (KW.blockN (KW.then_ (CW.region ?_)))
          refine TW.move rfl rfl rfl ct ?_
          refine TW.add rfl rfl rfl ct rfl ct (fun _ => by (try dsimp only); omega) ?_
          refine TW.assign rfl rfl rfl ct ?_
          refine TW.nil (KW.pick [0, 1, 2, 7, 8, 10, 11, 12] [(0, _, _), (1, _, _), (2, _, _), (7, _, _), (8, _, _), (10, _, _), (11, _, _), (12, _, _)] rfl ?_)
          refine KW.round (j + 1) [0, 1, 2, 7, 8, 10, 11, 12] rfl ⟨by omega, by omega, hW6.step b7⟩ (by omega)
      · refine CW.exit (KW.thenX (KW.thenX (KW.blockX (KW.then_ (CW.seq (CW.region ?_))))))
        refine TW.move rfl rfl rfl ct ?_
        refine TW.move rfl rfl rfl ct ?_
        refine TW.move rfl rfl rfl ct ?_
        refine TW.move rfl rfl rfl ct ?_
        refine TW.indexAddr rfl rfl Try.underlying22 sz24 rfl ct rfl ct (fun _ => by (try dsimp only); omega) ?_
        refine TW.load rfl rfl one24 rfl ct (fun _ => hcx6) ?_
        have hb46 := hW5.step hW6
        refine TW.call0 (cap := []) rfl rfl en16 rfl (Args.cons rfl ct (Args.cons rfl ct Args.nil)) (rest_c (se_step hl4' hb46) hrx6 (by omega) (fun e he => by have := hsm.2 e he; omega)) ?_
        rintro rv7 w7 ⟨c7, h7⟩
        refine TW.call0 (cap := []) rfl rfl en22 rfl (Args.cons rfl ct (Args.cons rfl ct (Args.cons rfl ct Args.nil))) (fit_c (sd_step (sd_step hd4' hb46) c7) h7) ?_
        rintro y8 w8 ⟨c8, tv, rfl⟩
        rw [dec_congr (hf.wf.rest x), dec_pos q3]
        refine TW.move rfl rfl rfl ct ?_
        refine TW.extract rfl rfl rfl rfl ct ?_
        refine TW.extract rfl rfl rfl rfl ct ?_
        refine TW.assign rfl rfl rfl ct ?_
        refine TW.assign rfl rfl rfl ct ?_
        refine TW.nil (KW.pick [0, 1, 2, 7, 8, 10, 11, 12, 14] [(0, _, _), (1, _, _), (2, _, _), (7, _, _), (8, _, _), (10, _, _), (11, _, _), (12, _, _), (14, _, _)] rfl (KW.then_ ?_))
        refine CW.seq (CW.region ?_)
        refine TW.move rfl rfl rfl ct ?_
        refine TW.not rfl rfl rfl ct ?_
        refine TW.nil (KW.pick [0, 1, 2, 7, 8, 10, 11, 12, 14, 125] [(0, _, _), (1, _, _), (2, _, _), (7, _, _), (8, _, _), (10, _, _), (11, _, _), (12, _, _), (14, _, _), (125, _, _)] rfl (KW.then_ ?_))
        refine CW.cond rfl (fun hg1 => ?_) (fun hg2 => ?_)
        · exact absurd hg1 (by simp)
        · refine CW.skip (KW.blockN (KW.then_ (CW.region ?_)))
          refine TW.move rfl rfl rfl ct ?_
          refine TW.add rfl rfl rfl ct rfl ct (fun _ => by (try dsimp only); omega) ?_
          refine TW.assign rfl rfl rfl ct ?_
          refine TW.nil (KW.pick [0, 1, 2, 7, 8, 10, 11, 12, 14] [(0, _, _), (1, _, _), (2, _, _), (7, _, _), (8, _, _), (10, _, _), (11, _, _), (12, _, _), (14, _, _)] rfl ?_)
          refine KW.round (k + 1) [0, 1, 2, 7, 8, 10, 11] rfl ⟨by omega, (hb46.step c7).step c8⟩ (by omega)
  · refine CW.exit (KW.thenX (KW.thenX (KW.blockX (KW.then_ (CW.seq (CW.region ?_))))))
    refine TW.move rfl rfl rfl ct ?_
    refine TW.assign rfl rfl rfl ct ?_
    refine TW.nil (KW.pick [0, 1, 2, 6, 7, 8, 10, 11] [(0, _, _), (1, _, _), (2, _, _), (6, _, _), (7, _, _), (8, _, _), (10, _, _), (11, _, _)] rfl (KW.then_ ?_))
    refine CW.ret ?_
    refine ret1 Try.results4 rfl (⟨b4.step hW, rfl⟩)
end Go.Proofs.Ytmdjkgkgpkaliaa
