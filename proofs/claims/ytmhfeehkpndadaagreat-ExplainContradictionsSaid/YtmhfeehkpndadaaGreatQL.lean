/- Texts joined: Ei U8 Ej. -/
import Derived.Test.YtmhfeehkpndadaaGreatQI
import Derived.Test.YtmhfeehkpndadaaGreatQK
import Derived.Test.YtmhfeehkpndadaaGreatQH
set_option linter.unusedSimpArgs false
set_option linter.unusedVariables false

namespace Go.Proofs.YtmhfeehkpndadaaGreat
open Go.PF Go.RowKit Go.Ord

theorem rexplains_c {w : World} {dv lv sv : Value} {d : Dist} {l : List Ev} {S : List Int} {F : Nat → Prop} (hd : SD w dv d) (hl : SE w lv l) (hS : SL intT F w sv S) (hsm : l.length ≤ 1000000) :
    Gives Tryz.prog 38 #[dv, lv, sv] w fun u w' => Below w.heap.size w w' ∧ u = .bool (dec (Fitted d (restS l S))) := by
  refine gives_of (vs := [dv, lv, sv]) [(0, none, _), (1, none, _), (2, none, _)] Tryz.func38 rfl Tryz.ntmps38 rfl rfl ?_
  refine CW.seq (CW.region ?_)
  refine TW.assign rfl rfl rfl ct ?_
  refine TW.nil (KW.pick [0, 1, 2, 6] [(0, _, _), (1, _, _), (2, _, _), (6, _, _)] rfl (KW.then_ ?_))
  refine CW.seq (CW.region ?_)
  refine TW.move rfl rfl rfl ct ?_
  refine TW.move rfl rfl rfl ct ?_
  refine TW.move rfl rfl rfl ct ?_
  refine TW.call0 (cap := []) rfl rfl en66 rfl (Args.cons rfl ct (Args.cons rfl ct Args.nil)) (rrest_c hl hS hsm) ?_
  rintro rv w1 ⟨c1, h1⟩
  refine TW.call0 (cap := []) rfl rfl en65 rfl (Args.cons rfl ct (Args.cons rfl ct Args.nil)) (rposs_c (sd_step hd c1) h1) ?_
  rintro y w2 ⟨c2, rfl⟩
  refine TW.assign rfl rfl rfl ct ?_
  refine TW.nil (KW.pick [0, 1, 2, 6] [(0, _, _), (1, _, _), (2, _, _), (6, _, _)] rfl (KW.then_ ?_))
  refine CW.ret ?_
  refine ret1 Tryz.results38 rfl (⟨c1.step c2, rfl⟩)

theorem allS_split {l : List Int} {k : Nat} (hk : k ≤ l.length) : ∃ suf, allS l = ((List.range k).flatMap fun k => setsS l k) ++ setsS l k ++ suf := by
  obtain ⟨suf, h⟩ := someS_pre l (k := k) (i := 2 ^ l.length) hk
  refine ⟨suf, ?_⟩
  rw [h, someS_end, List.range_succ, List.flatMap_append]
  simp

set_option maxRecDepth 20000 in
set_option maxHeartbeats 1000000 in
theorem rwithdraw_c {w : World} {dv lv : Value} {d : Dist} {l : List Ev} (hd : SD w dv d) (hl : SE w lv l) (hsm : l.length ≤ 1000) (hne : ∀ e ∈ l, e.needs.length ≤ 1000) (hrec : (recsS l).length ≤ 7 ∨ 14 < (recsS l).length) :
    Gives Tryz.prog 14 #[dv, lv] w fun x w' => Below w.heap.size w w' ∧ ∃ v, x = .tuple #[v, .int .i64 (withE d l)] ∧ SI w' v (withS d l) := by
  refine gives_of (vs := [dv, lv]) [(0, none, _), (1, none, _)] Tryz.func14 rfl Tryz.ntmps14 rfl rfl ?_
  refine CW.seq (CW.region ?_)
  refine TW.assign rfl rfl rfl ct ?_
  refine TW.assign rfl rfl rfl ct ?_
  refine TW.nil (KW.pick [0, 1, 4, 5] [(0, _, _), (1, _, _), (4, _, _), (5, _, _)] rfl (KW.then_ ?_))
  refine CW.seq (CW.seq (CW.region ?_))
  refine TW.move rfl rfl rfl ct ?_
  refine TW.move rfl rfl rfl ct ?_
  refine TW.call0 (cap := []) rfl rfl en36 rfl (Args.cons rfl ct (Args.cons rfl ct Args.nil)) (rvalid28_c hd hl) ?_
  rintro y w1 ⟨c1, rfl⟩
  have hd1 := sd_step hd c1
  have hl1 := se_step hl c1
  refine TW.not rfl rfl rfl ct ?_
  refine TW.nil (KW.pick [0, 1, 4, 5, 13] [(0, _, _), (1, _, _), (4, _, _), (5, _, _), (13, _, _)] rfl (KW.then_ ?_))
  refine CW.cond rfl (fun hbad => ?_) (fun hgood => ?_)
  · refine CW.seq (CW.region ?_)
    refine TW.assign rfl rfl rfl ct ?_
    refine TW.assign rfl rfl rfl ct ?_
    refine TW.nil (KW.pick [0, 1, 4, 5] [(0, _, _), (1, _, _), (4, _, _), (5, _, _)] rfl (KW.then_ ?_))
    refine CW.ret (KW.thenR ?_)
    have hw : ¬ WfP d l := ndec hbad
    refine ret2 Tryz.results14 rfl rfl (⟨c1, .slice none 0 0, ?_, ?_⟩)
    · unfold withE
      rw [if_neg (by rw [dec_neg hw]; simp)]
    · unfold withS
      rw [if_neg (by rw [dec_neg hw]; simp)]
      exact SL.nil _ _ _
  have hw : WfP d l := ndec' hgood
  refine CW.skip (KW.then_ (CW.seq (CW.region ?_)))
  refine TW.move rfl rfl rfl ct ?_
  refine TW.call0 (cap := []) rfl rfl en20 rfl (Args.cons rfl ct Args.nil) (rrecords_c hl1 hsm hne) ?_
  rintro rv w2 ⟨c2, hrv⟩
  have b2 := c1.step c2
  have hd2 := sd_step hd1 c2
  have hl2 := se_step hl1 c2
  have hr2 : SI w2 rv (recsS l) := hrv.now intT_now
  obtain ⟨R, rcap, rfl, _⟩ := hr2.form
  refine TW.assign rfl rfl rfl ct ?_
  refine TW.nil (KW.pick [0, 1, 4, 5, 6] [(0, _, _), (1, _, _), (4, _, _), (5, _, _), (6, _, _)] rfl (KW.then_ ?_))
  refine CW.seq (CW.seq (CW.region ?_))
  refine TW.move rfl rfl rfl ct ?_
  refine TW.lenSlice rfl rfl Tryz.underlying24 rfl ct ?_
  refine TW.gtr rfl rfl rfl ct rfl ct ?_
  refine TW.nil (KW.pick [0, 1, 4, 5, 6, 18] [(0, _, _), (1, _, _), (4, _, _), (5, _, _), (6, _, _), (18, _, _)] rfl (KW.then_ ?_))
  refine CW.condP rfl (fun hgt => ?_) (fun hle => ?_)
  · refine CW.seq (CW.region ?_)
    refine TW.assign rfl rfl rfl ct ?_
    refine TW.assign rfl rfl rfl ct ?_
    refine TW.nil (KW.pick [0, 1, 4, 5, 6] [(0, _, _), (1, _, _), (4, _, _), (5, _, _), (6, _, _)] rfl (KW.then_ ?_))
    refine CW.ret (KW.thenR ?_)
    have h14 : ¬ (recsS l).length ≤ 14 := by omega
    refine ret2 Tryz.results14 rfl rfl (⟨b2, .slice none 0 0, ?_, ?_⟩)
    · unfold withE
      rw [if_pos (dec_pos hw), if_neg h14]
    · unfold withS
      rw [if_neg (fun h => h14 h.2)]
      exact SL.nil _ _ _
  have h7 : (recsS l).length ≤ 7 := by omega
  have hL : LOK d l := ⟨hw, by omega⟩
  refine CW.skip (KW.then_ (CW.seq (CW.seq (CW.region ?_))))
  refine TW.assign rfl rfl rfl ct ?_
  refine TW.nil (KW.pick [0, 1, 4, 5, 6, 7] [(0, _, _), (1, _, _), (4, _, _), (5, _, _), (6, _, _), (7, _, _)] rfl (KW.then_ ?_))
  refine CW.block ?_
  refine CW.loopS (fun k : Nat => [(0, none, dv), (1, none, lv), (6, none, .slice R (recsS l).length rcap), (7, none, .int .i64 (k : Int))])
    (fun k W => k ≤ (recsS l).length + 1 ∧ Below w2.heap.size w2 W ∧ ∀ S ∈ (List.range k).flatMap (fun k => setsS (recsS l) k), ¬ Poss d (restS l S)) (fun k => (recsS l).length + 1 - k) 0 [0, 1, 6, 7] ⟨by omega, Below.refl _ _, fun S hS => by simp at hS⟩ rfl ?_
  rintro k W ⟨hk, hB, hno⟩
  refine CW.seq (CW.seq (CW.region ?_))
  refine TW.move rfl rfl rfl ct ?_
  refine TW.move rfl rfl rfl ct ?_
  refine TW.lenSlice rfl rfl Tryz.underlying24 rfl ct ?_
  refine TW.leq rfl rfl rfl ct rfl ct ?_
  refine TW.nil (KW.pick [0, 1, 6, 7, 22] [(0, _, _), (1, _, _), (6, _, _), (7, _, _), (22, _, _)] rfl (KW.then_ ?_))
  refine CW.condP rfl (fun hlt => ?_) (fun hge => ?_)
  · have hdW := sd_step hd2 hB
    have hlW := se_step hl2 hB
    have hrW := si_step hr2 hB
    refine CW.skip (KW.then_ (CW.seq (CW.block (CW.seq (CW.region ?_)))))
    refine TW.move rfl rfl rfl ct ?_
    refine TW.move rfl rfl rfl ct ?_
    refine TW.call0 (cap := []) rfl rfl en37 rfl (Args.cons rfl ct (Args.cons rfl ct Args.nil)) (rsets_c k hrW (by omega) (by omega)) ?_
    rintro y w3 ⟨c3, hs3⟩
    have hB3 := hB.step c3
    have hd3 := sd_step hdW c3
    have hl3 := se_step hlW c3
    obtain ⟨X, xcap, rfl, _⟩ := hs3.form
    have hxmax := hs3.len.2.2
    refine TW.assign rfl rfl rfl ct ?_
    refine TW.nil (KW.pick [0, 1, 6, 7, 8] [(0, _, _), (1, _, _), (6, _, _), (7, _, _), (8, _, _)] rfl (KW.then_ ?_))
    refine CW.seq (CW.region ?_)
    refine TW.assign rfl rfl rfl ct ?_
    refine TW.nil (KW.pick [0, 1, 6, 7, 8, 9] [(0, _, _), (1, _, _), (6, _, _), (7, _, _), (8, _, _), (9, _, _)] rfl (KW.then_ ?_))
    refine CW.block ?_
    refine CW.loopS (fun i : Nat => [(0, none, dv), (1, none, lv), (6, none, .slice R (recsS l).length rcap), (7, none, .int .i64 (k : Int)), (8, none, .slice X (setsS (recsS l) k).length xcap), (9, none, .int .i64 (i : Int))])
      (fun i W' => i ≤ (setsS (recsS l) k).length ∧ Below w3.heap.size w3 W' ∧ ∀ S ∈ (setsS (recsS l) k).take i, ¬ Poss d (restS l S)) (fun i => (setsS (recsS l) k).length - i) 0 [0, 1, 6, 7, 8, 9] ⟨by omega, Below.refl _ _, fun S hS => by simp at hS⟩ rfl ?_
    rintro i W' ⟨hi, hB', hno'⟩
    refine CW.seq (CW.seq (CW.region ?_))
    refine TW.move rfl rfl rfl ct ?_
    refine TW.move rfl rfl rfl ct ?_
    refine TW.lenSlice rfl rfl Tryz.underlying22 rfl ct ?_
    refine TW.lss rfl rfl rfl ct rfl ct ?_
    refine TW.nil (KW.pick [0, 1, 6, 7, 8, 9, 31] [(0, _, _), (1, _, _), (6, _, _), (7, _, _), (8, _, _), (9, _, _), (31, _, _)] rfl (KW.then_ ?_))
    refine CW.condP rfl (fun hlt2 => ?_) (fun hge2 => ?_)
    · obtain ⟨x, hx, hxm⟩ := getx (l := setsS (recsS l) k) (k := i) (by omega)
      obtain ⟨ad, rfl⟩ := hs3.addr (by omega)
      obtain ⟨xv, hcell, hrow⟩ := (hs3.below hB').row hx
      have hd4 := sd_step hd3 hB'
      have hl4 := se_step hl3 hB'
      refine CW.skip (KW.then_ (CW.seq (CW.block (CW.seq (CW.region ?_)))))
      refine TW.move rfl rfl rfl ct ?_
      refine TW.move rfl rfl rfl ct ?_
      refine TW.move rfl rfl rfl ct ?_
      refine TW.move rfl rfl rfl ct ?_
      refine TW.indexAddr rfl rfl Tryz.underlying22 sz24 rfl ct rfl ct (fun _ => by (try dsimp only); omega) ?_
      refine TW.load rfl rfl one24 rfl ct (fun _ => hcell) ?_
      refine TW.call0 (cap := []) rfl rfl en38 rfl (Args.cons rfl ct (Args.cons rfl ct (Args.cons rfl ct Args.nil))) (rexplains_c hd4 hl4 hrow (by omega)) ?_
      rintro y w5 ⟨c5, rfl⟩
      rw [dec_congr (hw.rest x)]
      refine TW.nil (KW.pick [0, 1, 6, 7, 8, 9, 40] [(0, _, _), (1, _, _), (6, _, _), (7, _, _), (8, _, _), (9, _, _), (40, _, _)] rfl (KW.then_ ?_))
      refine CW.cond rfl (fun hyes => ?_) (fun hnot => ?_)
      · have hp : Poss d (restS l x) := dec_iff.1 hyes
        have hrow5 := hrow.below c5
        have hcell5 := (c5.cell (block_lt_of_cell hcell)).trans hcell
        obtain ⟨suf, hsuf⟩ := allS_split (l := recsS l) (k := k) (by omega)
        have hxl := (List.getElem?_eq_some_iff.1 hx)
        obtain ⟨hil, hie⟩ := hxl
        have hcut : setsS (recsS l) k = (setsS (recsS l) k).take i ++ x :: (setsS (recsS l) k).drop (i + 1) := by
          rw [← hie, ← List.drop_eq_getElem_cons hil, List.take_append_drop]
        have hfirst : firstS d l = some x := by
          unfold firstS
          refine find_pre (pre := ((List.range k).flatMap fun k => setsS (recsS l) k) ++ (setsS (recsS l) k).take i) (suf := (setsS (recsS l) k).drop (i + 1) ++ suf) ?_ (fun z hz => ?_) (dec_pos hp)
          · rw [hsuf]
            conv => lhs; rw [hcut]
            simp
          · rcases List.mem_append.1 hz with h | h
            · exact dec_neg (hno z h)
            · exact dec_neg (hno' z h)
        refine CW.seq (CW.region ?_)
        refine TW.move rfl rfl rfl ct ?_
        refine TW.move rfl rfl rfl ct ?_
        refine TW.indexAddr rfl rfl Tryz.underlying22 sz24 rfl ct rfl ct (fun _ => by (try dsimp only); omega) ?_
        refine TW.load rfl rfl one24 rfl ct (fun _ => hcell5) ?_
        refine TW.assign rfl rfl rfl ct ?_
        refine TW.assign rfl rfl rfl ct ?_
        refine TW.nil (KW.pick [0, 1, 4, 5, 6, 7, 8, 9] [(0, _, _), (1, _, _), (4, _, _), (5, _, _), (6, _, _), (7, _, _), (8, _, _), (9, _, _)] rfl (KW.then_ ?_))
        refine CW.ret (KW.blockR (KW.thenR (KW.thenR (KW.blockR (KW.blockR (KW.thenR (KW.thenR (KW.blockR (KW.thenR ?_)))))))))
        refine ret2 Tryz.results14 rfl rfl (⟨((b2.step hB3).step hB').step c5, xv, ?_, ?_⟩)
        · rw [hL.err, hfirst]
        · rw [hL.set, hfirst]
          exact hrow5.now intT_now
      · refine CW.skip (KW.blockN (KW.then_ (CW.region ?_)))
        refine TW.move rfl rfl rfl ct ?_
        refine TW.add rfl rfl rfl ct rfl ct (fun _ => by (try dsimp only); omega) ?_
        refine TW.assign rfl rfl rfl ct ?_
        refine TW.nil (KW.pick [0, 1, 6, 7, 8, 9] [(0, _, _), (1, _, _), (6, _, _), (7, _, _), (8, _, _), (9, _, _)] rfl ?_)
        refine KW.round (i + 1) [0, 1, 6, 7, 8, 9] rfl ⟨by omega, hB'.step c5, fun S hS => ?_⟩ (by omega)
        rw [List.take_add_one, hx] at hS
        rcases List.mem_append.1 hS with h | h
        · exact hno' S h
        · simp at h
          subst h
          exact fun hp => by rw [dec_pos hp] at hnot; cases hnot
    · have hie : i = (setsS (recsS l) k).length := by omega
      subst hie
      rw [List.take_length] at hno'
      refine CW.exit (KW.thenX (KW.thenX (KW.blockX (KW.blockN (KW.then_ (CW.region ?_))))))
      refine TW.move rfl rfl rfl ct ?_
      refine TW.add rfl rfl rfl ct rfl ct (fun _ => by (try dsimp only); omega) ?_
      refine TW.assign rfl rfl rfl ct ?_
      refine TW.nil (KW.pick [0, 1, 6, 7, 8, 9] [(0, _, _), (1, _, _), (6, _, _), (7, _, _), (8, _, _), (9, _, _)] rfl ?_)
      refine KW.round (k + 1) [0, 1, 6, 7] rfl ⟨by omega, hB3.step hB', fun S hS => ?_⟩ (by omega)
      rw [List.range_succ, List.flatMap_append] at hS
      rcases List.mem_append.1 hS with h | h
      · exact hno S h
      · exact hno' S (by simpa using h)
  · have hke : k = (recsS l).length + 1 := by omega
    subst hke
    have hnone : firstS d l = none := by
      unfold firstS
      rw [List.find?_eq_none]
      intro S hS
      rw [dec_neg (hno S hS)]
      simp
    refine CW.exit (KW.thenX (KW.thenX (KW.blockX (KW.then_ (CW.seq (CW.region ?_))))))
    refine TW.assign rfl rfl rfl ct ?_
    refine TW.assign rfl rfl rfl ct ?_
    refine TW.nil (KW.pick [0, 1, 4, 5, 6, 7] [(0, _, _), (1, _, _), (4, _, _), (5, _, _), (6, _, _), (7, _, _)] rfl (KW.then_ ?_))
    refine CW.ret ?_
    refine ret2 Tryz.results14 rfl rfl (⟨b2.step hB, .slice none 0 0, by rw [hL.err, hnone], by rw [hL.set, hnone]; exact SL.nil _ _ _⟩)

set_option maxRecDepth 20000 in
set_option maxHeartbeats 1000000 in
theorem rset_c {w : World} {lv sv : Value} {l : List Ev} {S : List Int} {F : Nat → Prop} (hl : SE w lv l) (hS : SL intT F w sv S) (hsm : l.length ≤ 1000) (hne : ∀ e ∈ l, e.needs.length ≤ 1000) :
    Gives Tryz.prog 22 #[lv, sv] w fun u w' => Below w.heap.size w w' ∧ u = .bool (dec (Inc S ∧ ∀ x ∈ S, x ∈ recsS l)) := by
  obtain ⟨C, scap, rfl, _⟩ := hS.form
  have hsmax := hS.len.2.2
  refine gives_of (vs := [lv, .slice C S.length scap]) [(0, none, _), (1, none, _)] Tryz.func22 rfl Tryz.ntmps22 rfl rfl ?_
  refine CW.seq (CW.region ?_)
  refine TW.assign rfl rfl rfl ct ?_
  refine TW.nil (KW.pick [0, 1, 4] [(0, _, _), (1, _, _), (4, _, _)] rfl (KW.then_ ?_))
  refine CW.seq (CW.region ?_)
  refine TW.move rfl rfl rfl ct ?_
  refine TW.call0 (cap := []) rfl rfl en20 rfl (Args.cons rfl ct Args.nil) (rrecords_c hl hsm hne) ?_
  rintro rv w2 ⟨c2, hrv⟩
  have hr2 : SI w2 rv (recsS l) := hrv.now intT_now
  have hS2 := hS.below c2
  obtain ⟨R, rcap, rfl, _⟩ := hr2.form
  refine TW.assign rfl rfl rfl ct ?_
  refine TW.nil (KW.pick [0, 1, 4, 5] [(0, _, _), (1, _, _), (4, _, _), (5, _, _)] rfl (KW.then_ ?_))
  refine CW.seq (CW.seq (CW.region ?_))
  refine TW.assign rfl rfl rfl ct ?_
  refine TW.nil (KW.pick [0, 1, 4, 5, 6] [(0, _, _), (1, _, _), (4, _, _), (5, _, _), (6, _, _)] rfl (KW.then_ ?_))
  refine CW.block ?_
  refine CW.loopS (fun k : Nat => [(1, none, .slice C S.length scap), (5, none, .slice R (recsS l).length rcap), (6, none, .int .i64 (k : Int))])
    (fun k W => k ≤ S.length ∧ Below w2.heap.size w2 W ∧ Inc (S.take k) ∧ ∀ x ∈ S.take k, x ∈ recsS l) (fun k => S.length - k) 0 [1, 5, 6] ⟨Nat.zero_le _, Below.refl _ _, List.Pairwise.nil, fun x hx => by simp at hx⟩ rfl ?_
  rintro k W ⟨hk, hB, hinc, hsub⟩
  refine CW.seq (CW.seq (CW.region ?_))
  refine TW.move rfl rfl rfl ct ?_
  refine TW.move rfl rfl rfl ct ?_
  refine TW.lenSlice rfl rfl Tryz.underlying24 rfl ct ?_
  refine TW.lss rfl rfl rfl ct rfl ct ?_
  refine TW.nil (KW.pick [1, 5, 6, 12] [(1, _, _), (5, _, _), (6, _, _), (12, _, _)] rfl (KW.then_ ?_))
  refine CW.condP rfl (fun hlt => ?_) (fun hge => ?_)
  · obtain ⟨x, hx, hxm⟩ := getx (l := S) (k := k) (by omega)
    have hSW := hS2.below hB
    obtain ⟨ad, rfl⟩ := hSW.addr (by omega)
    have hrW := si_step hr2 hB
    have htake : S.take (k + 1) = S.take k ++ [x] := by rw [List.take_add_one, hx]; rfl
    have hcx := hSW.getI hx
    by_cases hk0 : k = 0
    · subst hk0
      refine CW.skip (KW.then_ (CW.seq (CW.block (CW.seq (CW.draw mixed (by kernel_rfl) ?_)))))
      refine DW.move rfl rfl rfl ct ?_
      refine DW.move rfl rfl rfl ct ?_
      refine DW.move rfl rfl rfl ct ?_
      refine DW.indexAddr rfl rfl Tryz.underlying24 sz3 rfl ct rfl ct (fun _ => by (try dsimp only); omega) ?_
      refine DW.load rfl rfl one3 rfl ct (fun _ => hcx) ?_
      refine DW.call (.ex (.bool (decide (x ∈ recsS l)))) trivial rfl rfl en42 rfl ct (DArgs.cons rfl ct (DArgs.cons rfl ct DArgs.nil)) (fun _ w' hb' => (rin_c (hrW.below hb')).mono fun u w'' ⟨h1, h2⟩ => ⟨h1, h2⟩) ?_
      refine DW.not rfl rfl rfl ct ?_
      refine DW.move rfl rfl rfl ct ?_
      refine DW.move rfl rfl rfl ct ?_
      refine DW.gtr rfl rfl rfl id rfl ct ?_
      refine DW.move rfl rfl rfl id ?_
      refine DW.dead (.bool false) rfl (by simp [Cnd]) rfl rfl ?_
      refine DW.dead (.bool false) rfl (by simp [Cnd]) rfl rfl ?_
      refine DW.dead (.bool false) rfl (by simp [Cnd]) rfl rfl ?_
      refine DW.dead (.bool false) rfl (by simp [Cnd]) rfl rfl ?_
      refine DW.dead (.bool false) rfl (by simp [Cnd]) rfl rfl ?_
      refine DW.dead (.bool false) rfl (by simp [Cnd]) rfl rfl ?_
      refine DW.dead (.bool false) rfl (by simp [Cnd]) rfl rfl ?_
      refine DW.dead (.bool false) rfl (by simp [Cnd]) rfl rfl ?_
      refine DW.dead (.bool false) rfl (by simp [Cnd]) rfl rfl ?_
      refine DW.dead (.bool false) rfl (by simp [Cnd]) rfl rfl ?_
      refine DW.pickAnd rfl rfl rfl id rfl pAnd1 ?_
      refine DW.pickOr rfl rfl rfl ct rfl pOr0 ?_
      refine DW.nil (DW.fin [1, 5, 6, 37] [(1, _, _), (5, _, _), (6, _, _), (37, _, _)] rfl (fun w3 c3 => KW.then_ ?_))
      refine CW.cond rfl (fun hb1 => ?_) (fun hb2 => ?_)
      · have hx' : x ∉ recsS l := by simpa using hb1
        refine CW.seq (CW.region ?_)
        refine TW.assign rfl rfl rfl ct ?_
        refine TW.nil (KW.pick [1, 4, 5, 6] [(1, _, _), (4, _, _), (5, _, _), (6, _, _)] rfl (KW.then_ ?_))
        refine CW.ret (KW.blockR (KW.thenR (KW.thenR (KW.blockR (KW.thenR ?_)))))
        refine ret1 Tryz.results22 rfl (⟨(c2.step hB).step c3, by rw [dec_neg fun h => hx' (h.2 x hxm)]⟩)
      have hx' : x ∈ recsS l := by simpa using hb2
      refine CW.skip (KW.blockN (KW.then_ (CW.region ?_)))
      refine TW.move rfl rfl rfl ct ?_
      refine TW.add rfl rfl rfl ct rfl ct (fun _ => by (try dsimp only); omega) ?_
      refine TW.assign rfl rfl rfl ct ?_
      refine TW.nil (KW.pick [1, 5, 6] [(1, _, _), (5, _, _), (6, _, _)] rfl ?_)
      refine KW.round (0 + 1) [1, 5, 6] rfl ⟨by omega, hB.step c3, ?_, ?_⟩ (by omega)
      · rw [htake]
        simp [Inc]
      · rw [htake]
        intro z hz
        simp at hz
        subst hz
        exact hx'
    · have hkp : 0 < k := by omega
      obtain ⟨y', hy', hym⟩ := getx (l := S) (k := k - 1) (by omega)
      have hcy : W.cell? (ad.add (((k : Int) - 1).toNat * 1)) = some (.int .i64 y') := by
        rw [show ((k : Int) - 1) = ((k - 1 : Nat) : Int) by omega]
        exact hSW.getI hy'
      refine CW.skip (KW.then_ (CW.seq (CW.block (CW.seq (CW.draw mixed (by kernel_rfl) ?_)))))
      refine DW.move rfl rfl rfl ct ?_
      refine DW.move rfl rfl rfl ct ?_
      refine DW.move rfl rfl rfl ct ?_
      refine DW.indexAddr rfl rfl Tryz.underlying24 sz3 rfl ct rfl ct (fun _ => by (try dsimp only); omega) ?_
      refine DW.load rfl rfl one3 rfl ct (fun _ => hcx) ?_
      refine DW.call (.ex (.bool (decide (x ∈ recsS l)))) trivial rfl rfl en42 rfl ct (DArgs.cons rfl ct (DArgs.cons rfl ct DArgs.nil)) (fun _ w' hb' => (rin_c (hrW.below hb')).mono fun u w'' ⟨h1, h2⟩ => ⟨h1, h2⟩) ?_
      refine DW.not rfl rfl rfl ct ?_
      refine DW.move rfl rfl rfl ct ?_
      refine DW.move rfl rfl rfl ct ?_
      refine DW.gtr rfl rfl rfl id rfl ct ?_
      refine DW.move rfl rfl rfl id ?_
      refine DW.move rfl rfl rfl ct ?_
      refine DW.move rfl rfl rfl ct ?_
      refine DW.sub rfl rfl rfl id rfl ct (fun h => by (try dsimp only); first | omega | (simp [Cnd] at h; omega)) ?_
      refine DW.indexAddr rfl rfl Tryz.underlying24 sz3 rfl id rfl id (fun h => by (try dsimp only); first | omega | (simp [Cnd] at h; omega)) ?_
      refine DW.load rfl rfl one3 rfl id (fun _ => hcy) ?_
      refine DW.move rfl rfl rfl ct ?_
      refine DW.move rfl rfl rfl ct ?_
      refine DW.indexAddr rfl rfl Tryz.underlying24 sz3 rfl id rfl id (fun h => by (try dsimp only); first | omega | (simp [Cnd] at h; omega)) ?_
      refine DW.load rfl rfl one3 rfl id (fun _ => hcx) ?_
      refine DW.geq rfl rfl rfl id rfl id ?_
      refine DW.pickAnd rfl rfl rfl id rfl pAnd1 ?_
      refine DW.pickOr rfl rfl rfl ct rfl pOr0 ?_
      refine DW.nil (DW.fin [1, 5, 6, 37] [(1, _, _), (5, _, _), (6, _, _), (37, _, _)] rfl (fun w3 c3 => KW.then_ ?_))
      refine CW.cond rfl (fun hb1 => ?_) (fun hb2 => ?_)
      · refine CW.seq (CW.region ?_)
        refine TW.assign rfl rfl rfl ct ?_
        refine TW.nil (KW.pick [1, 4, 5, 6] [(1, _, _), (4, _, _), (5, _, _), (6, _, _)] rfl (KW.then_ ?_))
        refine CW.ret (KW.blockR (KW.thenR (KW.thenR (KW.blockR (KW.thenR ?_)))))
        refine ret1 Tryz.results22 rfl (⟨(c2.step hB).step c3, ?_⟩)
        rw [dec_neg fun h => ?_]
        have h1 := List.pairwise_iff_getElem.1 h.1 (k - 1) k (by omega) (by omega) (by omega)
        obtain ⟨_, e1⟩ := List.getElem?_eq_some_iff.1 hx
        obtain ⟨_, e2⟩ := List.getElem?_eq_some_iff.1 hy'
        rw [e1, e2] at h1
        have h2 : ¬ x ≤ y' := by omega
        simp [h.2 x hxm, h2] at hb1
      have hk1 : (0 : Int) < (k : Int) := by omega
      have hx' : x ∈ recsS l := Classical.byContradiction fun h => by simp [h] at hb2
      have hlt' : y' < x := Classical.byContradiction fun h => by
        have h2 : x ≤ y' := by omega
        simp [hx', h2, hk1] at hb2
        omega
      refine CW.skip (KW.blockN (KW.then_ (CW.region ?_)))
      refine TW.move rfl rfl rfl ct ?_
      refine TW.add rfl rfl rfl ct rfl ct (fun _ => by (try dsimp only); omega) ?_
      refine TW.assign rfl rfl rfl ct ?_
      refine TW.nil (KW.pick [1, 5, 6] [(1, _, _), (5, _, _), (6, _, _)] rfl ?_)
      refine KW.round (k + 1) [1, 5, 6] rfl ⟨by omega, hB.step c3, ?_, ?_⟩ (by omega)
      · rw [htake]
        refine List.pairwise_append.2 ⟨hinc, List.pairwise_singleton _ _, fun a ha b hb => ?_⟩
        rw [List.mem_singleton] at hb
        subst hb
        obtain ⟨j, hj, hje⟩ := List.getElem_of_mem ha
        simp at hj
        have hlast : (S.take k)[k - 1]? = some y' := by rw [List.getElem?_take_of_lt (by omega)]; exact hy'
        obtain ⟨hl1', hl2'⟩ := List.getElem?_eq_some_iff.1 hlast
        by_cases hjk : j = k - 1
        · subst hjk
          rw [hl2'] at hje
          omega
        · have := List.pairwise_iff_getElem.1 hinc j (k - 1) (by simp; omega) (by simp; omega) (by omega)
          rw [hje, hl2'] at this
          omega
      · rw [htake]
        intro z hz
        rcases List.mem_append.1 hz with h | h
        · exact hsub z h
        · rw [List.mem_singleton] at h
          subst h
          exact hx'
  · have hke : k = S.length := by omega
    subst hke
    rw [List.take_length] at hinc hsub
    refine CW.exit (KW.thenX (KW.thenX (KW.blockX (KW.then_ (CW.seq (CW.region ?_))))))
    refine TW.assign rfl rfl rfl ct ?_
    refine TW.nil (KW.pick [1, 4, 5, 6] [(1, _, _), (4, _, _), (5, _, _), (6, _, _)] rfl (KW.then_ ?_))
    refine CW.ret ?_
    refine ret1 Tryz.results22 rfl (⟨c2.step hB, by rw [dec_pos ⟨hinc, hsub⟩]⟩)

set_option maxRecDepth 20000 in
set_option maxHeartbeats 1000000 in
theorem rminimal_c {w : World} {dv lv sv : Value} {d : Dist} {l : List Ev} {S : List Int} {F : Nat → Prop} (hd : SD w dv d) (hl : SE w lv l) (hS : SL intT F w sv S) (hsm : l.length ≤ 1000) (hne : ∀ e ∈ l, e.needs.length ≤ 1000) (hSl : S.length ≤ 1000000) :
    Gives Tryz.prog 17 #[dv, lv, sv] w fun u w' => Below w.heap.size w w' ∧ u = .bool (dec (MinP d l S)) := by
  obtain ⟨C, scap, rfl, hsc⟩ := hS.form
  refine gives_of (vs := [dv, lv, .slice C S.length scap]) [(0, none, _), (1, none, _), (2, none, _)] Tryz.func17 rfl Tryz.ntmps17 rfl rfl ?_
  refine CW.seq (CW.region ?_)
  refine TW.assign rfl rfl rfl ct ?_
  refine TW.nil (KW.pick [0, 1, 2, 6] [(0, _, _), (1, _, _), (2, _, _), (6, _, _)] rfl (KW.then_ ?_))
  refine CW.seq (CW.seq (CW.region ?_))
  refine TW.move rfl rfl rfl ct ?_
  refine TW.move rfl rfl rfl ct ?_
  refine TW.call0 (cap := []) rfl rfl en36 rfl (Args.cons rfl ct (Args.cons rfl ct Args.nil)) (rvalid28_c hd hl) ?_
  rintro y w1 ⟨c1, rfl⟩
  have hd1 := sd_step hd c1
  have hl1 := se_step hl c1
  have hS1 := hS.below c1
  refine TW.not rfl rfl rfl ct ?_
  refine TW.move rfl rfl rfl ct ?_
  refine TW.move rfl rfl rfl ct ?_
  refine TW.move rfl rfl rfl ct ?_
  refine TW.callF (cap := []) rfl rfl en22 rfl ct (Args.cons rfl id (Args.cons rfl id Args.nil)) (fun _ => rset_c hl1 hS1 hsm hne) ?_
  rintro w2 c2
  refine TW.not rfl rfl rfl id ?_
  refine TW.pickOr rfl rfl rfl ct rfl pOr0 ?_
  refine TW.move rfl rfl rfl ct ?_
  refine TW.move rfl rfl rfl ct ?_
  refine TW.move rfl rfl rfl ct ?_
  refine TW.move rfl rfl rfl ct ?_
  have hd2 := sd_step hd1 c2
  have hl2 := se_step hl1 c2
  have hS2 := hS1.below c2
  refine TW.callF (cap := []) rfl rfl en38 rfl ct (Args.cons rfl id (Args.cons rfl id (Args.cons rfl id Args.nil))) (fun _ => rexplains_c hd2 hl2 hS2 (by omega)) ?_
  rintro w3 c3
  refine TW.not rfl rfl rfl id ?_
  refine TW.pickOr rfl rfl rfl ct rfl pOr0 ?_
  refine TW.nil (KW.pick [0, 1, 2, 6, 24] [(0, _, _), (1, _, _), (2, _, _), (6, _, _), (24, _, _)] rfl (KW.then_ ?_))
  have b3 := (c1.step c2).step c3
  have hd3 := sd_step hd2 c3
  have hl3 := se_step hl2 c3
  have hS3 := hS2.below c3
  refine CW.cond rfl (fun hb1 => ?_) (fun hb2 => ?_)
  · refine CW.seq (CW.region ?_)
    refine TW.assign rfl rfl rfl ct ?_
    refine TW.nil (KW.pick [0, 1, 2, 6] [(0, _, _), (1, _, _), (2, _, _), (6, _, _)] rfl (KW.then_ ?_))
    refine CW.ret (KW.thenR ?_)
    refine ret1 Tryz.results17 rfl (⟨b3, ?_⟩)
    rw [dec_neg fun h => ?_]
    rw [dec_pos h.wf, dec_pos ⟨h.inc, h.sub⟩, dec_pos ((h.wf.rest S).2 h.poss)] at hb1
    simp at hb1
  have hw : WfP d l := Classical.byContradiction fun h => by rw [dec_neg h] at hb2; simp at hb2
  have hset : Inc S ∧ ∀ x ∈ S, x ∈ recsS l := Classical.byContradiction fun h => by rw [dec_neg h] at hb2; simp at hb2
  have hp : Poss d (restS l S) := Classical.byContradiction fun h => by
    rw [dec_congr (hw.rest S), dec_neg h] at hb2
    simp at hb2
  refine CW.skip (KW.then_ (CW.seq (CW.seq (CW.region ?_))))
  refine TW.assign rfl rfl rfl ct ?_
  refine TW.nil (KW.pick [0, 1, 2, 6, 7] [(0, _, _), (1, _, _), (2, _, _), (6, _, _), (7, _, _)] rfl (KW.then_ ?_))
  refine CW.block ?_
  refine CW.loopS (fun k : Nat => [(0, none, dv), (1, none, lv), (2, none, .slice C S.length scap), (7, none, .int .i64 (k : Int))])
    (fun k W' => k ≤ S.length ∧ Below w3.heap.size w3 W' ∧ ∀ i, i < k → ¬ Poss d (restS l (S.eraseIdx i))) (fun k => S.length - k) 0 [0, 1, 2, 7] ⟨Nat.zero_le _, Below.refl _ _, fun i hi => by omega⟩ rfl ?_
  rintro k W' ⟨hk, hB', hno⟩
  refine CW.seq (CW.seq (CW.region ?_))
  refine TW.move rfl rfl rfl ct ?_
  refine TW.move rfl rfl rfl ct ?_
  refine TW.lenSlice rfl rfl Tryz.underlying24 rfl ct ?_
  refine TW.lss rfl rfl rfl ct rfl ct ?_
  refine TW.nil (KW.pick [0, 1, 2, 7, 28] [(0, _, _), (1, _, _), (2, _, _), (7, _, _), (28, _, _)] rfl (KW.then_ ?_))
  refine CW.condP rfl (fun hlt => ?_) (fun hge => ?_)
  · have hS' := hS3.below hB'
    have hIS := hS'.allI
    have hd' := sd_step hd3 hB'
    have hl' := se_step hl3 hB'
    obtain ⟨ad, rfl⟩ := hS'.addr (by omega)
    have her : S.take k ++ S.drop (k + 1) = S.eraseIdx k := List.eraseIdx_eq_take_drop_succ S k |>.symm
    refine CW.skip (KW.then_ (CW.seq (CW.block (CW.seq ?_))))
    refine CW.drawR mixed fun W4 c4 => ?_
    refine RW.draw .own 12 (by kernel_rfl) (by kernel_rfl) rfl rfl c4 ?_
    refine DW.move rfl rfl rfl ct ?_
    refine DW.move rfl rfl rfl ct ?_
    have hT := hS'.takeS (i := k) (by omega)
    have hD := SL.dropS hS' (i := k + 1) (by omega)
    obtain ⟨ps1, p1, r1, n1, a1⟩ := hT.flat (T := intT) (by decide)
    obtain ⟨ps2, p2, r2, n2, a2⟩ := hD.flat (T := intT) (by decide)
    refine OW.buildSlice0 3 rfl rfl eo24 ?_
    refine DW.move rfl rfl rfl ct ?_
    refine DW.move rfl rfl rfl ct ?_
    refine DW.sliceH rfl rfl Tryz.underlying24 sz3 rfl ct rfl ct (fun _ => by (try dsimp only); omega) ?_
    refine OW.append (m := k) (A := some ad) (ps1.flatMap (·.1)) rfl rfl go24 rfl (by kernel_rfl) rfl ct a1 n1 (one_flat intT_one r1) (by omega) (by omega) ?_
    refine DW.move rfl rfl rfl ct ?_
    refine DW.move rfl rfl rfl ct ?_
    refine DW.add rfl rfl rfl ct rfl ct (fun _ => by (try dsimp only); omega) ?_
    refine DW.sliceL rfl rfl Tryz.underlying24 sz3 rfl ct rfl ct (fun _ => by (try dsimp only); omega) ?_
    refine OW.append (m := S.length - (k + 1)) (A := if scap = k + 1 then some ad else (some ad).map (fun a : Addr => a.add ((k + 1) * 1))) (ps2.flatMap (·.1)) rfl rfl go24 rfl (by kernel_rfl) rfl ct a2 n2 (one_flat intT_one r2) (by omega) (by omega) ?_
    refine DW.nil (DW.finX [0, 1, 2, 7, 31, 32] [(0, _, _), (1, _, _), (2, _, _), (7, _, _), (31, _, _), (32, _, _)] rfl [42] rfl fun vs w5 c5 hs5 => KW.rk' ?_)
    obtain ⟨v42, rfl, h42⟩ := Sats.one hs5
    have h42' : OwnS w5 3 1 v42 (0 + k + (S.length - (k + 1))) ([] ++ ps1.flatMap (·.1) ++ ps2.flatMap (·.1)) ∧ ∀ g, v42.ownBlock = some g → W'.heap.size ≤ g := h42
    have hlen1 : ps1.length = k := by have := congrArg List.length p1; simp at this; omega
    have hlen2 : ps2.length = S.length - (k + 1) := by have := congrArg List.length p2; simpa using this
    have hr5 : SI w5 v42 (S.eraseIdx k) := by
      have h := OwnS.toSLn (T := intT) (by decide) (n := 0 + k + (S.length - (k + 1))) (ps := ps1 ++ ps2) c5 (fun p hp => (List.mem_append.1 hp).elim (r1 p) (r2 p)) (by rw [List.flatMap_append]; exact h42'.1) (by simp; omega) (by simp; omega)
      rw [List.map_append, p1, p2, her] at h
      exact h.now intT_now
    have c45 := c5
    have hd5 := sd_step hd' c45
    have hl5 := se_step hl' c45
    refine RW.one (by kernel_rfl) (by kernel_rfl) rfl ?_
    refine TW.call0 (cap := []) rfl rfl en38 rfl (Args.cons rfl ct (Args.cons rfl ct (Args.cons rfl ct Args.nil))) (rexplains_c hd5 hl5 hr5 (by omega)) ?_
    rintro y w6 ⟨c6, rfl⟩
    rw [dec_congr (hw.rest (S.eraseIdx k))]
    refine TW.nil (KW.pick [0, 1, 2, 7, 43] [(0, _, _), (1, _, _), (2, _, _), (7, _, _), (43, _, _)] rfl (KW.rk ?_))
    refine RW.end rfl (KW.pick [0, 1, 2, 7, 43] [(0, _, _), (1, _, _), (2, _, _), (7, _, _), (43, _, _)] rfl (KW.then_ ?_))
    refine CW.cond rfl (fun hyes => ?_) (fun hnot => ?_)
    · refine CW.seq (CW.region ?_)
      refine TW.assign rfl rfl rfl ct ?_
      refine TW.nil (KW.pick [0, 1, 2, 6, 7] [(0, _, _), (1, _, _), (2, _, _), (6, _, _), (7, _, _)] rfl (KW.then_ ?_))
      refine CW.ret (KW.blockR (KW.thenR (KW.thenR (KW.blockR (KW.thenR ?_)))))
      refine ret1 Tryz.results17 rfl (⟨((b3.step hB').step c45).step c6, by rw [dec_neg fun h => h.each k (by omega) (dec_iff.1 hyes)]⟩)
    refine CW.skip (KW.blockN (KW.then_ (CW.region ?_)))
    refine TW.move rfl rfl rfl ct ?_
    refine TW.add rfl rfl rfl ct rfl ct (fun _ => by (try dsimp only); omega) ?_
    refine TW.assign rfl rfl rfl ct ?_
    refine TW.nil (KW.pick [0, 1, 2, 7] [(0, _, _), (1, _, _), (2, _, _), (7, _, _)] rfl ?_)
    refine KW.round (k + 1) [0, 1, 2, 7] rfl ⟨by omega, (hB'.step c45).step c6, fun i hi => ?_⟩ (by omega)
    by_cases hik : i = k
    · subst hik
      exact fun h => by rw [dec_pos h] at hnot; cases hnot
    · exact hno i (by omega)
  · have hke : k = S.length := by omega
    subst hke
    refine CW.exit (KW.thenX (KW.thenX (KW.blockX (KW.then_ (CW.seq (CW.region ?_))))))
    refine TW.assign rfl rfl rfl ct ?_
    refine TW.nil (KW.pick [0, 1, 2, 6, 7] [(0, _, _), (1, _, _), (2, _, _), (6, _, _), (7, _, _)] rfl (KW.then_ ?_))
    refine CW.ret ?_
    refine ret1 Tryz.results17 rfl (⟨b3.step hB', by rw [dec_pos ⟨hw, hset.1, hset.2, hp, hno⟩]⟩)

structure LightP (d : Dist) (l : List Ev) : Prop where
  few : FewP d l
  l7 : l.length ≤ 7
  rcs : (recsS l).length ≤ 7 ∨ 14 < (recsS l).length
theorem rlight_c {w : World} {dv lv : Value} {d : Dist} {l : List Ev} (hd : SD w dv d) (hl : SE w lv l) :
    Gives Tryz.prog 12 #[dv, lv] w fun u w' => Below w.heap.size w w' ∧ u = .bool (dec (LightP d l)) := by
  obtain ⟨B, bcap, rfl, _⟩ := hl.form
  refine gives_of (vs := [dv, .slice B l.length bcap]) [(0, none, _), (1, none, _)] Tryz.func12 rfl Tryz.ntmps12 rfl rfl ?_
  refine CW.seq (CW.region ?_)
  refine TW.assign rfl rfl rfl ct ?_
  refine TW.nil (KW.pick [0, 1, 4] [(0, _, _), (1, _, _), (4, _, _)] rfl (KW.then_ ?_))
  refine CW.seq (CW.seq (CW.region ?_))
  refine TW.move rfl rfl rfl ct ?_
  refine TW.move rfl rfl rfl ct ?_
  refine TW.call0 (cap := []) rfl rfl en30 rfl (Args.cons rfl ct (Args.cons rfl ct Args.nil)) (rfew28_c hd hl) ?_
  rintro y w1 ⟨c1, rfl⟩
  have hl1 := se_step hl c1
  refine TW.not rfl rfl rfl ct ?_
  refine TW.move rfl rfl rfl ct ?_
  refine TW.move rfl rfl rfl ct ?_
  refine TW.lenSlice rfl rfl Tryz.underlying23 rfl id ?_
  refine TW.gtr rfl rfl rfl id rfl ct ?_
  refine TW.pickOr rfl rfl rfl ct rfl pOr0 ?_
  refine TW.nil (KW.pick [0, 1, 4, 14] [(0, _, _), (1, _, _), (4, _, _), (14, _, _)] rfl (KW.then_ ?_))
  refine CW.cond rfl (fun hb1 => ?_) (fun hb2 => ?_)
  · refine CW.seq (CW.region ?_)
    refine TW.assign rfl rfl rfl ct ?_
    refine TW.nil (KW.pick [0, 1, 4] [(0, _, _), (1, _, _), (4, _, _)] rfl (KW.then_ ?_))
    refine CW.ret (KW.thenR ?_)
    refine ret1 Tryz.results12 rfl (⟨c1, ?_⟩)
    rw [dec_neg fun h => ?_]
    have h7 := h.l7
    have h7' : ¬ ((7 : Int) < (l.length : Int)) := by omega
    simp [dec_pos h.few, h7'] at hb1
  have hf : FewP d l := Classical.byContradiction fun h => by rw [dec_neg h] at hb2; simp at hb2
  have h7 : l.length ≤ 7 := Classical.byContradiction fun h => by
    have h7' : (7 : Int) < (l.length : Int) := by omega
    simp [h7'] at hb2
  refine CW.skip (KW.then_ (CW.seq (CW.region ?_)))
  refine TW.move rfl rfl rfl ct ?_
  refine TW.call0 (cap := []) rfl rfl en20 rfl (Args.cons rfl ct Args.nil) (rrecords_c hl1 (by omega) (fun e he => by have := hf.nd e he; omega)) ?_
  rintro rv w2 ⟨c2, hrv⟩
  obtain ⟨R, rcap, rfl, _⟩ := hrv.form
  refine TW.lenSlice rfl rfl Tryz.underlying24 rfl ct ?_
  refine TW.assign rfl rfl rfl ct ?_
  refine TW.nil (KW.pick [0, 1, 4, 5] [(0, _, _), (1, _, _), (4, _, _), (5, _, _)] rfl (KW.then_ ?_))
  refine CW.seq (CW.region ?_)
  refine TW.move rfl rfl rfl ct ?_
  refine TW.leq rfl rfl rfl ct rfl ct ?_
  refine TW.move rfl rfl rfl ct ?_
  refine TW.move rfl rfl rfl ct ?_
  refine TW.gtr rfl rfl rfl id rfl ct ?_
  refine TW.pickOr rfl rfl rfl ct rfl pOr0 ?_
  refine TW.assign rfl rfl rfl ct ?_
  refine TW.nil (KW.pick [0, 1, 4, 5] [(0, _, _), (1, _, _), (4, _, _), (5, _, _)] rfl (KW.then_ ?_))
  refine CW.ret ?_
  refine ret1 Tryz.results12 rfl (⟨c1.step c2, ?_⟩)
  by_cases hr : (recsS l).length ≤ 7 ∨ 14 < (recsS l).length
  · rw [dec_pos ⟨hf, h7, hr⟩]
    rcases hr with h | h
    · have h1 : ((recsS l).length : Int) ≤ 7 := by omega
      simp [h1]
    · have h1 : (14 : Int) < ((recsS l).length : Int) := by omega
      simp [h1]
  · rw [dec_neg fun h => hr h.rcs]
    have h1 : ¬ ((recsS l).length : Int) ≤ 7 := by omega
    have h2 : ¬ (14 : Int) < ((recsS l).length : Int) := by omega
    simp [h1, h2]
end Go.Proofs.YtmhfeehkpndadaaGreat

/- Rests of unsigned words, shifts of bytes. -/
namespace Go.PF
open Go.RowKit
section
variable {P : Program} {r : Option Nat} {Q : Exit → Act → World → Prop} {N : Nat} {ds : List Deferred} {ops rest : List Oper} {E : Env} {D : DE} {w : World} {G : Option Bool} {Fin : DE → Prop} {md : Mode}
variable {d : Option Tmp} {ty : TypeId} {pos : String} {af : Array Edge} {gu : Option (Nat × Bool)}
variable {x y z : Operand} {cx cy cz : Option Bool} {ρ : Operand → Value}
theorem X.remU {m n : Nat} {t t' : TypeId} (hx : ρ x = .int .u64 (m : Int)) (hy : ρ y = .int .u64 (n : Int)) (hb : 1 ≤ n ∧ m < 2 ^ 64) : (execOp ρ ⟨d, .binOp .rem t x y t', ty, pos, af, gu⟩).run P w = .ok (.value (.int .u64 ((m % n : Nat) : Int))) w := by
    simp only [execOp]; rw [hx, hy, eqGuard_rem, binOp_rem]
    have e : (m : Int).tmod (n : Int) = ((m % n : Nat) : Int) := by rw [Int.tmod_eq_emod_of_nonneg (by omega)]; norm_cast
    have h0 : (n : Int) ≠ 0 := by omega
    have h1 : m % n < 2 ^ 64 := Nat.lt_of_le_of_lt (Nat.mod_le _ _) hb.2
    have h2 : IntKind.u64.wrap ((m % n : Nat) : Int) = ((m % n : Nat) : Int) := wrap64 h1
    simp only [Op.intDiv, if_neg h0, e, h2]; rfl
theorem TW.remU {m n : Nat} {t t' : TypeId} (hg : gd ops E gu = some G) (hd : okDst N d = true) (hx : ev E x = some (cx, .int .u64 (m : Int))) (ix : Cnd G → Cnd cx) (hy : ev E y = some (cy, .int .u64 (n : Int))) (iy : Cnd G → Cnd cy) (hb : Cnd G → 1 ≤ n ∧ m < 2 ^ 64)
    (next : TW P r Q N ds ops rest (ins E d G (.int .u64 ((m % n : Nat) : Int))) w) : TW P r Q N ds ops (⟨d, .binOp .rem t x y t', ty, pos, af, gu⟩ :: rest) E w :=
  TW.val hg hd rfl (fun hG _ ha => X.remU (ha.eval hx (ix hG)) (ha.eval hy (iy hG)) (hb hG)) next
theorem X.rem8 {m n : Nat} {t t' : TypeId} (hx : ρ x = .int .u8 (m : Int)) (hy : ρ y = .int .u8 (n : Int)) (hb : 1 ≤ n ∧ m < 256) : (execOp ρ ⟨d, .binOp .rem t x y t', ty, pos, af, gu⟩).run P w = .ok (.value (.int .u8 ((m % n : Nat) : Int))) w := by
    simp only [execOp]; rw [hx, hy, eqGuard_rem, binOp_rem]
    have e : (m : Int).tmod (n : Int) = ((m % n : Nat) : Int) := by rw [Int.tmod_eq_emod_of_nonneg (by omega)]; norm_cast
    have h0 : (n : Int) ≠ 0 := by omega
    have h1 : m % n < 256 := Nat.lt_of_le_of_lt (Nat.mod_le _ _) hb.2
    have h2 : IntKind.u8.wrap ((m % n : Nat) : Int) = ((m % n : Nat) : Int) := by rw [IntKind.wrap_u8]; omega
    simp only [Op.intDiv, if_neg h0, e, h2]; rfl
theorem TW.rem8 {m n : Nat} {t t' : TypeId} (hg : gd ops E gu = some G) (hd : okDst N d = true) (hx : ev E x = some (cx, .int .u8 (m : Int))) (ix : Cnd G → Cnd cx) (hy : ev E y = some (cy, .int .u8 (n : Int))) (iy : Cnd G → Cnd cy) (hb : Cnd G → 1 ≤ n ∧ m < 256)
    (next : TW P r Q N ds ops rest (ins E d G (.int .u8 ((m % n : Nat) : Int))) w) : TW P r Q N ds ops (⟨d, .binOp .rem t x y t', ty, pos, af, gu⟩ :: rest) E w :=
  TW.val hg hd rfl (fun hG _ ha => X.rem8 (ha.eval hx (ix hG)) (ha.eval hy (iy hG)) (hb hG)) next
theorem X.shr8 {k : IntKind} {m n : Nat} {t t' : TypeId} (hx : ρ x = .int .u8 (m : Int)) (hy : ρ y = .int k (n : Int)) (hb : n ≤ 8) : (execOp ρ ⟨d, .binOp .shr t x y t', ty, pos, af, gu⟩).run P w = .ok (.value (.int .u8 ((m >>> n : Nat) : Int))) w := by
    have h1 : ¬ ((n : Int) < 0) := by omega
    have h2 : min n IntKind.u8.bits = n := Nat.min_eq_left hb
    have h3 : (m : Int).fdiv ((2 : Int) ^ n) = ((m >>> n : Nat) : Int) := by
      rw [Nat.shiftRight_eq_div_pow, Int.fdiv_eq_ediv_of_nonneg _ (Int.pow_nonneg (by decide))]
      norm_cast
    simp only [execOp]; rw [hx, hy, eqGuard_shr, binOp_shr]
    simp only [Op.shift, if_neg h1, Int.toNat_natCast, h2, h3]; rfl
theorem TW.shr8 {k : IntKind} {m n : Nat} {t t' : TypeId} (hg : gd ops E gu = some G) (hd : okDst N d = true) (hx : ev E x = some (cx, .int .u8 (m : Int))) (ix : Cnd G → Cnd cx) (hy : ev E y = some (cy, .int k (n : Int))) (iy : Cnd G → Cnd cy) (hb : Cnd G → n ≤ 8)
    (next : TW P r Q N ds ops rest (ins E d G (.int .u8 ((m >>> n : Nat) : Int))) w) : TW P r Q N ds ops (⟨d, .binOp .shr t x y t', ty, pos, af, gu⟩ :: rest) E w :=
  TW.val hg hd rfl (fun hG _ ha => X.shr8 (ha.eval hx (ix hG)) (ha.eval hy (iy hG)) (hb hG)) next
end
end Go.PF

namespace Go.Proofs.YtmhfeehkpndadaaGreat
open Go.PF Go.RowKit Go.Ord

theorem ints_c {w : World} {F G : Nat → Prop} {v u : Value} {a b : List Int} (ha : SL intT F w v a) (hb : SL intT G w u b) : Gives Tryz.prog 15 #[v, u] w fun x w' => Below w.heap.size w w' ∧ x = .bool (decide (a = b)) := by
  obtain ⟨A, cap, rfl, _⟩ := ha.form
  obtain ⟨B, bcap, rfl, _⟩ := hb.form
  have hmax := ha.len.2.2
  refine gives_of (vs := [.slice A a.length cap, .slice B b.length bcap]) [(0, none, _), (1, none, _)] Tryz.func15 rfl Tryz.ntmps15 rfl rfl ?_
  refine CW.seq (CW.region ?_)
  refine TW.assign rfl rfl rfl ct ?_
  refine TW.nil (KW.pick [0, 1, 4] [(0, _, _), (1, _, _), (4, _, _)] rfl (KW.then_ ?_))
  refine CW.seq (CW.seq (CW.region ?_))
  refine TW.move rfl rfl rfl ct ?_
  refine TW.lenSlice rfl rfl Tryz.underlying24 rfl ct ?_
  refine TW.move rfl rfl rfl ct ?_
  refine TW.lenSlice rfl rfl Tryz.underlying24 rfl ct ?_
  refine TW.neq rfl rfl rfl ct rfl ct ?_
  refine TW.nil (KW.pick [0, 1, 4, 10] [(0, _, _), (1, _, _), (4, _, _), (10, _, _)] rfl (KW.then_ ?_))
  refine CW.condP rfl (fun hne => ?_) (fun heq => ?_)
  · refine CW.seq (CW.region ?_)
    refine TW.assign rfl rfl rfl ct ?_
    refine TW.nil (KW.pick [0, 1, 4] [(0, _, _), (1, _, _), (4, _, _)] rfl (KW.then_ ?_))
    refine CW.ret (KW.thenR ?_)
    refine ret1 Tryz.results15 rfl (⟨Below.refl _ _, by rw [decide_eq_false (fun e => hne (by rw [e]))]⟩)
  have hlen : a.length = b.length := by omega
  refine CW.skip (KW.then_ (CW.seq (CW.seq (CW.region ?_))))
  refine TW.assign rfl rfl rfl ct ?_
  refine TW.nil (KW.pick [0, 1, 4, 5] [(0, _, _), (1, _, _), (4, _, _), (5, _, _)] rfl (KW.then_ ?_))
  refine CW.block ?_
  refine CW.loopS (fun k : Nat => [(0, none, .slice A a.length cap), (1, none, .slice B b.length bcap), (5, none, .int .i64 (k : Int))])
    (fun k W => k ≤ a.length ∧ Below w.heap.size w W ∧ a.take k = b.take k) (fun k => a.length - k) 0 [0, 1, 5] ⟨by omega, Below.refl _ _, by simp⟩ rfl ?_
  rintro k W ⟨hk, hW, hpre⟩
  refine CW.seq (CW.seq (CW.region ?_))
  refine TW.move rfl rfl rfl ct ?_
  refine TW.move rfl rfl rfl ct ?_
  refine TW.lenSlice rfl rfl Tryz.underlying24 rfl ct ?_
  refine TW.lss rfl rfl rfl ct rfl ct ?_
  refine TW.nil (KW.pick [0, 1, 5, 14] [(0, _, _), (1, _, _), (5, _, _), (14, _, _)] rfl (KW.then_ ?_))
  refine CW.condP rfl (fun hlt => ?_) (fun hge => ?_)
  · obtain ⟨x, hx, hxm⟩ := getx (l := a) (k := k) (by omega)
    obtain ⟨y, hy, hym⟩ := getx (l := b) (k := k) (by omega)
    obtain ⟨ad, rfl⟩ := ha.addr (by omega)
    obtain ⟨bd, rfl⟩ := hb.addr (by omega)
    refine CW.skip (KW.then_ (CW.seq (CW.block (CW.seq (CW.draw mixed (by kernel_rfl) ?_)))))
    refine DW.move rfl rfl rfl ct ?_
    refine DW.move rfl rfl rfl ct ?_
    refine DW.indexAddr rfl rfl Tryz.underlying24 sz3 rfl ct rfl ct (fun _ => by (try dsimp only); omega) ?_
    refine DW.load rfl rfl one3 rfl ct (fun _ => (ha.below hW).getI hx) ?_
    refine DW.move rfl rfl rfl ct ?_
    refine DW.move rfl rfl rfl ct ?_
    refine DW.indexAddr rfl rfl Tryz.underlying24 sz3 rfl ct rfl ct (fun _ => by (try dsimp only); omega) ?_
    refine DW.load rfl rfl one3 rfl ct (fun _ => (hb.below hW).getI hy) ?_
    refine DW.neq rfl rfl rfl ct rfl ct ?_
    refine DW.nil (DW.fin [0, 1, 5, 25] [(0, _, _), (1, _, _), (5, _, _), (25, _, _)] rfl (fun w2 b2 => KW.then_ ?_))
    refine CW.condP rfl (fun hd => ?_) (fun hs => ?_)
    · refine CW.seq (CW.region ?_)
      refine TW.assign rfl rfl rfl ct ?_
      refine TW.nil (KW.pick [0, 1, 4, 5] [(0, _, _), (1, _, _), (4, _, _), (5, _, _)] rfl (KW.then_ ?_))
      refine CW.ret (KW.blockR (KW.thenR (KW.thenR (KW.blockR (KW.thenR ?_)))))
      refine ret1 Tryz.results15 rfl (⟨hW.step b2, by rw [decide_eq_false (fun e => by subst e; rw [hx] at hy; cases hy; exact hd rfl)]⟩)
    refine CW.skip (KW.blockN (KW.then_ (CW.region ?_)))
    refine TW.move rfl rfl rfl ct ?_
    refine TW.add rfl rfl rfl ct rfl ct (fun _ => by (try dsimp only); omega) ?_
    refine TW.assign rfl rfl rfl ct ?_
    refine TW.nil (KW.pick [0, 1, 5] [(0, _, _), (1, _, _), (5, _, _)] rfl ?_)
    refine KW.round (k + 1) [0, 1, 5] rfl ⟨by omega, hW.step b2, take_next hpre hx hy (by omega)⟩ (by omega)
  · refine CW.exit (KW.thenX (KW.thenX (KW.blockX (KW.then_ (CW.seq (CW.region ?_))))))
    refine TW.assign rfl rfl rfl ct ?_
    refine TW.nil (KW.pick [0, 1, 4, 5] [(0, _, _), (1, _, _), (4, _, _), (5, _, _)] rfl (KW.then_ ?_))
    refine CW.ret ?_
    refine ret1 Tryz.results15 rfl (⟨hW, by rw [decide_eq_true (take_all hpre hlen (by omega))]⟩)

theorem less30_c {w : World} {F G : Nat → Prop} {v u : Value} {a b : List Int} (ha : SL intT F w v a) (hb : SL intT G w u b) : Gives Tryz.prog 23 #[v, u] w fun x w' => Below w.heap.size w w' ∧ x = .bool (lexS a b) := by
  obtain ⟨A, cap, rfl, _⟩ := ha.form
  obtain ⟨B, bcap, rfl, _⟩ := hb.form
  have hmax := ha.len.2.2
  refine gives_of (vs := [.slice A a.length cap, .slice B b.length bcap]) [(0, none, _), (1, none, _)] Tryz.func23 rfl Tryz.ntmps23 rfl rfl ?_
  refine CW.seq (CW.region ?_)
  refine TW.assign rfl rfl rfl ct ?_
  refine TW.nil (KW.pick [0, 1, 4] [(0, _, _), (1, _, _), (4, _, _)] rfl (KW.then_ ?_))
  refine CW.seq (CW.seq (CW.region ?_))
  refine TW.assign rfl rfl rfl ct ?_
  refine TW.nil (KW.pick [0, 1, 4, 5] [(0, _, _), (1, _, _), (4, _, _), (5, _, _)] rfl (KW.then_ ?_))
  refine CW.block ?_
  refine CW.loopS (fun k : Nat => [(0, none, .slice A a.length cap), (1, none, .slice B b.length bcap), (5, none, .int .i64 (k : Int))])
    (fun k W => k ≤ a.length ∧ Below w.heap.size w W ∧ a.take k = b.take k) (fun k => a.length - k) 0 [0, 1, 5] ⟨by omega, Below.refl _ _, by simp⟩ rfl ?_
  rintro k W ⟨hk, hW, hpre⟩
  refine CW.seq (CW.seq (CW.region ?_))
  refine TW.move rfl rfl rfl ct ?_
  refine TW.move rfl rfl rfl ct ?_
  refine TW.lenSlice rfl rfl Tryz.underlying24 rfl ct ?_
  refine TW.lss rfl rfl rfl ct rfl ct ?_
  refine TW.move rfl rfl rfl ct ?_
  refine TW.move rfl rfl rfl ct ?_
  refine TW.move rfl rfl rfl ct ?_
  refine TW.lenSlice rfl rfl Tryz.underlying24 rfl id ?_
  refine TW.lss rfl rfl rfl id rfl id ?_
  refine TW.pickAnd rfl rfl rfl ct rfl pAnd0 ?_
  refine TW.nil (KW.pick [0, 1, 5, 15] [(0, _, _), (1, _, _), (5, _, _), (15, _, _)] rfl (KW.then_ ?_))
  refine CW.cond rfl (fun hlt => ?_) (fun hge => ?_)
  · have hlt' : k < a.length ∧ k < b.length := by simp at hlt; omega
    obtain ⟨x, hx, hxm⟩ := getx (l := a) (k := k) (by omega)
    obtain ⟨y, hy, hym⟩ := getx (l := b) (k := k) (by omega)
    obtain ⟨ad, rfl⟩ := ha.addr (by omega)
    obtain ⟨bd, rfl⟩ := hb.addr (by omega)
    refine CW.skip (KW.then_ (CW.seq (CW.block (CW.seq (CW.draw mixed (by kernel_rfl) ?_)))))
    refine DW.move rfl rfl rfl ct ?_
    refine DW.move rfl rfl rfl ct ?_
    refine DW.indexAddr rfl rfl Tryz.underlying24 sz3 rfl ct rfl ct (fun _ => by (try dsimp only); omega) ?_
    refine DW.load rfl rfl one3 rfl ct (fun _ => (ha.below hW).getI hx) ?_
    refine DW.move rfl rfl rfl ct ?_
    refine DW.move rfl rfl rfl ct ?_
    refine DW.indexAddr rfl rfl Tryz.underlying24 sz3 rfl ct rfl ct (fun _ => by (try dsimp only); omega) ?_
    refine DW.load rfl rfl one3 rfl ct (fun _ => (hb.below hW).getI hy) ?_
    refine DW.neq rfl rfl rfl ct rfl ct ?_
    refine DW.nil (DW.fin [0, 1, 5, 26] [(0, _, _), (1, _, _), (5, _, _), (26, _, _)] rfl (fun w2 b2 => KW.then_ ?_))
    have hW2 := hW.step b2
    refine CW.condP rfl (fun hd => ?_) (fun hs => ?_)
    · refine CW.seq (CW.draw mixed (by kernel_rfl) ?_)
      refine DW.move rfl rfl rfl ct ?_
      refine DW.move rfl rfl rfl ct ?_
      refine DW.indexAddr rfl rfl Tryz.underlying24 sz3 rfl ct rfl ct (fun _ => by (try dsimp only); omega) ?_
      refine DW.load rfl rfl one3 rfl ct (fun _ => (ha.below hW2).getI hx) ?_
      refine DW.move rfl rfl rfl ct ?_
      refine DW.move rfl rfl rfl ct ?_
      refine DW.indexAddr rfl rfl Tryz.underlying24 sz3 rfl ct rfl ct (fun _ => by (try dsimp only); omega) ?_
      refine DW.load rfl rfl one3 rfl ct (fun _ => (hb.below hW2).getI hy) ?_
      refine DW.lss rfl rfl rfl ct rfl ct ?_
      refine DW.assign rfl rfl rfl ct ?_
      refine DW.nil (DW.fin [0, 1, 4, 5] [(0, _, _), (1, _, _), (4, _, _), (5, _, _)] rfl (fun w3 b3 => KW.then_ ?_))
      refine CW.ret (KW.blockR (KW.thenR (KW.thenR (KW.blockR (KW.thenR ?_)))))
      refine ret1 Tryz.results23 rfl (⟨hW2.step b3, by rw [lexS_take hpre, drop_eq hx, drop_eq hy]; simp only [lexS, if_neg hd]⟩)
    refine CW.skip (KW.blockN (KW.then_ (CW.region ?_)))
    refine TW.move rfl rfl rfl ct ?_
    refine TW.add rfl rfl rfl ct rfl ct (fun _ => by (try dsimp only); omega) ?_
    refine TW.assign rfl rfl rfl ct ?_
    refine TW.nil (KW.pick [0, 1, 5] [(0, _, _), (1, _, _), (5, _, _)] rfl ?_)
    refine KW.round (k + 1) [0, 1, 5] rfl ⟨by omega, hW2, take_next hpre hx hy (by omega)⟩ (by omega)
  · refine CW.exit (KW.thenX (KW.thenX (KW.blockX (KW.then_ (CW.seq (CW.region ?_))))))
    refine TW.assign rfl rfl rfl ct ?_
    refine TW.nil (KW.pick [0, 1, 4, 5] [(0, _, _), (1, _, _), (4, _, _), (5, _, _)] rfl (KW.then_ ?_))
    refine CW.ret ?_
    refine ret1 Tryz.results23 rfl (⟨hW, ?_⟩)
    have hge' : a.length ≤ k ∨ b.length ≤ k := by
      simp at hge
      omega
    rw [lexS_take hpre]
    rcases hge' with h | h
    · rw [List.drop_of_length_le h]; rfl
    · rw [List.drop_of_length_le h]
      cases a.drop k <;> rfl

theorem explains_c {w : World} {dv lv sv : Value} {d : Dist} {l : List Ev} {S : List Int} {F : Nat → Prop} (hd : SD w dv d) (hl : SE w lv l) (hS : SL intT F w sv S) (hsm : l.length ≤ 1000000) (hne : ∀ e ∈ l, e.needs.length ≤ 1000) :
    Gives Tryz.prog 21 #[dv, lv, sv] w fun u w' => Below w.heap.size w w' ∧ u = .bool (dec (Fitted d (restS l S))) := by
  refine gives_of (vs := [dv, lv, sv]) [(0, none, _), (1, none, _), (2, none, _)] Tryz.func21 rfl Tryz.ntmps21 rfl rfl ?_
  refine CW.seq (CW.region ?_)
  refine TW.assign rfl rfl rfl ct ?_
  refine TW.nil (KW.pick [0, 1, 2, 6] [(0, _, _), (1, _, _), (2, _, _), (6, _, _)] rfl (KW.then_ ?_))
  refine CW.seq (CW.region ?_)
  refine TW.move rfl rfl rfl ct ?_
  refine TW.move rfl rfl rfl ct ?_
  refine TW.move rfl rfl rfl ct ?_
  refine TW.call0 (cap := []) rfl rfl en29 rfl (Args.cons rfl ct (Args.cons rfl ct Args.nil)) (rest_c hl hS hsm (fun e he => by have := hne e he; omega)) ?_
  rintro rv w1 ⟨c1, h1⟩
  refine TW.call0 (cap := []) rfl rfl en25 rfl (Args.cons rfl ct (Args.cons rfl ct (Args.cons rfl ct Args.nil))) (fit_c (sd_step hd c1) h1) ?_
  rintro y w2 ⟨c2, tv, rfl⟩
  refine TW.move rfl rfl rfl ct ?_
  refine TW.extract rfl rfl rfl rfl ct ?_
  refine TW.extract rfl rfl rfl rfl ct ?_
  refine TW.assign rfl rfl rfl ct ?_
  refine TW.assign rfl rfl rfl ct ?_
  refine TW.nil (KW.pick [0, 1, 2, 6, 8] [(0, _, _), (1, _, _), (2, _, _), (6, _, _), (8, _, _)] rfl (KW.then_ ?_))
  refine CW.seq (CW.region ?_)
  refine TW.move rfl rfl rfl ct ?_
  refine TW.assign rfl rfl rfl ct ?_
  refine TW.nil (KW.pick [0, 1, 2, 6, 8] [(0, _, _), (1, _, _), (2, _, _), (6, _, _), (8, _, _)] rfl (KW.then_ ?_))
  refine CW.ret ?_
  refine ret1 Tryz.results21 rfl (⟨c1.step c2, rfl⟩)

structure LiP (d : Dist) (l : List Ev) : Prop where
  light : LightP d l
  ok : LOK d l
theorem LiP.r7 {d : Dist} {l : List Ev} (h : LiP d l) : (recsS l).length ≤ 7 := by
  have := h.ok.rl
  have := h.light.rcs
  omega
theorem LiP.nd {d : Dist} {l : List Ev} (h : LiP d l) : ∀ e ∈ l, e.needs.length ≤ 1000 := fun e he => by have := h.light.few.nd e he; omega
theorem light_c {w : World} {dv lv : Value} {d : Dist} {l : List Ev} (hd : SD w dv d) (hl : SE w lv l) :
    Gives Tryz.prog 18 #[dv, lv] w fun u w' => Below w.heap.size w w' ∧ u = .bool (dec (LiP d l)) := by
  refine gives_of (vs := [dv, lv]) [(0, none, _), (1, none, _)] Tryz.func18 rfl Tryz.ntmps18 rfl rfl ?_
  refine CW.seq (CW.region ?_)
  refine TW.assign rfl rfl rfl ct ?_
  refine TW.nil (KW.pick [0, 1, 4] [(0, _, _), (1, _, _), (4, _, _)] rfl (KW.then_ ?_))
  refine CW.seq (CW.region ?_)
  refine TW.move rfl rfl rfl ct ?_
  refine TW.move rfl rfl rfl ct ?_
  refine TW.call0 (cap := []) rfl rfl en12 rfl (Args.cons rfl ct (Args.cons rfl ct Args.nil)) (rlight_c hd hl) ?_
  rintro y w1 ⟨c1, rfl⟩
  have hd1 := sd_step hd c1
  have hl1 := se_step hl c1
  refine TW.move rfl rfl rfl ct ?_
  refine TW.move rfl rfl rfl ct ?_
  refine TW.move rfl rfl rfl ct ?_
  refine TW.callF (cap := []) rfl rfl en36 rfl ct (Args.cons rfl id (Args.cons rfl id Args.nil)) (fun _ => rvalid28_c hd1 hl1) ?_
  rintro w2 c2
  refine TW.pickAnd rfl rfl rfl ct rfl pAnd0 ?_
  refine TW.move rfl rfl rfl ct ?_
  refine TW.move rfl rfl rfl ct ?_
  have hl2 := se_step hl1 c2
  by_cases hli : LightP d l
  · skip
    have hl7 := hli.l7
    have hfe := hli.few.nd
    by_cases hw : WfP d l
    · rw [dec_pos hli, dec_pos hw]
      refine TW.known rfl rfl ?_
      refine TW.call0 (cap := []) rfl rfl en20 rfl (Args.cons rfl (by simp_all [Cnd]) Args.nil) (rrecords_c hl2 (by omega) (fun e he => by have := hfe e he; omega)) ?_
      rintro rv w3 ⟨c3, hrv⟩
      obtain ⟨R, rcap, rfl, _⟩ := hrv.form
      refine TW.known rfl rfl ?_
      refine TW.lenSlice rfl rfl Tryz.underlying24 rfl ct ?_
      refine TW.known rfl rfl ?_
      refine TW.leq rfl rfl rfl ct rfl ct ?_
      refine TW.pickAnd rfl rfl rfl ct rfl pT ?_
      refine TW.assign rfl rfl rfl ct ?_
      refine TW.nil (KW.pick [0, 1, 4] [(0, _, _), (1, _, _), (4, _, _)] rfl (KW.then_ ?_))
      refine CW.ret ?_
      refine ret1 Tryz.results18 rfl (⟨(c1.step c2).step c3, ?_⟩)
      by_cases hr : (recsS l).length ≤ 14
      · rw [dec_pos ⟨hli, hw, hr⟩]
        simp [show ((recsS l).length : Int) ≤ 14 by omega]
      · rw [dec_neg fun h => hr h.ok.rl]
        simp [show ¬ ((recsS l).length : Int) ≤ 14 by omega]
    · rw [dec_pos hli, dec_neg hw, dec_neg fun h => hw h.ok.wf]
      refine TW.dead (.bool false) rfl (by simp [Cnd]) rfl ?_
      refine TW.dead (.bool false) rfl (by simp [Cnd]) rfl ?_
      refine TW.dead (.bool false) rfl (by simp [Cnd]) rfl ?_
      refine TW.pickAnd rfl rfl rfl ct rfl pAnd0 ?_
      refine TW.assign rfl rfl rfl ct ?_
      refine TW.nil (KW.pick [0, 1, 4] [(0, _, _), (1, _, _), (4, _, _)] rfl (KW.then_ ?_))
      refine CW.ret ?_
      refine ret1 Tryz.results18 rfl (⟨c1.step c2, rfl⟩)
  · rw [dec_neg hli, dec_neg fun h => hli h.light]
    refine TW.dead (.bool false) rfl (by simp [Cnd]) rfl ?_
    refine TW.dead (.bool false) rfl (by simp [Cnd]) rfl ?_
    refine TW.dead (.bool false) rfl (by simp [Cnd]) rfl ?_
    refine TW.pickAnd rfl rfl rfl ct rfl pAnd0 ?_
    refine TW.assign rfl rfl rfl ct ?_
    refine TW.nil (KW.pick [0, 1, 4] [(0, _, _), (1, _, _), (4, _, _)] rfl (KW.then_ ?_))
    refine CW.ret ?_
    refine ret1 Tryz.results18 rfl (⟨c1.step c2, rfl⟩)

/-! ### parts of a list, by bits -/
def bitAt (b i : Nat) : Prop := (b >>> (i % 8)) % 2 = 1
instance (b i : Nat) : Decidable (bitAt b i) := by unfold bitAt; infer_instance
def pickS {α : Type} (l : List α) (b : Nat) : List α := (l.zipIdx.filter fun p => decide (bitAt b p.2)).map (·.1)
theorem pickS_sub {α : Type} (l : List α) (b : Nat) : (pickS l b).Sublist l := by
  have h : ((l.zipIdx.filter fun p => decide (bitAt b p.2)).map (·.1)).Sublist (l.zipIdx.map (·.1)) := List.filter_sublist.map _
  rwa [List.zipIdx_map_fst] at h
theorem pickS_take {α : Type} {l : List α} {k : Nat} {x : α} (b : Nat) (hx : l[k]? = some x) : pickS (l.take (k + 1)) b = pickS (l.take k) b ++ if bitAt b k then [x] else [] := by
  obtain ⟨hk, _⟩ := List.getElem?_eq_some_iff.1 hx
  unfold pickS
  rw [List.take_add_one, hx, List.zipIdx_append, List.filter_append, List.map_append]
  congr 1
  have hl : (l.take k).length = k := by rw [List.length_take]; omega
  by_cases h : bitAt b k <;> simp [List.filter, hl, h]
theorem pickS_len {α : Type} (l : List α) (b : Nat) : (pickS l b).length ≤ l.length := (pickS_sub l b).length_le

set_option maxRecDepth 20000 in
theorem picked_c {w : World} {sv : Value} {L : List Int} {b : Nat} {F : Nat → Prop} (hS : SL intT F w sv L) (hb : b < 256) (hsm : L.length ≤ 1000000) :
    Gives Tryz.prog 19 #[sv, .int .u8 (b : Int)] w fun x w' => Below w.heap.size w w' ∧ SI w' x (pickS L b) := by
  obtain ⟨A, cap, rfl, _⟩ := hS.form
  have hI := hS.allI
  refine gives_of (vs := [.slice A L.length cap, .int .u8 (b : Int)]) [(0, none, _), (1, none, _)] Tryz.func19 rfl Tryz.ntmps19 rfl rfl ?_
  refine CW.seq (CW.region ?_)
  refine TW.assign rfl rfl rfl ct ?_
  refine TW.nil (KW.pick [0, 1, 4] [(0, _, _), (1, _, _), (4, _, _)] rfl (KW.then_ ?_))
  refine CW.seq (CW.region ?_)
  refine TW.buildSlice0 3 rfl rfl eo24 ?_
  rintro g1 w1 f1
  have hg1 := f1.at_
  refine TW.assign rfl rfl rfl ct ?_
  refine TW.nil (KW.pick [0, 1, 4, 5] [(0, _, _), (1, _, _), (4, _, _), (5, _, _)] rfl (KW.then_ ?_))
  refine CW.seq (CW.seq (CW.region ?_))
  refine TW.assign rfl rfl rfl ct ?_
  refine TW.nil (KW.pick [0, 1, 4, 5, 6] [(0, _, _), (1, _, _), (4, _, _), (5, _, _), (6, _, _)] rfl (KW.then_ ?_))
  refine CW.block ?_
  refine CW.loopS (fun x : Nat × Value => [(0, none, .slice A L.length cap), (1, none, .int .u8 (b : Int)), (5, none, x.2), (6, none, .int .i64 (x.1 : Int))])
    (fun x W => x.1 ≤ L.length ∧ Below w.heap.size w W ∧ OwnS W 3 1 x.2 (pickS (L.take x.1) b).length ((pickS (L.take x.1) b).map (Value.int .i64)) ∧ ∀ g, x.2.ownBlock = some g → w.heap.size ≤ g) (fun x => L.length - x.1) (0, .slice (some ⟨g1, 0, none⟩) 0 0) [0, 1, 5, 6] ⟨Nat.zero_le _, f1.below, OwnS.of_blk f1.blk rfl (by omega), fun g hg => by simp [Value.ownBlock] at hg; omega⟩ rfl ?_
  rintro ⟨k, ov⟩ W ⟨hk, hB, hO, hob⟩
  dsimp only at hk hO hob
  have hpl := pickS_len (L.take k) b
  rw [List.length_take] at hpl
  refine CW.seq (CW.seq (CW.region ?_))
  refine TW.move rfl rfl rfl ct ?_
  refine TW.move rfl rfl rfl ct ?_
  refine TW.lenSlice rfl rfl Tryz.underlying24 rfl ct ?_
  refine TW.lss rfl rfl rfl ct rfl ct ?_
  refine TW.nil (KW.pick [0, 1, 5, 6, 11] [(0, _, _), (1, _, _), (5, _, _), (6, _, _), (11, _, _)] rfl (KW.then_ ?_))
  refine CW.condP rfl (fun hlt => ?_) (fun hge => ?_)
  · obtain ⟨x, hx, hxm⟩ := getx (l := L) (k := k) (by omega)
    have hpt := pickS_take b hx
    have hSW := hS.below hB
    obtain ⟨ad, rfl⟩ := hSW.addr (by omega)
    have hm8 := Nat.mod_lt k (show 0 < 8 by decide)
    have hsh : b >>> (k % 8) < 256 := Nat.lt_of_le_of_lt (by rw [Nat.shiftRight_eq_div_pow]; exact Nat.div_le_self _ _) hb
    skip
    refine CW.skip (KW.then_ (CW.seq (CW.block (CW.seq (CW.region ?_)))))
    refine TW.move rfl rfl rfl ct ?_
    refine TW.move rfl rfl rfl ct ?_
    refine TW.conv rfl rfl rfl Tryz.underlying57 rfl ct ?_
    rw [wrap64 (z := k) (by omega)]
    refine TW.remU rfl rfl rfl ct rfl ct (fun _ => ⟨by decide, by omega⟩) ?_
    refine TW.shr8 rfl rfl rfl ct rfl ct (fun _ => Nat.le_of_lt hm8) ?_
    refine TW.rem8 rfl rfl rfl ct rfl ct (fun _ => ⟨by decide, hsh⟩) ?_
    refine TW.eql rfl rfl rfl ct rfl ct ?_
    refine TW.nil (KW.pick [0, 1, 5, 6, 20] [(0, _, _), (1, _, _), (5, _, _), (6, _, _), (20, _, _)] rfl (KW.then_ ?_))
    refine CW.condP rfl (fun hyes => ?_) (fun hnot => ?_)
    · have hbit : bitAt b k := by
        unfold bitAt
        exact_mod_cast hyes
      rw [if_pos hbit] at hpt
      refine CW.region ?_
      refine TW.move rfl rfl rfl ct ?_
      refine TW.move rfl rfl rfl ct ?_
      refine TW.move rfl rfl rfl ct ?_
      refine TW.indexAddr rfl rfl Tryz.underlying24 sz3 rfl ct rfl ct (fun _ => by (try dsimp only); omega) ?_
      refine TW.load rfl rfl one3 rfl ct (fun _ => hSW.getI hx) ?_
      refine TW.buildSlice 3 _ rfl rfl rfl eo24 (Args.cons rfl ct Args.nil) rfl rfl rfl rfl rfl ?_
      rintro g2 w2 f2
      refine TW.append [.int .i64 x] rfl rfl go24 rfl (hO.below f2.below) rfl rfl (fun j v hj => ⟨⟨g2, 0, none⟩, rfl, f2.blk.fld hj⟩) (fun v hv => by simp at hv; subst hv; rfl) (by omega) (by omega) ?_
      rintro ov' w3 o3 hg3 hn3
      refine TW.assign rfl rfl rfl ct ?_
      refine TW.nil (KW.pick [0, 1, 5, 6] [(0, _, _), (1, _, _), (5, _, _), (6, _, _)] rfl (KW.blockN (KW.then_ ?_)))
      refine CW.region ?_
      refine TW.move rfl rfl rfl ct ?_
      refine TW.add rfl rfl rfl ct rfl ct (fun _ => by (try dsimp only); omega) ?_
      refine TW.assign rfl rfl rfl ct ?_
      refine TW.nil (KW.pick [0, 1, 5, 6] [(0, _, _), (1, _, _), (5, _, _), (6, _, _)] rfl ?_)
      have hB2 := hB.step f2.below
      refine KW.round (k + 1, ov') [0, 1, 5, 6] rfl ⟨by show k + 1 ≤ L.length; omega, hB2.grown hg3 hB2.size hob, ?_, fun g hg => ?_⟩ (by show L.length - (k + 1) < L.length - k; omega)
      · show OwnS w3 _ 1 ov' (pickS (L.take (k + 1)) b).length ((pickS (L.take (k + 1)) b).map (Value.int .i64))
        rw [hpt]
        simpa using o3
      · rcases hn3 with h | h
        · exact hob g (by rw [← h]; exact hg)
        · rw [h] at hg; cases hg; exact hB2.size
    · have hbit : ¬ bitAt b k := fun h => hnot (by unfold bitAt at h; exact_mod_cast h)
      rw [if_neg hbit, List.append_nil] at hpt
      refine CW.skip (KW.blockN (KW.then_ (CW.region ?_)))
      refine TW.move rfl rfl rfl ct ?_
      refine TW.add rfl rfl rfl ct rfl ct (fun _ => by (try dsimp only); omega) ?_
      refine TW.assign rfl rfl rfl ct ?_
      refine TW.nil (KW.pick [0, 1, 5, 6] [(0, _, _), (1, _, _), (5, _, _), (6, _, _)] rfl ?_)
      refine KW.round (k + 1, ov) [0, 1, 5, 6] rfl ⟨by show k + 1 ≤ L.length; omega, hB, ?_, hob⟩ (by show L.length - (k + 1) < L.length - k; omega)
      show OwnS W _ 1 ov (pickS (L.take (k + 1)) b).length ((pickS (L.take (k + 1)) b).map (Value.int .i64))
      rw [hpt]
      exact hO
  · have hke : k = L.length := by omega
    subst hke
    rw [List.take_length] at hO
    have hpl' := pickS_len L b
    refine CW.exit (KW.thenX (KW.thenX (KW.blockX (KW.then_ (CW.seq (CW.region ?_))))))
    refine TW.move rfl rfl rfl ct ?_
    refine TW.assign rfl rfl rfl ct ?_
    refine TW.nil (KW.pick [0, 1, 4, 5, 6] [(0, _, _), (1, _, _), (4, _, _), (5, _, _), (6, _, _)] rfl (KW.then_ ?_))
    refine CW.ret ?_
    refine ret1 Tryz.results19 rfl (⟨hB, OwnS.toInts hO (fun x hx => hI x ((pickS_sub L b).subset hx)) (fun g hg => hO.lt hg) (by omega)⟩)

set_option maxRecDepth 20000 in
theorem chosen_c {w : World} {v : Value} {l : List Ev} {b : Nat} (hl : SE w v l) (hb : b < 256) (hsm : l.length ≤ 1000000) :
    Gives Tryz.prog 26 #[v, .int .u8 (b : Int)] w fun x w' => Below w.heap.size w w' ∧ SE w' x (pickS l b) := by
  obtain ⟨A, cap, rfl, _⟩ := hl.form
  refine gives_of (vs := [.slice A l.length cap, .int .u8 (b : Int)]) [(0, none, _), (1, none, _)] Tryz.func26 rfl Tryz.ntmps26 rfl rfl ?_
  refine CW.seq (CW.region ?_)
  refine TW.assign rfl rfl rfl ct ?_
  refine TW.nil (KW.pick [0, 1, 4] [(0, _, _), (1, _, _), (4, _, _)] rfl (KW.then_ ?_))
  refine CW.seq (CW.region ?_)
  refine TW.assign rfl rfl rfl ct ?_
  refine TW.nil (KW.pick [0, 1, 4, 5] [(0, _, _), (1, _, _), (4, _, _), (5, _, _)] rfl (KW.then_ ?_))
  refine CW.seq (CW.seq (CW.region ?_))
  refine TW.assign rfl rfl rfl ct ?_
  refine TW.nil (KW.pick [0, 1, 4, 5, 6] [(0, _, _), (1, _, _), (4, _, _), (5, _, _), (6, _, _)] rfl (KW.then_ ?_))
  refine CW.block ?_
  refine CW.loopS (fun x : Nat × Value × List (List Value × Ev) => [(0, none, .slice A l.length cap), (1, none, .int .u8 (b : Int)), (5, none, x.2.1), (6, none, .int .i64 (x.1 : Int))])
    (fun x W' => x.1 ≤ l.length ∧ Below w.heap.size w W' ∧ RowL evT W' 43 w.heap.size x.2.1 x.2.2 ∧ x.2.2.map (·.2) = pickS (l.take x.1) b) (fun x => l.length - x.1) (0, .slice none 0 0, []) [0, 1, 5, 6] ⟨Nat.zero_le _, Below.refl _ _, RowL.nil _ _ _ _, rfl⟩ rfl ?_
  rintro ⟨k, rv, ps⟩ W ⟨hk, hB, hR, hmap⟩
  dsimp only at hk hB hR hmap
  have hpl := pickS_len (l.take k) b
  rw [List.length_take] at hpl
  have hfew : ps.length ≤ 1000000 := by
    have h1 : ps.length = (pickS (l.take k) b).length := by rw [← hmap]; simp
    omega
  refine CW.seq (CW.seq (CW.region ?_))
  refine TW.move rfl rfl rfl ct ?_
  refine TW.move rfl rfl rfl ct ?_
  refine TW.lenSlice rfl rfl Tryz.underlying23 rfl ct ?_
  refine TW.lss rfl rfl rfl ct rfl ct ?_
  refine TW.nil (KW.pick [0, 1, 5, 6, 10] [(0, _, _), (1, _, _), (5, _, _), (6, _, _), (10, _, _)] rfl (KW.then_ ?_))
  refine CW.condP rfl (fun hlt => ?_) (fun hge => ?_)
  · have hkl : k < l.length := by omega
    obtain ⟨e, he, hem⟩ := getx (l := l) (k := k) (by omega)
    have hpt := pickS_take b he
    obtain ⟨ad, rfl⟩ := hl.addr (by omega)
    obtain ⟨nv, hcells0, i1, i2, i3, hn0⟩ := SE.get hl he
    obtain ⟨C, ncap, rfl, _⟩ := hn0.form
    have hcells : ∀ j v, [Value.int .i64 e.office, .int .i64 e.low, .int .i64 e.high, .slice C e.needs.length ncap][j]? = some v → W.cell? ((ad.add ((k : Int).toNat * 4)).add j) = some v := fun j v hv => (hB.cell (block_lt_of_cell (hcells0 j v hv))).trans (hcells0 j v hv)
    have hm8 := Nat.mod_lt k (show 0 < 8 by decide)
    have hsh : b >>> (k % 8) < 256 := Nat.lt_of_le_of_lt (by rw [Nat.shiftRight_eq_div_pow]; exact Nat.div_le_self _ _) hb
    skip
    refine CW.skip (KW.then_ (CW.seq (CW.block (CW.seq (CW.region ?_)))))
    refine TW.move rfl rfl rfl ct ?_
    refine TW.move rfl rfl rfl ct ?_
    refine TW.conv rfl rfl rfl Tryz.underlying57 rfl ct ?_
    rw [wrap64 (z := k) (by omega)]
    refine TW.remU rfl rfl rfl ct rfl ct (fun _ => ⟨by decide, by omega⟩) ?_
    refine TW.shr8 rfl rfl rfl ct rfl ct (fun _ => Nat.le_of_lt hm8) ?_
    refine TW.rem8 rfl rfl rfl ct rfl ct (fun _ => ⟨by decide, hsh⟩) ?_
    refine TW.eql rfl rfl rfl ct rfl ct ?_
    refine TW.nil (KW.pick [0, 1, 5, 6, 19] [(0, _, _), (1, _, _), (5, _, _), (6, _, _), (19, _, _)] rfl (KW.then_ ?_))
    refine CW.condP rfl (fun hyes => ?_) (fun hnot => ?_)
    · have hbit : bitAt b k := by
        unfold bitAt
        exact_mod_cast hyes
      rw [if_pos hbit] at hpt
      refine CW.region ?_
      refine TW.move rfl rfl rfl ct ?_
      refine TW.move rfl rfl rfl ct ?_
      refine TW.move rfl rfl rfl ct ?_
      refine TW.indexAddr rfl rfl Tryz.underlying23 sz43 rfl ct rfl ct (fun _ => by (try dsimp only); omega) ?_
      refine TW.loadS _ rfl rfl Tryz.underlying43 sz43 rfl ct (fun _ => hcells) rfl ?_
      refine TW.buildSlice 43 _ rfl rfl rfl eo23 (Args.cons rfl ct Args.nil) rfl rfl rfl rfl rfl ?_
      rintro g7 w7 f7
      have hR7 := hR.step f7.below
      have hBW7 := hB.step f7.below
      refine TW.append [.int .i64 e.office, .int .i64 e.low, .int .i64 e.high, .slice C e.needs.length ncap] rfl rfl go23 rfl hR7.1 rfl rfl (fun j v hj => ⟨⟨g7, 0, none⟩, rfl, f7.blk.fld hj⟩) (fun v hv => by simp at hv; rcases hv with rfl | rfl | rfl | rfl <;> rfl) (by omega) (by omega) ?_
      rintro rv' w8 hO8 hg8 hnew8
      refine TW.assign rfl rfl rfl ct ?_
      refine TW.nil (KW.pick [0, 1, 5, 6] [(0, _, _), (1, _, _), (5, _, _), (6, _, _)] rfl (KW.blockN (KW.then_ ?_)))
      refine CW.region ?_
      refine TW.move rfl rfl rfl ct ?_
      refine TW.add rfl rfl rfl ct rfl ct (fun _ => by (try dsimp only); omega) ?_
      refine TW.assign rfl rfl rfl ct ?_
      refine TW.nil (KW.pick [0, 1, 5, 6] [(0, _, _), (1, _, _), (5, _, _), (6, _, _)] rfl ?_)
      have hn7 : SL intT (RowF w7 rv) w7 (.slice C e.needs.length ncap) e.needs := (hn0.below hBW7).wider (fun q hq => ⟨by have := hBW7.size; omega, fun e => by have := hR.2.2 q e; omega⟩)
      have hR8 : RowL evT w8 43 w.heap.size rv' (ps ++ [([.int .i64 e.office, .int .i64 e.low, .int .i64 e.high, .slice C e.needs.length ncap], e)]) := hR7.app hO8 hg8 hnew8 ⟨_, rfl, i1, i2, i3, hn7⟩ hBW7.size
      refine KW.round (k + 1, rv', ps ++ [([.int .i64 e.office, .int .i64 e.low, .int .i64 e.high, .slice C e.needs.length ncap], e)]) [0, 1, 5, 6] rfl ⟨by show k + 1 ≤ l.length; omega, hBW7.grown hg8 hBW7.size hR.2.2, hR8, ?_⟩ (by show l.length - (k + 1) < l.length - k; omega)
      show List.map Prod.snd (ps ++ [_]) = pickS (l.take (k + 1)) b
      rw [List.map_append, hmap, hpt]
      rfl
    · have hbit : ¬ bitAt b k := fun h => hnot (by unfold bitAt at h; exact_mod_cast h)
      rw [if_neg hbit, List.append_nil] at hpt
      refine CW.skip (KW.blockN (KW.then_ (CW.region ?_)))
      refine TW.move rfl rfl rfl ct ?_
      refine TW.add rfl rfl rfl ct rfl ct (fun _ => by (try dsimp only); omega) ?_
      refine TW.assign rfl rfl rfl ct ?_
      refine TW.nil (KW.pick [0, 1, 5, 6] [(0, _, _), (1, _, _), (5, _, _), (6, _, _)] rfl ?_)
      refine KW.round (k + 1, rv, ps) [0, 1, 5, 6] rfl ⟨by show k + 1 ≤ l.length; omega, hB, hR, ?_⟩ (by show l.length - (k + 1) < l.length - k; omega)
      show ps.map (·.2) = pickS (l.take (k + 1)) b
      rw [hmap, hpt]
  · have hke : k = l.length := by omega
    subst hke
    refine CW.exit (KW.thenX (KW.thenX (KW.blockX (KW.then_ (CW.seq (CW.region ?_))))))
    refine TW.move rfl rfl rfl ct ?_
    refine TW.assign rfl rfl rfl ct ?_
    refine TW.nil (KW.pick [0, 1, 4, 5, 6] [(0, _, _), (1, _, _), (4, _, _), (5, _, _), (6, _, _)] rfl (KW.then_ ?_))
    refine CW.ret ?_
    refine ret1 Tryz.results26 rfl (⟨hB, ?_⟩)
    have := hR.sl (by decide)
    rw [hmap, List.take_length] at this
    exact this

theorem meets_c {w : World} {F G : Nat → Prop} {v u : Value} {a b : List Int} (ha : SL intT F w v a) (hb : SL intT G w u b) : Gives Tryz.prog 27 #[v, u] w fun x w' => Below w.heap.size w w' ∧ x = .bool (decide (∃ x ∈ a, x ∈ b)) := by
  obtain ⟨A, cap, rfl, _⟩ := ha.form
  have hmax := ha.len.2.2
  refine gives_of (vs := [.slice A a.length cap, u]) [(0, none, _), (1, none, _)] Tryz.func27 rfl Tryz.ntmps27 rfl rfl ?_
  refine CW.seq (CW.region ?_)
  refine TW.assign rfl rfl rfl ct ?_
  refine TW.nil (KW.pick [0, 1, 4] [(0, _, _), (1, _, _), (4, _, _)] rfl (KW.then_ ?_))
  refine CW.seq (CW.seq (CW.region ?_))
  refine TW.assign rfl rfl rfl ct ?_
  refine TW.nil (KW.pick [0, 1, 4, 5] [(0, _, _), (1, _, _), (4, _, _), (5, _, _)] rfl (KW.then_ ?_))
  refine CW.block ?_
  refine CW.loopS (fun k : Nat => [(0, none, .slice A a.length cap), (1, none, u), (5, none, .int .i64 (k : Int))])
    (fun k W => k ≤ a.length ∧ Below w.heap.size w W ∧ ∀ x ∈ a.take k, x ∉ b) (fun k => a.length - k) 0 [0, 1, 5] ⟨by omega, Below.refl _ _, by simp⟩ rfl ?_
  rintro k W ⟨hk, hW, hpre⟩
  refine CW.seq (CW.seq (CW.region ?_))
  refine TW.move rfl rfl rfl ct ?_
  refine TW.move rfl rfl rfl ct ?_
  refine TW.lenSlice rfl rfl Tryz.underlying24 rfl ct ?_
  refine TW.lss rfl rfl rfl ct rfl ct ?_
  refine TW.nil (KW.pick [0, 1, 5, 9] [(0, _, _), (1, _, _), (5, _, _), (9, _, _)] rfl (KW.then_ ?_))
  refine CW.condP rfl (fun hlt => ?_) (fun hge => ?_)
  · obtain ⟨x, hx, hxm⟩ := getx (l := a) (k := k) (by omega)
    obtain ⟨ad, rfl⟩ := ha.addr (by omega)
    refine CW.skip (KW.then_ (CW.seq (CW.block (CW.seq (CW.region ?_)))))
    refine TW.move rfl rfl rfl ct ?_
    refine TW.move rfl rfl rfl ct ?_
    refine TW.move rfl rfl rfl ct ?_
    refine TW.indexAddr rfl rfl Tryz.underlying24 sz3 rfl ct rfl ct (fun _ => by (try dsimp only); omega) ?_
    refine TW.load rfl rfl one3 rfl ct (fun _ => (ha.below hW).getI hx) ?_
    refine TW.call0 (cap := []) rfl rfl en42 rfl (Args.cons rfl ct (Args.cons rfl ct Args.nil)) (rin_c (hb.below hW)) ?_
    rintro y w2 ⟨c2, rfl⟩
    refine TW.nil (KW.pick [0, 1, 5, 17] [(0, _, _), (1, _, _), (5, _, _), (17, _, _)] rfl (KW.then_ ?_))
    refine CW.condP rfl (fun hd => ?_) (fun hs => ?_)
    · refine CW.seq (CW.region ?_)
      refine TW.assign rfl rfl rfl ct ?_
      refine TW.nil (KW.pick [0, 1, 4, 5] [(0, _, _), (1, _, _), (4, _, _), (5, _, _)] rfl (KW.then_ ?_))
      refine CW.ret (KW.blockR (KW.thenR (KW.thenR (KW.blockR (KW.thenR ?_)))))
      refine ret1 Tryz.results27 rfl (⟨hW.step c2, by rw [decide_eq_true ⟨x, hxm, hd⟩]⟩)
    refine CW.skip (KW.blockN (KW.then_ (CW.region ?_)))
    refine TW.move rfl rfl rfl ct ?_
    refine TW.add rfl rfl rfl ct rfl ct (fun _ => by (try dsimp only); omega) ?_
    refine TW.assign rfl rfl rfl ct ?_
    refine TW.nil (KW.pick [0, 1, 5] [(0, _, _), (1, _, _), (5, _, _)] rfl ?_)
    refine KW.round (k + 1) [0, 1, 5] rfl ⟨by omega, hW.step c2, fun z hz => ?_⟩ (by omega)
    rw [List.take_add_one, hx] at hz
    rcases List.mem_append.1 hz with h | h
    · exact hpre z h
    · simp at h
      subst h
      exact hs
  · have hke : k = a.length := by omega
    subst hke
    rw [List.take_length] at hpre
    refine CW.exit (KW.thenX (KW.thenX (KW.blockX (KW.then_ (CW.seq (CW.region ?_))))))
    refine TW.assign rfl rfl rfl ct ?_
    refine TW.nil (KW.pick [0, 1, 4, 5] [(0, _, _), (1, _, _), (4, _, _), (5, _, _)] rfl (KW.then_ ?_))
    refine CW.ret ?_
    refine ret1 Tryz.results27 rfl (⟨hW, by rw [decide_eq_false fun ⟨x, h1, h2⟩ => hpre x h1 h2]⟩)
end Go.Proofs.YtmhfeehkpndadaaGreat
