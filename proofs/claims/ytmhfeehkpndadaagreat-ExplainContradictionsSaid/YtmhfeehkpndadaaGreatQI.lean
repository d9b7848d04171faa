/- Texts joined: Pl Ef AppZ Eg Mn Lit Eh. -/
import Derived.Test.YtmhfeehkpndadaaGreatQH
import Derived.Test.YtmhfeehkpndadaaGreatQE
import Derived.Test.YtmhfeehkpndadaaGreatQC
import Derived.WalkSmall
import Derived.Test.YtmhfeehkpndadaaGreatQG
import Derived.Test.YtmhfeehkpndadaaGreatQD
set_option linter.unusedSimpArgs false
set_option linter.unusedVariables false

namespace Go.Proofs.YtmhfeehkpndadaaGreat
open Go.PF Go.RowKit Go.Ord

/-- a sublist that is too short can be made longer -/
theorem sub_extend {α : Type} : ∀ {l t : List α}, t.Sublist l → ∀ n, t.length ≤ n → n ≤ l.length → ∃ b, t.Sublist b ∧ b.Sublist l ∧ b.length = n
  | [], t, h, n, h1, h2 => ⟨[], by simpa using h, List.Sublist.refl _, by simp at h2; simp [h2]⟩
  | x :: l, t, h, n, h1, h2 => by
    cases h with
    | cons _ h =>
      by_cases hn : n ≤ l.length
      · obtain ⟨b, q1, q2, q3⟩ := sub_extend h n h1 hn
        exact ⟨b, q1, q2.cons x, q3⟩
      · simp at h2
        exact ⟨x :: l, h.cons x, List.Sublist.refl _, by simp; omega⟩
    | cons_cons _ h =>
      rename_i t'
      simp at h1 h2
      obtain ⟨b, q1, q2, q3⟩ := sub_extend h (n - 1) (by omega) (by omega)
      exact ⟨x :: b, q1.cons_cons x, q2.cons_cons x, by simp; omega⟩

theorem gone_iff {S : List Int} {e : Ev} : gone S e = true ↔ ∃ r ∈ e.needs, r ∈ S := by
  unfold gone
  simp
theorem rest_less {l : List Ev} {S T : List Int} (h : ∀ e ∈ l, gone S e = true → gone T e = true) : (restS l T).Sublist (restS l S) := by
  unfold restS
  have e1 : l.filter (fun e => !gone T e) = (l.filter (fun e => !gone S e)).filter (fun e => !gone T e) := by
    rw [List.filter_filter]
    refine List.filter_congr fun e he => ?_
    cases h1 : gone S e with
    | false => simp
    | true => simp [h e he h1]
  rw [e1]
  exact List.filter_sublist

structure WOK (d : Dist) (l : List Ev) (most : Int) : Prop where
  wf : WfP d l
  m0 : 0 ≤ most
  m3 : most ≤ 3
  rl : (recsS l).length ≤ 14
theorem WOK.eq {d : Dist} {l : List Ev} {most : Int} (h : WOK d l most) : worldsS d l most = (setsS (recsS l) (min most.toNat (recsS l).length)).filter (fun S => dec (Poss d (restS l S))) := by
  unfold worldsS
  rw [if_pos ⟨dec_pos h.wf, h.m0, h.m3, h.rl⟩]
theorem WOK.mem {d : Dist} {l : List Ev} {most : Int} (h : WOK d l most) {b : List Int} : b ∈ worldsS d l most ↔ b.Sublist (recsS l) ∧ b.length = min most.toNat (recsS l).length ∧ Poss d (restS l b) := by
  rw [h.eq, List.mem_filter, mem_setsS, dec_iff, and_assoc]
theorem WOK.err {d : Dist} {l : List Ev} {most : Int} (h : WOK d l most) : worldsE d l most = if worldsS d l most = [] then 280 else 0 := by
  unfold worldsE
  rw [if_pos ⟨dec_pos h.wf, h.m0, h.m3⟩, if_pos h.rl]
theorem WOK.ok {d : Dist} {l : List Ev} {most : Int} (h : WOK d l most) {b : List Int} (hb : b ∈ worldsS d l most) : worldsE d l most = 0 := by
  rw [h.err, if_neg (fun e => by rw [e] at hb; cases hb)]
/-- what is possible without some records lies in a world -/
theorem WOK.has {d : Dist} {l : List Ev} {most : Int} (h : WOK d l most) {s : List Int} (hs : (s.length : Int) ≤ most) (hp : Poss d (restS l s)) : ∃ b ∈ worldsS d l most, ∀ x ∈ s.filter (fun y => decide (y ∈ recsS l)), x ∈ b := by
  have hm := h.m0
  have hnd : (recsS l).Nodup := (recsS_inc l).nodup
  have hsub : ((recsS l).filter fun y => decide (y ∈ s)).Sublist (recsS l) := List.filter_sublist
  have hle : ((recsS l).filter fun y => decide (y ∈ s)).length ≤ s.length := nodup_len (hnd.sublist hsub) (fun x hx => by
    have := (List.mem_filter.1 hx).2
    simpa using this)
  have hle2 := hsub.length_le
  obtain ⟨b, q1, q2, q3⟩ := sub_extend hsub (min most.toNat (recsS l).length) (by omega) (by omega)
  have hin : ∀ x ∈ s, x ∈ recsS l → x ∈ b := fun x h1 h2 => q1.subset (List.mem_filter.2 ⟨h2, by simpa using h1⟩)
  refine ⟨b, h.mem.2 ⟨q2, q3, hp.sub (rest_less fun e he hg => ?_)⟩, fun x hx => ?_⟩
  · obtain ⟨r, hr, hrs⟩ := gone_iff.1 hg
    exact gone_iff.2 ⟨r, hr, hin r hrs (mem_recsS.2 ⟨e, he, hr⟩)⟩
  · obtain ⟨h1, h2⟩ := List.mem_filter.1 hx
    exact hin x h1 (by simpa using h2)

theorem WfP.sub {d : Dist} {l l' : List Ev} (h : WfP d l) (hs : l'.Sublist l) : WfP d l' :=
  ⟨h.wd, by have := hs.length_le; have := h.few; omega, fun e he => h.each e (hs.subset he), fun e he => h.pos e (hs.subset he)⟩
theorem recs_sub {l l' : List Ev} (hs : l'.Sublist l) : ∀ x ∈ recsS l', x ∈ recsS l := fun x hx => by
  obtain ⟨e, he, hxe⟩ := mem_recsS.1 hx
  exact mem_recsS.2 ⟨e, hs.subset he, hxe⟩
theorem WOK.sub {d : Dist} {l l' : List Ev} {most : Int} (h : WOK d l most) (hs : l'.Sublist l) : WOK d l' most :=
  ⟨h.wf.sub hs, h.m0, h.m3, by have := nodup_len (recsS_inc l').nodup (recs_sub hs); have := h.rl; omega⟩
theorem WOK.len {d : Dist} {l : List Ev} {most : Int} (h : WOK d l most) {b : List Int} (hb : b ∈ worldsS d l most) : (b.length : Int) ≤ most := by
  have := (h.mem.1 hb).2.1
  have := h.m0
  omega
theorem WOK.more {d : Dist} {l : List Ev} {most : Int} (h : WOK d l most) (h3 : most < 3) {b : List Int} (hb : b ∈ worldsS d l most) : ∃ c ∈ worldsS d l (most + 1), ∀ x ∈ b, x ∈ c := by
  have hw : WOK d l (most + 1) := ⟨h.wf, by have := h.m0; omega, by omega, h.rl⟩
  obtain ⟨q1, q2, q3⟩ := h.mem.1 hb
  obtain ⟨c, hc, hin⟩ := hw.has (s := b) (by have := h.len hb; omega) q3
  exact ⟨c, hc, fun x hx => hin x (List.mem_filter.2 ⟨hx, by simpa using q1.subset hx⟩)⟩
theorem WOK.fewer {d : Dist} {l l' : List Ev} {most : Int} (h : WOK d l most) (hs : l'.Sublist l) {b : List Int} (hb : b ∈ worldsS d l most) : ∃ c ∈ worldsS d l' most, ∀ x ∈ b.filter (fun y => decide (y ∈ recsS l')), x ∈ c := by
  obtain ⟨q1, q2, q3⟩ := h.mem.1 hb
  exact (h.sub hs).has (h.len hb) (q3.sub (hs.filter _))

/-! ### the order of the sets -/
theorem lex_heads {x y : Int} {a b : List Int} (h : x < y) : lexS (x :: a) (y :: b) = true := by
  unfold lexS
  rw [if_neg (by omega)]
  simpa using h
theorem setsS_lex : ∀ {l : List Int}, Inc l → ∀ k, (setsS l k).Pairwise fun a b => lexS a b = true
  | l, _, 0 => by
    have : setsS l 0 = [[]] := by cases l <;> rfl
    rw [this]; exact List.pairwise_singleton _ _
  | [], _, k + 1 => List.Pairwise.nil
  | x :: l, h, k + 1 => by
    have h' := List.pairwise_cons.1 h
    simp only [setsS]
    refine List.pairwise_append.2 ⟨?_, setsS_lex h'.2 (k + 1), fun a ha b hb => ?_⟩
    · rw [List.pairwise_map]
      exact (setsS_lex h'.2 k).imp fun hab => by simp only [lexS, if_true]; exact hab
    · obtain ⟨a', _, rfl⟩ := List.mem_map.1 ha
      obtain ⟨hbs, hbl⟩ := mem_setsS.1 hb
      cases b with
      | nil => simp at hbl
      | cons y b => exact lex_heads (h'.1 y (hbs.subset (by simp)))
theorem WOK.lex {d : Dist} {l : List Ev} {most : Int} (h : WOK d l most) : (worldsS d l most).Pairwise fun a b => lexS a b = true := by
  rw [h.eq]
  exact (setsS_lex (recsS_inc l) _).sublist List.filter_sublist
theorem WOK.inc {d : Dist} {l : List Ev} {most : Int} (h : WOK d l most) {b : List Int} (hb : b ∈ worldsS d l most) : Inc b := (recsS_inc l).sublist (h.mem.1 hb).1
end Go.Proofs.YtmhfeehkpndadaaGreat

namespace Go.Proofs.YtmhfeehkpndadaaGreat
open Go.PF Go.RowKit Go.Ord

theorem explained_c {w : World} {dv lv sv : Value} {d : Dist} {l : List Ev} {S : List Int} {F : Nat → Prop} (hd : SD w dv d) (hl : SE w lv l) (hS : SL intT F w sv S) (hsm : l.length ≤ 1000000) (hne : ∀ e ∈ l, e.needs.length ≤ 1000000) :
    Gives Tryz.prog 32 #[dv, lv, sv] w fun u w' => Below w.heap.size w w' ∧ u = .bool (dec (Fitted d (restS l S))) := by
  refine gives_of (vs := [dv, lv, sv]) [(0, none, _), (1, none, _), (2, none, _)] Tryz.func32 rfl Tryz.ntmps32 rfl rfl ?_
  refine CW.seq (CW.region ?_)
  refine TW.assign rfl rfl rfl ct ?_
  refine TW.nil (KW.pick [0, 1, 2, 6] [(0, _, _), (1, _, _), (2, _, _), (6, _, _)] rfl (KW.then_ ?_))
  refine CW.seq (CW.region ?_)
  refine TW.move rfl rfl rfl ct ?_
  refine TW.move rfl rfl rfl ct ?_
  refine TW.move rfl rfl rfl ct ?_
  refine TW.call0 (cap := []) rfl rfl en29 rfl (Args.cons rfl ct (Args.cons rfl ct Args.nil)) (rest_c hl hS hsm hne) ?_
  rintro rv w1 ⟨c1, h1⟩
  refine TW.call0 (cap := []) rfl rfl en25 rfl (Args.cons rfl ct (Args.cons rfl ct (Args.cons rfl ct Args.nil))) (fit_c (sd_step hd c1) h1) ?_
  rintro y w2 ⟨c2, tv, rfl⟩
  refine TW.move rfl rfl rfl ct ?_
  refine TW.extract rfl rfl rfl rfl ct ?_
  refine TW.extract rfl rfl rfl rfl ct ?_
  refine TW.assign rfl rfl rfl ct ?_
  refine TW.assign rfl rfl rfl ct ?_
  refine TW.nil (KW.pick [0, 1, 2, 6, 8] [(0, _, _), (1, _, _), (2, _, _), (6, _, _), (8, _, _)] rfl (KW.then_ ?_))
  refine CW.seq (CW.region ?_)
  refine TW.move rfl rfl rfl ct ?_
  refine TW.assign rfl rfl rfl ct ?_
  refine TW.nil (KW.pick [0, 1, 2, 6, 8] [(0, _, _), (1, _, _), (2, _, _), (6, _, _), (8, _, _)] rfl (KW.then_ ?_))
  refine CW.ret ?_
  refine ret1 Tryz.results32 rfl (⟨c1.step c2, rfl⟩)

theorem withdraw1_c {w : World} {dv lv sv : Value} {d : Dist} {l : List Ev} {S : List Int} {F : Nat → Prop} {g1 g2 : Nat} (hd : SD w dv d) (hl : SE w lv l) (hB1 : Blk w g1 22 [dv]) (hB2 : Blk w g2 23 [lv]) (hS : SL intT F w sv S) (hsm : l.length ≤ 1000000) (hne : ∀ e ∈ l, e.needs.length ≤ 1000000) :
    Gives Tryz.prog 31 #[sv, .pointer (some ⟨g1, 0, none⟩), .pointer (some ⟨g2, 0, none⟩)] w fun u w' => Below w.heap.size w w' ∧ u = .bool (dec (Fitted d (restS l S))) := by
  refine gives_of (vs := [sv, .pointer (some ⟨g1, 0, none⟩), .pointer (some ⟨g2, 0, none⟩)]) [(0, none, _), (1, none, _), (2, none, _)] Tryz.func31 rfl Tryz.ntmps31 rfl rfl ?_
  refine CW.seq (CW.region ?_)
  refine TW.assign rfl rfl rfl ct ?_
  refine TW.nil (KW.pick [0, 1, 2, 4] [(0, _, _), (1, _, _), (2, _, _), (4, _, _)] rfl (KW.then_ ?_))
  refine CW.seq (CW.region ?_)
  refine TW.load rfl rfl one22 rfl ct (fun _ => hB1.cell 0) ?_
  refine TW.load rfl rfl one23 rfl ct (fun _ => hB2.cell 0) ?_
  refine TW.move rfl rfl rfl ct ?_
  refine TW.call0 (cap := []) rfl rfl en32 rfl (Args.cons rfl ct (Args.cons rfl ct (Args.cons rfl ct Args.nil))) (explained_c hd hl hS hsm hne) ?_
  rintro y w1 ⟨c1, rfl⟩
  refine TW.assign rfl rfl rfl ct ?_
  refine TW.nil (KW.pick [0, 1, 2, 4] [(0, _, _), (1, _, _), (2, _, _), (4, _, _)] rfl (KW.then_ ?_))
  refine CW.ret ?_
  refine ret1 Tryz.results31 rfl (⟨c1, rfl⟩)

noncomputable def firstS (d : Dist) (l : List Ev) : Option (List Int) := (allS (recsS l)).find? fun S => dec (Poss d (restS l S))
noncomputable def withE (d : Dist) (l : List Ev) : Int := if dec (WfP d l) = true then (if (recsS l).length ≤ 14 then (match firstS d l with | some _ => 0 | none => 280) else 2) else 1
noncomputable def withS (d : Dist) (l : List Ev) : List Int := if dec (WfP d l) = true ∧ (recsS l).length ≤ 14 then (firstS d l).getD [] else []
theorem allS_head (l : List Int) : ∃ rest, allS l = [] :: rest := by
  unfold allS
  rw [List.range_succ_eq_map, List.flatMap_cons]
  have : setsS l 0 = [[]] := by cases l <;> rfl
  rw [this]
  exact ⟨_, rfl⟩
theorem first_nil {d : Dist} {l : List Ev} (h : Poss d (restS l [])) : firstS d l = some [] := by
  unfold firstS
  obtain ⟨r, hr⟩ := allS_head (recsS l)
  rw [hr]
  simp [dec_pos h]
theorem worlds0 {d : Dist} {l : List Ev} (h : WOK d l 0) : worldsS d l 0 = [] ↔ ¬ Poss d (restS l []) := by
  rw [h.eq]
  have : setsS (recsS l) (min (0 : Int).toNat (recsS l).length) = [[]] := by
    rw [show min (0 : Int).toNat (recsS l).length = 0 by simp]
    cases recsS l <;> rfl
  rw [this]
  by_cases hp : Poss d (restS l []) <;> simp [List.filter, hp, dec_pos, dec_neg]

set_option maxRecDepth 20000 in
set_option maxHeartbeats 1000000 in
theorem withdraw_c {w : World} {dv lv : Value} {d : Dist} {l : List Ev} (hd : SD w dv d) (hl : SE w lv l) (hne : ∀ e ∈ l, e.needs.length ≤ 1000) :
    Gives Tryz.prog 13 #[dv, lv] w fun x w' => Below w.heap.size w w' ∧ ∃ v, x = .tuple #[v, .int .i64 (withE d l)] ∧ SI w' v (withS d l) := by
  obtain ⟨A, cap, rfl, _⟩ := hd.form
  obtain ⟨B, bcap, rfl, _⟩ := hl.form
  refine gives_of (vs := [.slice A d.length cap, .slice B l.length bcap]) [(0, none, _), (1, none, _)] Tryz.func13 rfl Tryz.ntmps13 rfl rfl ?_
  refine CW.seq (CW.region ?_)
  refine TW.box rfl rfl rfl rfl ?_
  rintro g2 w1 f1
  refine TW.box rfl rfl rfl rfl ?_
  rintro g3 w2 f2
  refine TW.assign rfl rfl rfl ct ?_
  refine TW.assign rfl rfl rfl ct ?_
  refine TW.nil (KW.pick [0, 1, 2, 3, 4, 5] [(0, _, _), (1, _, _), (2, _, _), (3, _, _), (4, _, _), (5, _, _)] rfl (KW.then_ ?_))
  refine CW.seq (CW.seq (CW.region ?_))
  have b2 := f1.below.step f2.below
  have B2 := f1.blk.next f2.below
  have B3 := f2.blk
  have hd2 := sd_step hd b2
  have hl2 := se_step hl b2
  refine TW.load rfl rfl one22 rfl ct (fun _ => B2.cell 0) ?_
  refine TW.load rfl rfl one23 rfl ct (fun _ => B3.cell 0) ?_
  refine TW.call0 (cap := []) rfl rfl en24 rfl (Args.cons rfl ct (Args.cons rfl ct (Args.cons rfl ct Args.nil))) (worlds_c hd2 hl2 hne) ?_
  rintro y w3 ⟨c3, wv, rfl, hw3⟩
  have b3 := b2.step c3
  refine TW.move rfl rfl rfl ct ?_
  refine TW.extract rfl rfl rfl rfl ct ?_
  refine TW.extract rfl rfl rfl rfl ct ?_
  refine TW.assign rfl rfl rfl ct ?_
  refine TW.assign rfl rfl rfl ct ?_
  refine TW.nil (KW.pick [0, 1, 2, 3, 4, 5, 7] [(0, _, _), (1, _, _), (2, _, _), (3, _, _), (4, _, _), (5, _, _), (7, _, _)] rfl (KW.then_ ?_))
  refine CW.seq (CW.region ?_)
  refine TW.move rfl rfl rfl ct ?_
  refine TW.neq rfl rfl rfl ct rfl ct ?_
  refine TW.nil (KW.pick [0, 1, 2, 3, 4, 5, 7, 18] [(0, _, _), (1, _, _), (2, _, _), (3, _, _), (4, _, _), (5, _, _), (7, _, _), (18, _, _)] rfl (KW.then_ ?_))
  have hE : worldsE d l 0 = if dec (WfP d l) = true then (if (recsS l).length ≤ 14 then (if worldsS d l 0 = [] then 280 else 0) else 2) else 1 := by
    unfold worldsE
    simp
  refine CW.condP rfl (fun hne0 => ?_) (fun heq0 => ?_)
  · refine CW.seq (CW.region ?_)
    refine TW.move rfl rfl rfl ct ?_
    refine TW.assign rfl rfl rfl ct ?_
    refine TW.assign rfl rfl rfl ct ?_
    refine TW.nil (KW.pick [0, 1, 2, 3, 4, 5, 7] [(0, _, _), (1, _, _), (2, _, _), (3, _, _), (4, _, _), (5, _, _), (7, _, _)] rfl (KW.then_ ?_))
    refine CW.ret (KW.thenR ?_)
    refine ret2 Tryz.results13 rfl rfl (⟨b3, .slice none 0 0, ?_, ?_⟩)
    · by_cases hw : dec (WfP d l) = true
      · by_cases hr : (recsS l).length ≤ 14
        · have hwok : WOK d l 0 := ⟨dec_iff.1 hw, by decide, by decide, hr⟩
          have hp : Poss d (restS l []) := by
            apply Classical.byContradiction
            intro h
            rw [hE, if_pos hw, if_pos hr, if_pos ((worlds0 hwok).2 h)] at hne0
            exact hne0 rfl
          rw [hE, if_pos hw, if_pos hr, if_neg (fun h => (worlds0 hwok).1 h hp)]
          unfold withE
          rw [if_pos hw, if_pos hr, first_nil hp]
          rfl
        · rw [hE, if_pos hw, if_neg hr]
          unfold withE
          rw [if_pos hw, if_neg hr]
          rfl
      · rw [hE, if_neg hw]
        unfold withE
        rw [if_neg hw]
        rfl
    · have h0 : withS d l = [] := by
        unfold withS
        split
        · rename_i h
          have hwok : WOK d l 0 := ⟨dec_iff.1 h.1, by decide, by decide, h.2⟩
          have hp : Poss d (restS l []) := by
            apply Classical.byContradiction
            intro h'
            rw [hE, if_pos h.1, if_pos h.2, if_pos ((worlds0 hwok).2 h')] at hne0
            exact hne0 rfl
          rw [first_nil hp]
          rfl
        · rfl
      rw [h0]
      exact SL.nil _ _ _
  have heq : worldsE d l 0 = 280 := by
    apply Classical.byContradiction
    exact heq0
  have hw : WfP d l := by
    apply dec_iff.1
    apply Classical.byContradiction
    intro h
    rw [hE, if_neg h] at heq
    exact absurd heq (by decide)
  have hr : (recsS l).length ≤ 14 := by
    apply Classical.byContradiction
    intro h
    rw [hE, if_pos (dec_pos hw), if_neg h] at heq
    exact absurd heq (by decide)
  have hl14 := hw.few
  have B2' := B2.next c3
  have B3' := B3.next c3
  have hd3 := sd_step hd2 c3
  have hl3 := se_step hl2 c3
  have hrecI : ∀ x ∈ recsS l, I64 x := fun x hx => by
    obtain ⟨e, he, hxe⟩ := mem_recsS.1 hx
    obtain ⟨i, hi, hie⟩ := List.getElem_of_mem he
    obtain ⟨ad, cs, _, _, ⟨nv, _, _, _, _, hn⟩, _⟩ := hl.at (i := i) (x := e) (by rw [← hie]; exact List.getElem?_eq_getElem hi)
    exact hn.allI x hxe
  refine CW.skip (KW.then_ (CW.seq (CW.region ?_)))
  refine TW.makeFunc rfl rfl (Args.cons rfl ct (Args.cons rfl ct Args.nil)) ?_
  refine TW.assign rfl rfl rfl ct ?_
  refine TW.nil (KW.pick [0, 1, 2, 3, 4, 5, 7, 8] [(0, _, _), (1, _, _), (2, _, _), (3, _, _), (4, _, _), (5, _, _), (7, _, _), (8, _, _)] rfl (KW.then_ ?_))
  refine CW.seq (CW.region ?_)
  refine TW.load rfl rfl one23 rfl ct (fun _ => B3'.cell 0) ?_
  refine TW.call0 (cap := []) rfl rfl en35 rfl (Args.cons rfl ct Args.nil) (erecs_c hl3 (by omega) hne) ?_
  rintro rv w4 ⟨c4, hO4, ho4⟩
  obtain ⟨R, rcap, rfl, _⟩ := hO4.form
  refine TW.call0 (cap := []) rfl rfl en34 rfl (Args.cons rfl ct Args.nil) (esets_c) ?_
  rintro y w5 ⟨c5, g5, rfl, hB5, hg5⟩
  have c45 := c4.step c5
  have hsl5 : SI w5 (.slice R (recsS l).length rcap) (recsS l) := (OwnS.toInts (hO4.below c5) hrecI (fun g hg => (hO4.below c5).lt hg) (by omega))
  have hit := esets_iter hsl5 (fun k hk => hk) hr hB5
  have hd5 := sd_step hd3 c45
  have hl5 := se_step hl3 c45
  have B25 := B2'.next c45
  have B35 := B3'.next c45
  refine TW.move rfl rfl rfl ct ?_
  refine TW.call0 (cap := []) rfl rfl en33 rfl (Args.cons rfl ct (Args.cons rfl ct Args.nil)) (first_c (q := fun S => dec (Fitted d (restS l S))) hit en58 (fun k hk => by rcases hk with rfl | hk; exact hB5.lt; exact hk) en31 (qcap := [.pointer (some ⟨g2, 0, none⟩), .pointer (some ⟨g3, 0, none⟩)]) (fun W' v S F hb hS => withdraw1_c (sd_step hd5 hb) (se_step hl5 hb) (B25.next hb) (B35.next hb) hS (by omega) (fun e he => by have := hne e he; omega))) ?_
  rintro y w6 ⟨c6, v6, ok6, rfl, hF⟩
  have b6 := (b3.step c45).step c6
  have hfq : (fun S => dec (Fitted d (restS l S))) = fun S => dec (Poss d (restS l S)) := by
    funext S
    exact dec_congr (hw.rest S)
  rw [hfq] at hF
  have hE' : withE d l = match firstS d l with | some _ => 0 | none => 280 := by
    unfold withE
    rw [if_pos (dec_pos hw), if_pos hr]
  have hS' : withS d l = (firstS d l).getD [] := by
    unfold withS
    rw [if_pos ⟨dec_pos hw, hr⟩]
  refine TW.move rfl rfl rfl ct ?_
  refine TW.extract rfl rfl rfl rfl ct ?_
  refine TW.extract rfl rfl rfl rfl ct ?_
  refine TW.assign rfl rfl rfl ct ?_
  refine TW.assign rfl rfl rfl ct ?_
  refine TW.nil (KW.pick [0, 1, 2, 3, 4, 5, 7, 8, 9, 10] [(0, _, _), (1, _, _), (2, _, _), (3, _, _), (4, _, _), (5, _, _), (7, _, _), (8, _, _), (9, _, _), (10, _, _)] rfl (KW.then_ ?_))
  refine CW.seq (CW.seq (CW.region ?_))
  refine TW.move rfl rfl rfl ct ?_
  refine TW.not rfl rfl rfl ct ?_
  refine TW.nil (KW.pick [0, 1, 2, 3, 4, 5, 7, 8, 9, 10, 30] [(0, _, _), (1, _, _), (2, _, _), (3, _, _), (4, _, _), (5, _, _), (7, _, _), (8, _, _), (9, _, _), (10, _, _), (30, _, _)] rfl (KW.then_ ?_))
  rcases hF with ⟨S, hfS, rfl, hsl⟩ | ⟨hfN, rfl⟩
  · have hfS' : firstS d l = some S := hfS
    refine CW.cond rfl (fun h1 => ?_) (fun h2 => ?_)
    · exact absurd h1 (by simp)
    · refine CW.skip (KW.then_ (CW.seq (CW.region ?_)))
      refine TW.move rfl rfl rfl ct ?_
      refine TW.assign rfl rfl rfl ct ?_
      refine TW.assign rfl rfl rfl ct ?_
      refine TW.nil (KW.pick [0, 1, 2, 3, 4, 5, 7, 8, 9, 10] [(0, _, _), (1, _, _), (2, _, _), (3, _, _), (4, _, _), (5, _, _), (7, _, _), (8, _, _), (9, _, _), (10, _, _)] rfl (KW.then_ ?_))
      refine CW.ret ?_
      refine ret2 Tryz.results13 rfl rfl (⟨b6, v6, by rw [hE', hfS']; rfl, by rw [hS', hfS']; exact hsl⟩)
  · have hfN' : firstS d l = none := hfN
    refine CW.cond rfl (fun h1 => ?_) (fun h2 => ?_)
    · refine CW.seq (CW.region ?_)
      refine TW.assign rfl rfl rfl ct ?_
      refine TW.assign rfl rfl rfl ct ?_
      refine TW.nil (KW.pick [0, 1, 2, 3, 4, 5, 7, 8, 9, 10] [(0, _, _), (1, _, _), (2, _, _), (3, _, _), (4, _, _), (5, _, _), (7, _, _), (8, _, _), (9, _, _), (10, _, _)] rfl (KW.then_ ?_))
      refine CW.ret (KW.thenR ?_)
      refine ret2 Tryz.results13 rfl rfl (⟨b6, .slice none 0 0, by rw [hE', hfN'], by rw [hS', hfN']; exact SL.nil _ _ _⟩)
    · exact absurd h2 (by simp)
end Go.Proofs.YtmhfeehkpndadaaGreat

/- append(nil, make([]T, n)...): a new row of zeros. -/
namespace Go.PF
open Go.RowKit
section
variable {P : Program} {w : World}
theorem run_append_nilZ (t ti ty e : TypeId) (i : TypeInfo) (z : Value) (ht : P.underlying t = some (.slice e)) (hti : P.underlying ti = some (.int .i64)) (hi : P.info? e = some i) (hz : i.zero = some z) (hs : i.size = 1)
    (n : Nat) (h0 : 0 < n) (h63 : (n : Int) ≤ 9223372036854775807) (h48 : n * i.bytes ≤ 281474976710656) :
    (Builtin.append_ #[t, ti] ty #[.slice none 0 0, .int .i64 (n : Int)]).run P w =
      .ok (.slice (some ⟨w.heap.size, 0, none⟩) n (grownCap w n 0 e)) (w.drew.alloc (.cells (Builtin.zeroCells z.cells n ++ Builtin.zeroCells z.cells (grownCap w n 0 e - n)) e)) := by
  have hn : n ≠ 0 := by omega
  have h63' : ¬ (9223372036854775807 < (n : Int)) := by omega
  have hw : IntKind.i64.wrap (n : Int) = n := wrap_fits (by omega)
  have hneg : ¬ ((n : Int) < 0) := by omega
  have h48a : ¬ (281474976710656 < (n : Int) * (i.bytes : Int)) := by
    have : ((n * i.bytes : Nat) : Int) ≤ 281474976710656 := by omega
    rw [Int.natCast_mul] at this
    omega
  have hle : ¬ ((n : Int) ≤ 0) := by omega
  have h48' : ¬ (281474976710656 < Builtin.nextslicecap n 0 * i.bytes) := by rw [nextslicecap_zero h0]; omega
  simp [Builtin.append_, run_underlying ht, run_underlying hti, sizeOf, typeInfo, zeroValue, hi, hz, hs, hw, hneg, h48a, hle, asInt, asIntOf, hn, h63', h48', Question.forced, run_firstCells_none, newRow, grownCap]
end
section
variable {P : Program} {r : Option Nat} {Q : Exit → Act → World → Prop} {N : Nat} {ds : List Deferred} {ops rest : List Oper} {E : Env} {w : World}
variable {d : Option Tmp} {ty : TypeId} {pos : String} {af : Array Edge} {gu : Option (Nat × Bool)} {s x : Operand}
theorem TW.appendZ {t ti e : TypeId} {bytes n : Nat} {u : Value} (hg : gu = none) (hd : okDst N d = true) (hz1 : zero1 P t e u bytes) (hti : P.underlying ti = some (.int .i64)) (hs : ev E s = some (none, .slice none 0 0)) (hx : ev E x = some (none, .int .i64 (n : Int))) (h0 : 0 < n) (hn : n ≤ 1000000000) (hb : bytes ≤ 1000)
    (next : ∀ g cap w', n ≤ cap → OwnS w' e 1 (.slice (some ⟨g, 0, none⟩) 0 cap) 0 [] → w.heap.size = g → Below w.heap.size w w' → TW P r Q N ds ops rest (ins E d none (.slice (some ⟨g, 0, none⟩) n cap)) w') :
    TW P r Q N ds ops (⟨d, .call ⟨.builtin .append, #[s, x], #[t, ti]⟩, ty, pos, af, gu⟩ :: rest) E w := by
  obtain ⟨i, z, hu, hi, hz0, hz, hsz, hby⟩ := hz1
  have hmul : n * i.bytes ≤ 281474976710656 := by
    rw [hby]
    exact Nat.le_trans (Nat.mul_le_mul hn hb) (by decide)
  have hr := run_append_nilZ (P := P) (w := w) t ti ty e i z hu hti hi hz0 hsz n h0 (by omega) hmul
  have hge := grownCap_ge w n 0 e
  have hle := grownCap_le_maxLen w n 0 e (by simp only [maxLen]; omega)
  refine TW.eff (v := .slice (some ⟨w.heap.size, 0, none⟩) n (grownCap w n 0 e)) (w' := w.drew.alloc (.cells (Builtin.zeroCells z.cells n ++ Builtin.zeroCells z.cells (grownCap w n 0 e - n)) e)) hg hd rfl (fun a ha => ?_) ?_
  · simp only [execOp, resolve, Go.invoke, Go.builtin, Sem.run_bind, Sem.run_pure, Result.andThen_ok, List.map_toArray, List.map_cons, List.map_nil, ha.eval hs trivial, ha.eval hx trivial, hr]
  · refine next _ _ _ hge ⟨by simp, .inr ⟨w.heap.size, grownCap w n 0 e, _, rfl, Nat.zero_le _, heap_alloc_new w.drew _, Nat.zero_le _, hle, ?_, by simp⟩⟩ rfl ?_
    · simp [Builtin.zeroCells, hz]
      omega
    · exact ((Below.refl _ _).trans ⟨rfl, rfl, rfl, Nat.le_refl _, fun _ _ => rfl⟩ : Below w.heap.size w w.drew).alloc (Nat.le_refl _) _
theorem X.capSlice {ρ : Operand → Value} {A : Option Addr} {l c : Nat} {t e : TypeId} (ht : P.underlying t = some (.slice e)) (hx : ρ x = .slice A l c) : (execOp ρ ⟨d, .call ⟨.builtin .cap, #[x], #[t]⟩, ty, pos, af, gu⟩).run P w = .ok (.value (.int .i64 (c : Int))) w := by simp [execOp, resolve, Go.invoke, Go.builtin, hx, Builtin.cap_, run_underlying ht, goInt]
theorem TW.capSlice {cx G : Option Bool} {A : Option Addr} {l c : Nat} {t e : TypeId} (hg : gd ops E gu = some G) (hd : okDst N d = true) (ht : P.underlying t = some (.slice e)) (hx : ev E x = some (cx, .slice A l c)) (ix : Cnd G → Cnd cx)
    (next : TW P r Q N ds ops rest (ins E d G (.int .i64 (c : Int))) w) : TW P r Q N ds ops (⟨d, .call ⟨.builtin .cap, #[x], #[t]⟩, ty, pos, af, gu⟩ :: rest) E w :=
  TW.val hg hd rfl (fun hG _ ha => X.capSlice ht (ha.eval hx (ix hG))) next
end
end Go.PF

namespace Go.Proofs.YtmhfeehkpndadaaGreat
open Go.PF Go.RowKit Go.Ord

theorem bsearch_c {w : World} {v : Value} {xs : List Int} {x : Int} (h : OwnS w 3 1 v xs.length (xs.map (Value.int .i64))) (hn : xs.length ≤ 1000000000) (hs : xs.Pairwise (· ≤ ·)) :
    Gives Tryz.prog 39 #[v, .int .i64 x] w fun u w' => Below w.heap.size w w' ∧ ∃ k, u = .tuple #[k, .bool (decide (x ∈ xs))] := by
  rcases h.2 with ⟨rfl, h0⟩ | ⟨g, cap, cur, rfl, hg, hh, h1, h2, h3, h4⟩
  · have hx : xs = [] := List.eq_nil_of_length_eq_zero h0
    subst hx
    refine (Tryz.slices_BinarySearch_int_empty none 0 x w).mono ?_
    rintro e w' ⟨rfl, rfl⟩
    exact ⟨_, rfl, Below.refl _ _, _, rfl⟩
  · refine (Tryz.slices_BinarySearch_int g 0 xs.length cap xs x w (Nat.le_refl _) (by omega) (fun j hj => ?_) (by rw [List.take_length]; exact hs)).mono ?_
    · obtain ⟨A, cp, hv, _, _, hc⟩ := h.form
      obtain ⟨g', hA, hown', hcell, _⟩ := hc j (.int .i64 xs[j]) (by simp [hj])
      simp [Value.ownBlock] at hown'
      subst hown'
      simpa [List.getD_eq_getElem?_getD, hj] using hcell
    · rintro e w' ⟨rfl, q, rfl⟩
      refine ⟨_, rfl, below_drewN (Below.refl _ _) q, .int .i64 (((xs.take xs.length).countP (· < x) : Nat) : Int), ?_⟩
      rw [List.take_length]
      congr 3
      simp

set_option maxRecDepth 20000 in
theorem grow_c {w : World} {n : Nat} (hn : n ≤ 1000000000) : Gives Tryz.prog 69 #[.slice none 0 0, .int .i64 (n : Int)] w fun u w' => Below w.heap.size w w' ∧ OwnS w' 3 1 u 0 [] ∧ ∀ g, u.ownBlock = some g → w.heap.size ≤ g := by
  refine gives_of (vs := [.slice none 0 0, .int .i64 (n : Int)]) [(0, none, _), (1, none, _)] Tryz.func69 rfl Tryz.ntmps69 rfl rfl ?_
  refine CW.seq (CW.region ?_)
  refine TW.assign rfl rfl rfl ct ?_
  refine TW.nil (KW.pick [0, 1, 4] [(0, _, _), (1, _, _), (4, _, _)] rfl (KW.then_ ?_))
  refine CW.seq (CW.seq (CW.region ?_))
  refine TW.move rfl rfl rfl ct ?_
  refine TW.lss rfl rfl rfl ct rfl ct ?_
  refine TW.nil (KW.pick [0, 1, 4, 6] [(0, _, _), (1, _, _), (4, _, _), (6, _, _)] rfl (KW.then_ ?_))
  refine CW.condP rfl (fun hneg => ?_) (fun hpos => ?_)
  · exfalso
    omega
  refine CW.skip (KW.then_ (CW.seq (CW.seq (CW.region ?_))))
  refine TW.move rfl rfl rfl ct ?_
  refine TW.move rfl rfl rfl ct ?_
  refine TW.capSlice rfl rfl Tryz.underlying24 rfl ct ?_
  refine TW.move rfl rfl rfl ct ?_
  refine TW.lenSlice rfl rfl Tryz.underlying24 rfl ct ?_
  refine TW.sub rfl rfl rfl ct rfl ct (fun _ => by (try dsimp only); omega) ?_
  refine TW.sub rfl rfl rfl ct rfl ct (fun _ => by (try dsimp only); omega) ?_
  refine TW.assign rfl rfl rfl ct ?_
  refine TW.nil (KW.pick [0, 1, 4] [(0, _, _), (1, _, _), (4, _, _)] rfl (KW.then_ ?_))
  refine CW.seq (CW.region ?_)
  refine TW.move rfl rfl rfl ct ?_
  refine TW.gtr rfl rfl rfl ct rfl ct ?_
  refine TW.nil (KW.pick [0, 1, 4, 16] [(0, _, _), (1, _, _), (4, _, _), (16, _, _)] rfl (KW.then_ ?_))
  refine CW.condP rfl (fun hgt => ?_) (fun hle => ?_)
  · refine CW.region ?_
    refine TW.move rfl rfl rfl ct ?_
    refine TW.move rfl rfl rfl ct ?_
    refine TW.capSlice rfl rfl Tryz.underlying24 rfl ct ?_
    refine TW.sliceH rfl rfl Tryz.underlying24 sz3 rfl ct rfl ct (fun _ => by (try dsimp only); omega) ?_
    refine TW.move rfl rfl rfl ct ?_
    rw [show ((n : Int) - ((((0 : Nat) : Int)) - ((0 : Nat) : Int))) = (n : Int) by omega]
    refine TW.appendZ rfl rfl (zero1_of go24 ze3 rfl) Tryz.underlying3 rfl rfl (by omega) hn (by decide) ?_
    rintro g cap w1 hcap hO hg hb
    refine TW.move rfl rfl rfl ct ?_
    refine TW.lenSlice rfl rfl Tryz.underlying24 rfl ct ?_
    refine TW.sliceH rfl rfl Tryz.underlying24 sz3 rfl ct rfl ct (fun _ => by (try dsimp only); omega) ?_
    refine TW.assign rfl rfl rfl ct ?_
    refine TW.nil (KW.pick [0, 1, 4] [(0, _, _), (1, _, _), (4, _, _)] rfl (KW.then_ ?_))
    refine CW.seq (CW.region ?_)
    refine TW.move rfl rfl rfl ct ?_
    refine TW.assign rfl rfl rfl ct ?_
    refine TW.nil (KW.pick [0, 1, 4] [(0, _, _), (1, _, _), (4, _, _)] rfl (KW.then_ ?_))
    refine CW.ret ?_
    refine ret1 Tryz.results69 rfl (⟨hb, hO, fun q hq => by simp [Value.ownBlock] at hq; omega⟩)
  · refine CW.skip (KW.then_ (CW.seq (CW.region ?_)))
    refine TW.move rfl rfl rfl ct ?_
    refine TW.assign rfl rfl rfl ct ?_
    refine TW.nil (KW.pick [0, 1, 4] [(0, _, _), (1, _, _), (4, _, _)] rfl (KW.then_ ?_))
    refine CW.ret ?_
    refine ret1 Tryz.results69 rfl (⟨Below.refl _ _, OwnS.nil _ _ _, fun g hg => by simp [Value.ownBlock] at hg⟩)

set_option maxRecDepth 20000 in
theorem concat_c {w : World} {v : Value} {F : Nat → Prop} {a b : List Int} (hv : SL (sliceT intT) F w v [a, b]) (ha : a.length ≤ 100000000) (hb : b.length ≤ 100000000) :
    Gives Tryz.prog 40 #[v] w fun u w' => Below w.heap.size w w' ∧ SI w' u (a ++ b) := by
  obtain ⟨A, cap, rfl, _⟩ := hv.form
  obtain ⟨ad, rfl⟩ := hv.addr (by simp)
  have hsum : ∀ k, (([a, b].take k).flatten).length ≤ 200000000 := fun k => by
    rcases k with _ | _ | k <;> simp <;> omega
  have hIa : ∀ x ∈ a ++ b, I64 x := fun x hx => by
    obtain ⟨v0, _, h0⟩ := hv.row (i := 0) (r := a) rfl
    obtain ⟨v1, _, h1⟩ := hv.row (i := 1) (r := b) rfl
    rcases List.mem_append.1 hx with h | h
    · exact h0.allI x h
    · exact h1.allI x h
  refine gives_of (vs := [.slice (some ad) [a, b].length cap]) [(0, none, _)] Tryz.func40 rfl Tryz.ntmps40 rfl rfl ?_
  refine CW.seq (CW.region ?_)
  refine TW.assign rfl rfl rfl ct ?_
  refine TW.nil (KW.pick [0, 2] [(0, _, _), (2, _, _)] rfl (KW.then_ ?_))
  refine CW.seq (CW.region ?_)
  refine TW.assign rfl rfl rfl ct ?_
  refine TW.nil (KW.pick [0, 2, 3] [(0, _, _), (2, _, _), (3, _, _)] rfl (KW.then_ ?_))
  refine CW.seq (CW.seq (CW.region ?_))
  refine TW.move rfl rfl rfl ct ?_
  refine TW.lenSlice rfl rfl Tryz.underlying22 rfl ct ?_
  refine TW.move rfl rfl rfl ct ?_
  refine TW.nil (KW.pick [0, 2, 3, 9, 10, 11] [(0, _, _), (2, _, _), (3, _, _), (9, _, _), (10, _, _), (11, _, _)] rfl (KW.then_ ?_))
  refine CW.block ?_
  refine CW.loopS (fun k : Nat => [(0, none, .slice (some ad) 2 cap), (3, none, .int .i64 ((([a, b].take k).flatten).length : Int)), (9, none, .slice (some ad) 2 cap), (10, none, .int .i64 2), (11, none, .int .i64 (k : Int))])
    (fun k W => k ≤ 2 ∧ Below w.heap.size w W) (fun k => 2 - k) 0 [0, 3, 9, 10, 11] ⟨by omega, Below.refl _ _⟩ rfl ?_
  rintro k W ⟨hk, hB⟩
  have hsk := hsum k
  refine CW.seq (CW.region ?_)
  refine TW.lss rfl rfl rfl ct rfl ct ?_
  refine TW.nil (KW.pick [0, 3, 9, 10, 11, 12] [(0, _, _), (3, _, _), (9, _, _), (10, _, _), (11, _, _), (12, _, _)] rfl (KW.then_ ?_))
  refine CW.seq ?_
  refine CW.condP rfl (fun hlt => ?_) (fun hge => ?_)
  · have hk2 : k < [a, b].length := by simp; omega
    obtain ⟨r, hr⟩ : ∃ r, [a, b][k]? = some r := ⟨_, List.getElem?_eq_getElem hk2⟩
    have hrl : r.length ≤ 100000000 := by
      have := List.mem_of_getElem? hr
      simp at this
      rcases this with rfl | rfl <;> assumption
    obtain ⟨rv, hcell, hrow⟩ := (hv.below hB).row hr
    obtain ⟨R, rcap, rfl, _⟩ := hrow.form
    refine CW.skip (KW.then_ (CW.seq (CW.block (CW.seq (CW.region ?_)))))
    refine TW.indexAddr rfl rfl Tryz.underlying22 sz24 rfl ct rfl ct (fun _ => by (try dsimp only); omega) ?_
    refine TW.load rfl rfl one24 rfl ct (fun _ => hcell) ?_
    refine TW.assign rfl rfl rfl ct ?_
    refine TW.nil (KW.pick [0, 3, 5, 9, 10, 11] [(0, _, _), (3, _, _), (5, _, _), (9, _, _), (10, _, _), (11, _, _)] rfl (KW.then_ ?_))
    refine CW.seq (CW.region ?_)
    refine TW.move rfl rfl rfl ct ?_
    refine TW.move rfl rfl rfl ct ?_
    refine TW.lenSlice rfl rfl Tryz.underlying24 rfl ct ?_
    refine TW.add rfl rfl rfl ct rfl ct (fun _ => by (try dsimp only); omega) ?_
    refine TW.assign rfl rfl rfl ct ?_
    refine TW.nil (KW.pick [0, 3, 5, 9, 10, 11] [(0, _, _), (3, _, _), (5, _, _), (9, _, _), (10, _, _), (11, _, _)] rfl (KW.then_ ?_))
    refine CW.seq (CW.region ?_)
    refine TW.move rfl rfl rfl ct ?_
    refine TW.lss rfl rfl rfl ct rfl ct ?_
    refine TW.nil (KW.pick [0, 3, 5, 9, 10, 11, 20] [(0, _, _), (3, _, _), (5, _, _), (9, _, _), (10, _, _), (11, _, _), (20, _, _)] rfl (KW.then_ ?_))
    refine CW.condP rfl (fun hneg => ?_) (fun hpos => ?_)
    · exfalso
      omega
    · refine CW.skip (KW.blockN (KW.then_ (CW.region ?_)))
      refine TW.add rfl rfl rfl ct rfl ct (fun _ => by (try dsimp only); omega) ?_
      refine TW.move rfl rfl rfl ct ?_
      refine TW.nil (KW.pick [0, 3, 5, 9, 10, 11] [(0, _, _), (3, _, _), (5, _, _), (9, _, _), (10, _, _), (11, _, _)] rfl ?_)
      refine KW.round (k + 1) [0, 3, 9, 10, 11] ?_ ⟨by omega, hB⟩ (by omega)
      rw [List.take_add_one, hr]
      simp only [Option.toList_some, List.flatten_append, List.length_append, List.flatten_cons, List.flatten_nil, List.append_nil, Int.natCast_add]
      rfl
  have hke : k = 2 := by omega
  subst hke
  refine CW.exit (KW.thenX (KW.thenX (KW.blockX (KW.then_ (CW.seq (CW.region ?_))))))
  refine TW.move rfl rfl rfl ct ?_
  refine TW.call0 (cap := []) rfl rfl en69 rfl (Args.cons rfl ct (Args.cons rfl ct Args.nil)) (grow_c (n := (([a, b].take 2).flatten).length) (by omega)) ?_
  rintro u1 w1 ⟨c1, hO1, ho1⟩
  have hB1 := hB.step c1
  have hs1 := hB.size
  refine TW.assign rfl rfl rfl ct ?_
  refine TW.nil (KW.pick [0, 3, 6, 9, 10, 11] [(0, _, _), (3, _, _), (6, _, _), (9, _, _), (10, _, _), (11, _, _)] rfl (KW.then_ ?_))
  refine CW.seq (CW.seq (CW.region ?_))
  refine TW.move rfl rfl rfl ct ?_
  refine TW.lenSlice rfl rfl Tryz.underlying22 rfl ct ?_
  refine TW.move rfl rfl rfl ct ?_
  refine TW.nil (KW.pick [0, 3, 6, 9, 10, 11, 25, 26, 27] [(0, _, _), (3, _, _), (6, _, _), (9, _, _), (10, _, _), (11, _, _), (25, _, _), (26, _, _), (27, _, _)] rfl (KW.then_ ?_))
  refine CW.block ?_
  refine CW.loopS (fun x : Nat × Value => [(6, none, x.2), (25, none, .slice (some ad) 2 cap), (26, none, .int .i64 2), (27, none, .int .i64 (x.1 : Int))])
    (fun x W => x.1 ≤ 2 ∧ Below w.heap.size w W ∧ OwnS W 3 1 x.2 (([a, b].take x.1).flatten).length ((([a, b].take x.1).flatten).map (Value.int .i64)) ∧ ∀ g, x.2.ownBlock = some g → w.heap.size ≤ g) (fun x => 2 - x.1) (0, u1) [6, 25, 26, 27] ⟨by show 0 ≤ 2; omega, hB1, hO1, fun g hg => by have := ho1 g hg; omega⟩ rfl ?_
  rintro ⟨k, ov⟩ W ⟨hk, hB2, hO, hob⟩
  dsimp only at hk hO hob
  have hsk := hsum k
  refine CW.seq (CW.region ?_)
  refine TW.lss rfl rfl rfl ct rfl ct ?_
  refine TW.nil (KW.pick [6, 25, 26, 27, 28] [(6, _, _), (25, _, _), (26, _, _), (27, _, _), (28, _, _)] rfl (KW.then_ ?_))
  refine CW.seq ?_
  refine CW.condP rfl (fun hlt => ?_) (fun hge => ?_)
  · have hk2 : k < [a, b].length := by simp; omega
    obtain ⟨r, hr⟩ : ∃ r, [a, b][k]? = some r := ⟨_, List.getElem?_eq_getElem hk2⟩
    have hrl : r.length ≤ 100000000 := by
      have := List.mem_of_getElem? hr
      simp at this
      rcases this with rfl | rfl <;> assumption
    obtain ⟨rv, hcell, hrow⟩ := (hv.below hB2).row hr
    obtain ⟨R, rcap, rfl, _⟩ := hrow.form
    have hnews : ∀ (j : Nat) (u : Value), (r.map (Value.int .i64))[j]? = some u → ∃ ad' : Addr, R = some ad' ∧ W.cell? (ad'.add j) = some u := by
      intro j u hu
      simp only [List.getElem?_map] at hu
      obtain ⟨y, hy, rfl⟩ := Option.map_eq_some_iff.1 hu
      obtain ⟨ad', h1, h2, _⟩ := hrow.int hy
      exact ⟨ad', h1, by rw [Nat.mul_one] at h2; exact h2⟩
    refine CW.skip (KW.then_ (CW.seq (CW.block (CW.seq (CW.region ?_)))))
    refine TW.indexAddr rfl rfl Tryz.underlying22 sz24 rfl ct rfl ct (fun _ => by (try dsimp only); omega) ?_
    refine TW.load rfl rfl one24 rfl ct (fun _ => hcell) ?_
    refine TW.assign rfl rfl rfl ct ?_
    refine TW.nil (KW.pick [6, 8, 25, 26, 27] [(6, _, _), (8, _, _), (25, _, _), (26, _, _), (27, _, _)] rfl (KW.then_ ?_))
    refine CW.region ?_
    refine TW.move rfl rfl rfl ct ?_
    refine TW.move rfl rfl rfl ct ?_
    refine TW.append (r.map (Value.int .i64)) rfl rfl go24 rfl hO rfl (by simp) hnews (ints_one _) (by omega) (by omega) ?_
    rintro ov' w2 o2 hg2 hn2
    refine TW.assign rfl rfl rfl ct ?_
    refine TW.nil (KW.pick [6, 8, 25, 26, 27] [(6, _, _), (8, _, _), (25, _, _), (26, _, _), (27, _, _)] rfl (KW.blockN (KW.then_ ?_)))
    refine CW.region ?_
    refine TW.add rfl rfl rfl ct rfl ct (fun _ => by (try dsimp only); omega) ?_
    refine TW.move rfl rfl rfl ct ?_
    refine TW.nil (KW.pick [6, 8, 25, 26, 27] [(6, _, _), (8, _, _), (25, _, _), (26, _, _), (27, _, _)] rfl ?_)
    refine KW.round (k + 1, ov') [6, 25, 26, 27] rfl ⟨by show k + 1 ≤ 2; omega, hB2.grown hg2 hB2.size hob, ?_, fun g hg => ?_⟩ (by show 2 - (k + 1) < 2 - k; omega)
    · show OwnS w2 _ 1 ov' (([a, b].take (k + 1)).flatten).length ((([a, b].take (k + 1)).flatten).map (Value.int .i64))
      rw [List.take_add_one, hr]
      simpa using o2
    · rcases hn2 with h | h
      · exact hob g (by rw [← h]; exact hg)
      · rw [h] at hg; cases hg; exact hB2.size
  · have hke : k = 2 := by omega
    subst hke
    have e : ([a, b].take 2).flatten = a ++ b := by simp
    rw [e] at hO
    refine CW.exit (KW.thenX (KW.thenX (KW.blockX (KW.then_ (CW.seq (CW.region ?_))))))
    refine TW.move rfl rfl rfl ct ?_
    refine TW.assign rfl rfl rfl ct ?_
    refine TW.nil (KW.pick [2, 6, 25, 26, 27] [(2, _, _), (6, _, _), (25, _, _), (26, _, _), (27, _, _)] rfl (KW.then_ ?_))
    refine CW.ret ?_
    refine ret1 Tryz.results40 rfl (⟨hB2, OwnS.toInts hO hIa (fun g hg => hO.lt hg) (by simp; omega)⟩)
end Go.Proofs.YtmhfeehkpndadaaGreat

/- Plain laws of the smallest set and of the minimal sets. -/
namespace Go.Proofs.YtmhfeehkpndadaaGreat
open Go.PF Go.RowKit Go.Ord

structure MinP (d : Dist) (l : List Ev) (S : List Int) : Prop where
  wf : WfP d l
  inc : Inc S
  sub : ∀ x ∈ S, x ∈ recsS l
  poss : Poss d (restS l S)
  each : ∀ i, i < S.length → ¬ Poss d (restS l (S.eraseIdx i))

theorem inc_sublist {S L : List Int} (hS : Inc S) (hL : Inc L) (h : ∀ x ∈ S, x ∈ L) : S.Sublist L := by
  have e : S = L.filter fun y => decide (y ∈ S) := inc_ext hS (hL.sublist List.filter_sublist) fun x => by
    rw [List.mem_filter]
    simp
    exact h x
  have := List.filter_sublist (p := fun y => decide (y ∈ S)) (l := L)
  rwa [← e] at this
theorem MinP.sl {d : Dist} {l : List Ev} {S : List Int} (h : MinP d l S) : S.Sublist (recsS l) := inc_sublist h.inc (recsS_inc l) h.sub

/-- In a minimal set, each record is the only one in the way of some event. -/
theorem MinP.few {d : Dist} {l : List Ev} {S : List Int} (h : MinP d l S) : S.length ≤ l.length := by
  have key : ∀ i : Nat, ∃ k, i < S.length → k < l.length ∧ ∃ e, l[k]? = some e ∧ (∃ x, S[i]? = some x ∧ x ∈ e.needs) ∧ ∀ j, j ≠ i → ∀ y, S[j]? = some y → y ∉ e.needs := by
    intro i
    by_cases hi : i < S.length
    · apply Classical.byContradiction
      intro hno
      refine h.each i hi (h.poss.sub (rest_less fun e he hg => ?_))
      apply Classical.byContradiction
      intro hng
      apply hno
      obtain ⟨k, hk, hke⟩ := List.getElem_of_mem he
      have hnot : ∀ y ∈ e.needs, y ∉ S.eraseIdx i := fun y hy hys => hng (gone_iff.2 ⟨y, hy, hys⟩)
      obtain ⟨y, hy, hys⟩ := gone_iff.1 hg
      have hother : ∀ j, j ≠ i → ∀ y, S[j]? = some y → y ∉ e.needs := fun j hj y hjy hyn => hnot y hyn (List.mem_eraseIdx_iff_getElem?.2 ⟨j, hj, hjy⟩)
      refine ⟨k, fun _ => ⟨hk, e, by rw [← hke]; exact List.getElem?_eq_getElem hk, ?_, hother⟩⟩
      obtain ⟨j, hj, hje⟩ := List.getElem_of_mem hys
      by_cases hji : j = i
      · subst hji
        exact ⟨y, by rw [← hje]; exact List.getElem?_eq_getElem hj, hy⟩
      · exact absurd hy (hother j hji y (by rw [← hje]; exact List.getElem?_eq_getElem hj))
    · exact ⟨0, fun h => absurd h hi⟩
  let f : Nat → Nat := fun i => Classical.choose (key i)
  have hf : ∀ i, i < S.length → f i < l.length ∧ ∃ e, l[f i]? = some e ∧ (∃ x, S[i]? = some x ∧ x ∈ e.needs) ∧ ∀ j, j ≠ i → ∀ y, S[j]? = some y → y ∉ e.needs := fun i hi => Classical.choose_spec (key i) hi
  have hnd : ((List.range S.length).map f).Nodup := by
    refine List.pairwise_map.2 (List.Pairwise.imp_of_mem (fun {a b} ha hb hab => ?_) List.pairwise_lt_range)
    intro e
    obtain ⟨_, e1, h1, ⟨x, hx, hxn⟩, _⟩ := hf a (List.mem_range.1 ha)
    obtain ⟨_, e2, h2, _, ho⟩ := hf b (List.mem_range.1 hb)
    rw [e, h2] at h1
    cases h1
    exact ho a (by omega) x hx hxn
  have := nodup_len (k := List.range l.length) hnd (fun k hk => by
    obtain ⟨i, hi, rfl⟩ := List.mem_map.1 hk
    exact List.mem_range.2 (hf i (List.mem_range.1 hi)).1)
  simpa using this

/-! ### the order of all sets -/
def befS (a b : List Int) : Prop := a.length < b.length ∨ (a.length = b.length ∧ lexS a b = true)
theorem lexS_asymm : ∀ {a b : List Int}, lexS a b = true → lexS b a = true → False
  | [], b, h, _ => by cases b <;> simp [lexS] at h
  | x :: a, [], h, _ => by simp [lexS] at h
  | x :: a, y :: b, h, h' => by
    unfold lexS at h h'
    by_cases e : x = y
    · subst e
      rw [if_pos rfl] at h h'
      exact lexS_asymm h h'
    · rw [if_neg e] at h
      rw [if_neg (Ne.symm e)] at h'
      simp at h h'
      omega
theorem befS_asymm {a b : List Int} (h : befS a b) (h' : befS b a) : False := by
  rcases h with h | h <;> rcases h' with h' | h'
  · omega
  · omega
  · omega
  · exact lexS_asymm h.2 h'.2
theorem mem_allS {l S : List Int} : S ∈ allS l ↔ S.Sublist l := by
  unfold allS
  rw [List.mem_flatMap]
  constructor
  · rintro ⟨k, _, h⟩
    exact (mem_setsS.1 h).1
  · intro h
    exact ⟨S.length, List.mem_range.2 (by have := h.length_le; omega), mem_setsS.2 ⟨h, rfl⟩⟩
theorem allS_bef {l : List Int} (h : Inc l) : (allS l).Pairwise befS := by
  unfold allS
  rw [List.pairwise_flatMap]
  refine ⟨fun k _ => List.Pairwise.imp_of_mem (fun {a b} ha hb hab => .inr ⟨by rw [(mem_setsS.1 ha).2, (mem_setsS.1 hb).2], hab⟩) (setsS_lex h k), ?_⟩
  exact List.pairwise_lt_range.imp fun {i j} hij a ha b hb => .inl (by rw [(mem_setsS.1 ha).2, (mem_setsS.1 hb).2]; exact hij)
theorem find_bef {L : List (List Int)} {q : List Int → Bool} {a : List Int} (hL : L.Pairwise befS) (h : L.find? q = some a) : a ∈ L ∧ q a = true ∧ ∀ S ∈ L, befS S a → q S = false := by
  rw [List.find?_eq_some_iff_append] at h
  obtain ⟨hq, l1, l2, rfl, hp⟩ := h
  refine ⟨by simp, hq, fun S hS hb => ?_⟩
  rcases List.mem_append.1 hS with h | h
  · simpa using hp S h
  · rcases List.mem_cons.1 h with rfl | h
    · exact absurd hb (fun h => befS_asymm h h)
    · have := (List.pairwise_cons.1 (List.pairwise_append.1 hL).2.1).1 S h
      exact absurd hb (fun h => befS_asymm h this)

theorem first_some {d : Dist} {l : List Ev} {a : List Int} (h : firstS d l = some a) : a.Sublist (recsS l) ∧ Poss d (restS l a) ∧ ∀ S, S.Sublist (recsS l) → befS S a → ¬ Poss d (restS l S) := by
  obtain ⟨h1, h2, h3⟩ := find_bef (allS_bef (recsS_inc l)) h
  exact ⟨mem_allS.1 h1, dec_iff.1 h2, fun S hS hb hp => by
    have h4 := h3 S (mem_allS.2 hS) hb
    rw [dec_pos hp] at h4
    cases h4⟩
theorem first_none {d : Dist} {l : List Ev} (h : firstS d l = none) {S : List Int} (hS : S.Sublist (recsS l)) : ¬ Poss d (restS l S) := fun hp => by
  unfold firstS at h
  rw [List.find?_eq_none] at h
  exact h S (mem_allS.2 hS) (dec_pos hp)
theorem first_has {d : Dist} {l : List Ev} {S : List Int} (hS : S.Sublist (recsS l)) (hp : Poss d (restS l S)) : ∃ a, firstS d l = some a ∧ a.length ≤ S.length := by
  cases h : firstS d l with
  | none => exact absurd hp (first_none h hS)
  | some a =>
    refine ⟨a, rfl, ?_⟩
    obtain ⟨_, _, h3⟩ := first_some h
    rcases Nat.lt_or_ge S.length a.length with hlt | hge
    · exact absurd hp (h3 S hS (.inl hlt))
    · exact hge
theorem first_min {d : Dist} {l : List Ev} {a : List Int} (hw : WfP d l) (h : firstS d l = some a) : MinP d l a := by
  obtain ⟨h1, h2, h3⟩ := first_some h
  refine ⟨hw, (recsS_inc l).sublist h1, fun x hx => h1.subset hx, h2, fun i hi => h3 _ ((List.eraseIdx_sublist a i).trans h1) (.inl ?_)⟩
  rw [List.length_eraseIdx, if_pos hi]
  omega

/-- what is possible without some records is possible without more -/
theorem poss_more {d : Dist} {l : List Ev} {S T : List Int} (h : ∀ x ∈ S, x ∈ T) (hp : Poss d (restS l S)) : Poss d (restS l T) :=
  hp.sub (rest_less fun e _ hg => by
    obtain ⟨r, hr, hrs⟩ := gone_iff.1 hg
    exact gone_iff.2 ⟨r, hr, h r hrs⟩)
/-- a smaller part of a list lies in the list without one of its places -/
theorem part_erase {S T : List Int} (h : T.Sublist S) (hne : T.length ≠ S.length) : ∃ i, i < S.length ∧ T.Sublist (S.eraseIdx i) := by
  induction h with
  | slnil => exact absurd rfl hne
  | cons a h ih => exact ⟨0, by simp, by simpa using h⟩
  | cons_cons a h ih =>
    obtain ⟨i, hi, hs⟩ := ih (by simpa using hne)
    exact ⟨i + 1, by simpa using hi, by simpa using hs.cons_cons a⟩
theorem MinP.part {d : Dist} {l : List Ev} {S T : List Int} (h : MinP d l S) (hT : T.Sublist S) (hne : T.length ≠ S.length) : ¬ Poss d (restS l T) := fun hp => by
  obtain ⟨i, hi, hs⟩ := part_erase hT hne
  exact h.each i hi (poss_more (fun x hx => hs.subset hx) hp)
theorem rest_nil (l : List Ev) : restS l [] = l := by
  unfold restS
  rw [List.filter_eq_self]
  intro e _
  have : ¬ gone [] e = true := fun h => by
    obtain ⟨r, _, hr⟩ := gone_iff.1 h
    cases hr
  simp [this]
theorem min_nil {d : Dist} {l : List Ev} : MinP d l [] ↔ WfP d l ∧ Poss d l := by
  constructor
  · intro h
    exact ⟨h.wf, by have := h.poss; rwa [rest_nil] at this⟩
  · rintro ⟨h1, h2⟩
    exact ⟨h1, List.Pairwise.nil, fun x hx => (by cases hx), by rw [rest_nil]; exact h2, fun i hi => by simp at hi⟩
theorem first_nil_iff {d : Dist} {l : List Ev} : firstS d l = some [] ↔ Poss d l := by
  constructor
  · intro h
    have := (first_some h).2.1
    rwa [rest_nil] at this
  · intro h
    exact first_nil (by rwa [rest_nil])

/-! ### errors and answers -/
structure LOK (d : Dist) (l : List Ev) : Prop where
  wf : WfP d l
  rl : (recsS l).length ≤ 14
theorem LOK.err {d : Dist} {l : List Ev} (h : LOK d l) : withE d l = match firstS d l with | some _ => 0 | none => 280 := by
  unfold withE
  rw [if_pos (dec_pos h.wf), if_pos h.rl]
  all_goals (cases firstS d l <;> rfl)
theorem LOK.set {d : Dist} {l : List Ev} (h : LOK d l) : withS d l = (firstS d l).getD [] := by
  unfold withS
  rw [if_pos ⟨dec_pos h.wf, h.rl⟩]

/-! ### fewer events -/
theorem LOK.sub {d : Dist} {l l' : List Ev} (h : LOK d l) (hs : l'.Sublist l) : LOK d l' := ⟨h.wf.sub hs, by have := nodup_len (recsS_inc l').nodup (recs_sub hs); have := h.rl; omega⟩
theorem first_fewer {d : Dist} {l l' : List Ev} (hs : l'.Sublist l) {a : List Int} (h : firstS d l = some a) : ∃ b, firstS d l' = some b ∧ b.length ≤ a.length := by
  obtain ⟨h1, h2, _⟩ := first_some h
  have hsub : ((recsS l').filter fun y => decide (y ∈ a)).Sublist (recsS l') := List.filter_sublist
  have hp : Poss d (restS l' ((recsS l').filter fun y => decide (y ∈ a))) := by
    refine (h2.sub (hs.filter _)).sub (rest_less fun e he hg => ?_)
    obtain ⟨r, hr, hra⟩ := gone_iff.1 hg
    exact gone_iff.2 ⟨r, hr, List.mem_filter.2 ⟨mem_recsS.2 ⟨e, he, hr⟩, by simpa using hra⟩⟩
  obtain ⟨b, hb, hle⟩ := first_has hsub hp
  have hle2 : ((recsS l').filter fun y => decide (y ∈ a)).length ≤ a.length := nodup_len (Inc.nodup ((recsS_inc l').sublist hsub)) (fun x hx => by
    have := (List.mem_filter.1 hx).2
    simpa using this)
  exact ⟨b, hb, by omega⟩

/-! ### the same events in another order, or one of them twice -/
theorem first_same {d : Dist} {l l' : List Ev} (hr : recsS l' = recsS l) (hp : ∀ S, Poss d (restS l' S) ↔ Poss d (restS l S)) : firstS d l' = firstS d l := by
  unfold firstS
  rw [hr]
  congr 1
  funext S
  exact dec_congr (hp S)
theorem recs_same {l l' : List Ev} (h : ∀ e, e ∈ l' ↔ e ∈ l) : recsS l' = recsS l := inc_ext (recsS_inc _) (recsS_inc _) fun x => by
  rw [mem_recsS, mem_recsS]
  constructor
  · rintro ⟨e, he, hx⟩; exact ⟨e, (h e).1 he, hx⟩
  · rintro ⟨e, he, hx⟩; exact ⟨e, (h e).2 he, hx⟩
theorem rest_rev (l : List Ev) (S : List Int) : restS l.reverse S = (restS l S).reverse := by
  unfold restS
  rw [List.filter_reverse]
theorem poss_rev {d : Dist} {l : List Ev} : Poss d l.reverse ↔ Poss d l := ⟨fun h => by simpa using h.perm l.reverse_perm, fun h => h.perm l.reverse_perm.symm⟩
theorem WfP.rev {d : Dist} {l : List Ev} (h : WfP d l) : WfP d l.reverse := ⟨h.wd, by simpa using h.few, fun e he => h.each e (by simpa using he), fun e he => h.pos e (by simpa using he)⟩
theorem first_rev {d : Dist} {l : List Ev} : firstS d l.reverse = firstS d l := first_same (recs_same fun e => by simp) fun S => by rw [rest_rev, poss_rev]
theorem LOK.rev {d : Dist} {l : List Ev} (h : LOK d l) : LOK d l.reverse := ⟨h.wf.rev, by rw [recs_same (l := l) (fun e => by simp)]; exact h.rl⟩
theorem min_rev {d : Dist} {l : List Ev} {S : List Int} : MinP d l.reverse S ↔ MinP d l S := by
  have key : ∀ {l : List Ev}, MinP d l S → MinP d l.reverse S := fun {l} h =>
    ⟨h.wf.rev, h.inc, fun x hx => by rw [recs_same (l := l) (fun e => by simp)]; exact h.sub x hx, by rw [rest_rev, poss_rev]; exact h.poss, fun i hi => by rw [rest_rev, poss_rev]; exact h.each i hi⟩
  exact ⟨fun h => by simpa using key h, key⟩
theorem at2_self {d : Dist} (hd : WfD d) {e : Ev} (he : EOK d e) : at2 d e.office.toNat e.office.toNat = 0 := by
  have := he.o1
  have := he.o2
  exact hd.diag e.office.toNat (by omega)
theorem poss_twice {d : Dist} {l : List Ev} {e : Ev} (hd : WfD d) (he : EOK d e) (hm : e ∈ l) : Poss d (l ++ [e]) ↔ Poss d l := by
  constructor
  · intro h
    exact h.sub (List.sublist_append_left _ _)
  · rintro ⟨x, rfl, h1, h2⟩
    obtain ⟨p, hp, rfl⟩ := List.mem_map.1 hm
    refine ⟨x ++ [p], by simp, fun q hq => ?_, ?_⟩
    · rcases List.mem_append.1 hq with h | h
      · exact h1 q h
      · rw [List.mem_singleton] at h
        subst h
        exact h1 _ hp
    · refine List.pairwise_append.2 ⟨h2, List.pairwise_singleton _ _, fun a ha b hb => ?_⟩
      rw [List.mem_singleton] at hb
      subst hb
      have hself : Aft d b b := by
        unfold Aft
        rw [at2_self hd he]
        omega
      rcases List.getElem_of_mem ha with ⟨i, hi, rfl⟩
      rcases List.getElem_of_mem hp with ⟨j, hj, hje⟩
      have hpw := List.pairwise_iff_getElem.1 h2
      rcases Nat.lt_trichotomy i j with h | h | h
      · have := hpw i j hi hj h
        rwa [hje] at this
      · subst h
        rw [hje]
        exact .inl hself
      · have := hpw j i hj hi h
        rw [hje] at this
        exact this.symm
theorem rest_app (l : List Ev) (e : Ev) (S : List Int) : restS (l ++ [e]) S = restS l S ++ if gone S e then [] else [e] := by
  unfold restS
  rw [List.filter_append]
  congr 1
  cases h : gone S e <;> simp [List.filter, h]
theorem rest_twice {d : Dist} {l : List Ev} {e : Ev} (hd : WfD d) (he : EOK d e) (hm : e ∈ l) (S : List Int) : Poss d (restS (l ++ [e]) S) ↔ Poss d (restS l S) := by
  rw [rest_app]
  cases h : gone S e with
  | true => simp
  | false =>
    simp only [Bool.false_eq_true, if_false]
    exact poss_twice hd he (by unfold restS; exact List.mem_filter.2 ⟨hm, by simp [h]⟩)
theorem first_twice {d : Dist} {l : List Ev} {e : Ev} (hd : WfD d) (he : EOK d e) (hm : e ∈ l) : firstS d (l ++ [e]) = firstS d l := first_same (recs_same fun x => by
    rw [List.mem_append, List.mem_singleton]
    exact ⟨fun h => h.elim id (fun h => h ▸ hm), .inl⟩) (rest_twice hd he hm)
theorem LOK.twice {d : Dist} {l : List Ev} {e : Ev} (h : LOK d l) (hm : e ∈ l) (hl : l.length ≤ 13) : LOK d (l ++ [e]) := by
  have hin : ∀ x, x ∈ l ++ [e] → x ∈ l := fun x hx => by
    rcases List.mem_append.1 hx with h | h
    · exact h
    · rw [List.mem_singleton] at h; subst h; exact hm
  refine ⟨⟨h.wf.wd, by simp; omega, fun x hx => h.wf.each x (hin x hx), fun x hx => h.wf.pos x (hin x hx)⟩, ?_⟩
  rw [recs_same (l := l) fun x => ⟨hin x, fun h => List.mem_append.2 (.inl h)⟩]
  exact h.rl

/-! ### two events that are not possible together -/
theorem two_meets {d : Dist} {l : List Ev} (hw : WfP d l) {i k : Nat} {a b : Ev} (ha : l[i]? = some a) (hb : l[k]? = some b) (hno : ¬ Poss d [a, b]) {S : List Int} (hp : Poss d (restS l S)) : ∃ x ∈ S, x ∈ recsS [a, b] := by
  apply Classical.byContradiction
  intro h
  apply hno
  have hg : ∀ e, e ∈ [a, b] → gone S e = false := fun e he => by
    cases hq : gone S e with
    | false => rfl
    | true =>
      obtain ⟨r, hr, hrs⟩ := gone_iff.1 hq
      exact absurd ⟨r, hrs, mem_recsS.2 ⟨e, he, hr⟩⟩ h
  have ha' := hg a (by simp)
  have hb' := hg b (by simp)
  have sub : ∀ (i k : Nat) (a b : Ev), i < k → l[i]? = some a → l[k]? = some b → gone S a = false → gone S b = false → Poss d [a, b] := fun i k a b hik ha hb h1 h2 => by
    obtain ⟨hi, rfl⟩ := List.getElem?_eq_some_iff.1 ha
    obtain ⟨hk, rfl⟩ := List.getElem?_eq_some_iff.1 hb
    have hs : [l[i], l[k]].Sublist l := by
      have h3 : [l[k]].Sublist (l.drop (i + 1)) := List.singleton_sublist.2 (by
        rw [List.mem_iff_getElem]
        exact ⟨k - (i + 1), by simp; omega, by simp; congr 1; omega⟩)
      have h4 : (l[i] :: [l[k]]).Sublist (l[i] :: l.drop (i + 1)) := h3.cons_cons _
      rw [← List.drop_eq_getElem_cons hi] at h4
      exact h4.trans (List.drop_sublist _ _)
    have h5 := hs.filter fun e => !gone S e
    simp [List.filter, h1, h2] at h5
    exact hp.sub h5
  rcases Nat.lt_trichotomy i k with hik | hik | hik
  · exact sub i k a b hik ha hb ha' hb'
  · subst hik
    rw [ha] at hb
    cases hb
    have hm : a ∈ restS l S := by
      unfold restS
      exact List.mem_filter.2 ⟨List.mem_of_getElem? ha, by simp [ha']⟩
    have h1 : Poss d [a] := hp.sub (List.singleton_sublist.2 hm)
    exact (poss_twice (l := [a]) hw.wd (hw.each a (List.mem_of_getElem? ha)) (by simp)).2 h1
  · exact (sub k i b a hik hb ha hb' ha').perm (List.Perm.swap _ _ _)

/-! ### the worlds -/
theorem LOK.wok {d : Dist} {l : List Ev} (h : LOK d l) {most : Int} (h0 : 0 ≤ most) (h3 : most ≤ 3) : WOK d l most := ⟨h.wf, h0, h3, h.rl⟩
/-- no world for fewer false records than the smallest set has -/
theorem worlds_few {d : Dist} {l : List Ev} (h : LOK d l) {most : Int} (h0 : 0 ≤ most) (h3 : most ≤ 3) (hn : ∀ a, firstS d l = some a → most < a.length) : worldsS d l most = [] := by
  rw [List.eq_nil_iff_forall_not_mem]
  intro b hb
  obtain ⟨q1, q2, q3⟩ := (h.wok h0 h3).mem.1 hb
  obtain ⟨a, ha, hle⟩ := first_has q1 q3
  have := hn a ha
  omega
theorem worlds_head {d : Dist} {l : List Ev} (h : LOK d l) {a : List Int} (ha : firstS d l = some a) (h3 : a.length ≤ 3) : ∃ r, worldsS d l (a.length : Int) = a :: r := by
  obtain ⟨h1, h2, hf⟩ := first_some ha
  have hw := h.wok (most := (a.length : Int)) (by omega) (by omega)
  have hlen := h1.length_le
  have hm : a ∈ worldsS d l (a.length : Int) := hw.mem.2 ⟨h1, by simp; omega, h2⟩
  cases hx : worldsS d l (a.length : Int) with
  | nil => rw [hx] at hm; cases hm
  | cons b r =>
    refine ⟨r, ?_⟩
    rw [hx] at hm
    rcases List.mem_cons.1 hm with rfl | hm
    · rfl
    · have hlex := hw.lex
      rw [hx] at hlex
      have h4 := (List.pairwise_cons.1 hlex).1 a hm
      have hb : b ∈ worldsS d l (a.length : Int) := by rw [hx]; simp
      obtain ⟨q1, q2, q3⟩ := hw.mem.1 hb
      exact absurd q3 (hf b q1 (.inr ⟨by simp at q2; omega, h4⟩))
end Go.Proofs.YtmhfeehkpndadaaGreat

namespace Go.Proofs.YtmhfeehkpndadaaGreat
open Go.PF Go.RowKit Go.Ord

theorem i64_small {x : Int} (h0 : -1000000 ≤ x) (h1 : x ≤ 1000000) : I64 x := ⟨by show (-9223372036854775808 : Int) ≤ x; omega, by show x ≤ 9223372036854775807; omega⟩
theorem lit_int {w : World} {g : Nat} {t : TypeId} {n : Nat} (l : List Int) (h : Blk w g t (l.map (Value.int .i64))) (hn : n = l.length) (hI : ∀ x ∈ l, -1000000 ≤ x ∧ x ≤ 1000000) (hs : l.length ≤ 1000000) : SI w (.slice (some ⟨g, 0, none⟩) n n) l := by
  subst hn
  exact OwnS.toInts (OwnS.of_blk h (by simp) (by omega)) (fun x hx => i64_small (hI x hx).1 (hI x hx).2) (fun q hq => by simp [Value.ownBlock] at hq; subst hq; exact h.lt) (by omega)
theorem lit_rows {w : World} {g : Nat} {t : TypeId} {n : Nat} (ps : List (Value × List Int)) (h : Blk w g t (ps.map (·.1))) (hn : n = ps.length) (hp : ∀ p ∈ ps, SI w p.1 p.2) (hs : ps.length ≤ 1000000) : SD w (.slice (some ⟨g, 0, none⟩) n n) (ps.map (·.2)) := by
  subst hn
  have e1 : (ps.map fun p => (([p.1], p.2) : List Value × List Int)).map (·.2) = ps.map (·.2) := by simp
  have e2 : (ps.map fun p => (([p.1], p.2) : List Value × List Int)).flatMap (·.1) = ps.map (·.1) := by
    clear h hp hs e1
    induction ps with
    | nil => rfl
    | cons p ps ih => simp [ih]
  have := OwnS.toSLp (T := sliceT intT) (F := fun k => k < w.heap.size) (w := w) (e := t) (v := .slice (some ⟨g, 0, none⟩) ps.length ps.length) (n := ps.length) (ps.map fun p => ([p.1], p.2)) (fun p hp' => by
    obtain ⟨q, hq, rfl⟩ := List.mem_map.1 hp'
    exact ⟨q.1, rfl, hp q hq⟩) (by show 0 < 1; decide) (by rw [e2]; exact OwnS.of_blk h (by show (ps.map (·.1)).length = ps.length * 1; simp) (by omega)) (by simp) (fun q hq => by simp [Value.ownBlock] at hq; subst hq; exact h.lt) (by simp; omega)
  rw [e1] at this
  exact this
theorem lit_evs {w : World} {g : Nat} {t : TypeId} {n : Nat} (ps : List (List Value × Ev)) (h : Blk w g t (ps.flatMap (·.1))) (hn : n = ps.length) (hp : ∀ p ∈ ps, evT.rep (fun k => k < w.heap.size) w p.1 p.2) (hs : ps.length ≤ 1000000) : SE w (.slice (some ⟨g, 0, none⟩) n n) (ps.map (·.2)) := by
  subst hn
  exact OwnS.toSLp (T := evT) (F := fun k => k < w.heap.size) (w := w) (e := t) (v := .slice (some ⟨g, 0, none⟩) ps.length ps.length) (n := ps.length) ps hp (by decide) (OwnS.of_blk h (flat_len (fun p : List Value × Ev => p.1) 4 ps (fun p hp' => evT.len _ _ _ _ (hp p hp'))) (by omega)) rfl (fun q hq => by simp [Value.ownBlock] at hq; subst hq; exact h.lt) (by omega)
end Go.Proofs.YtmhfeehkpndadaaGreat

namespace Go.Proofs.YtmhfeehkpndadaaGreat
open Go.PF Go.RowKit Go.Ord

theorem errArg {d : Dist} {l : List Ev} : worldsE d l 0 = 1 ↔ ¬ WfP d l := by
  unfold worldsE
  by_cases hw : WfP d l
  · simp only [dec_pos hw]
    by_cases hr : (recsS l).length ≤ 14
    · by_cases hz : worldsS d l 0 = [] <;> simp [hr, hz, hw]
    · simp [hr, hw]
  · rw [if_neg (fun h => by rw [dec_neg hw] at h; simp at h)]
    simp [hw]
theorem needs_len : ∀ {l : List Ev}, (∀ e ∈ l, e.needs.length ≤ 1000) → (needsOf l).length ≤ 1000 * l.length
  | [], _ => by simp [needsOf]
  | e :: l, hne => by
    have h1 := hne e (by simp)
    have h2 := needs_len (l := l) (fun x hx => hne x (by simp [hx]))
    unfold needsOf at *
    rw [List.flatMap_cons, List.length_append, List.length_cons]
    omega

set_option maxRecDepth 20000 in
set_option maxHeartbeats 1000000 in
theorem minimal_c {w : World} {dv lv sv : Value} {d : Dist} {l : List Ev} {S : List Int} {F : Nat → Prop} (hd : SD w dv d) (hl : SE w lv l) (hS : SL intT F w sv S) (hne : ∀ e ∈ l, e.needs.length ≤ 1000) :
    Gives Tryz.prog 16 #[dv, lv, sv] w fun u w' => Below w.heap.size w w' ∧ u = .bool (dec (MinP d l S)) := by
  obtain ⟨A, cap, rfl, _⟩ := hd.form
  obtain ⟨B, bcap, rfl, _⟩ := hl.form
  obtain ⟨C, scap, rfl, hsc⟩ := hS.form
  have hsmax := hS.len.2.2
  have hlmax := hl.len.2.2
  refine gives_of (vs := [.slice A d.length cap, .slice B l.length bcap, .slice C S.length scap]) [(0, none, _), (1, none, _), (2, none, _)] Tryz.func16 rfl Tryz.ntmps16 rfl rfl ?_
  refine CW.seq (CW.region ?_)
  refine TW.assign rfl rfl rfl ct ?_
  refine TW.nil (KW.pick [0, 1, 2, 6] [(0, _, _), (1, _, _), (2, _, _), (6, _, _)] rfl (KW.then_ ?_))
  refine CW.seq (CW.seq (CW.region ?_))
  refine TW.move rfl rfl rfl ct ?_
  refine TW.move rfl rfl rfl ct ?_
  refine TW.call0 (cap := []) rfl rfl en24 rfl (Args.cons rfl ct (Args.cons rfl ct (Args.cons rfl ct Args.nil))) (worlds_c hd hl hne) ?_
  rintro y w1 ⟨c1, wv, rfl, hw1⟩
  have hd1 := sd_step hd c1
  have hl1 := se_step hl c1
  have hS1 := hS.below c1
  refine TW.move rfl rfl rfl ct ?_
  refine TW.extract rfl rfl rfl rfl ct ?_
  refine TW.extract rfl rfl rfl rfl ct ?_
  refine TW.assign rfl rfl rfl ct ?_
  refine TW.assign rfl rfl rfl ct ?_
  refine TW.nil (KW.pick [0, 1, 2, 6, 8] [(0, _, _), (1, _, _), (2, _, _), (6, _, _), (8, _, _)] rfl (KW.then_ ?_))
  refine CW.seq (CW.region ?_)
  refine TW.move rfl rfl rfl ct ?_
  refine TW.eql rfl rfl rfl ct rfl ct ?_
  refine TW.nil (KW.pick [0, 1, 2, 6, 8, 22] [(0, _, _), (1, _, _), (2, _, _), (6, _, _), (8, _, _), (22, _, _)] rfl (KW.then_ ?_))
  refine CW.condP rfl (fun hbad => ?_) (fun hgood => ?_)
  · refine CW.seq (CW.region ?_)
    refine TW.assign rfl rfl rfl ct ?_
    refine TW.nil (KW.pick [0, 1, 2, 6, 8] [(0, _, _), (1, _, _), (2, _, _), (6, _, _), (8, _, _)] rfl (KW.then_ ?_))
    refine CW.ret (KW.thenR ?_)
    refine ret1 Tryz.results16 rfl (⟨c1, by rw [dec_neg fun h => errArg.1 hbad h.wf]⟩)
  have hw : WfP d l := Classical.byContradiction fun h => hgood (errArg.2 h)
  have hfew := hw.few
  refine CW.skip (KW.then_ (CW.seq (CW.region ?_)))
  refine TW.move rfl rfl rfl ct ?_
  refine TW.call0 (cap := []) rfl rfl en35 rfl (Args.cons rfl ct Args.nil) (erecs_c hl1 (by omega) hne) ?_
  rintro rv w2 ⟨c2, hO2, ho2⟩
  have b2 := c1.step c2
  have hd2 := sd_step hd1 c2
  have hl2 := se_step hl1 c2
  have hS2 := hS1.below c2
  have hrI : (recsS l).length ≤ 1000000000 := by
    have h1 := hO2.form
    obtain ⟨R, rcap, hR, hRc, _⟩ := h1
    have hlen : (recsS l).length ≤ (needsOf l).length := nodup_len (recsS_inc l).nodup (fun x hx => by
      obtain ⟨e, he, hxe⟩ := mem_recsS.1 hx
      exact List.mem_flatMap.2 ⟨e, he, hxe⟩)
    have hlen2 := needs_len hne
    omega
  obtain ⟨R, rcap, rfl, hRc, _⟩ := hO2.form
  refine TW.assign rfl rfl rfl ct ?_
  refine TW.nil (KW.pick [0, 1, 2, 6, 8, 9] [(0, _, _), (1, _, _), (2, _, _), (6, _, _), (8, _, _), (9, _, _)] rfl (KW.then_ ?_))
  refine CW.seq (CW.seq (CW.region ?_))
  refine TW.move rfl rfl rfl ct ?_
  refine TW.lenSlice rfl rfl Tryz.underlying24 rfl ct ?_
  refine TW.move rfl rfl rfl ct ?_
  refine TW.nil (KW.pick [0, 1, 2, 6, 8, 9, 25, 26, 27] [(0, _, _), (1, _, _), (2, _, _), (6, _, _), (8, _, _), (9, _, _), (25, _, _), (26, _, _), (27, _, _)] rfl (KW.then_ ?_))
  refine CW.block ?_
  refine CW.loopS (fun k : Nat => [(0, none, .slice A d.length cap), (1, none, .slice B l.length bcap), (2, none, .slice C S.length scap), (9, none, .slice R (recsS l).length rcap), (25, none, .slice C S.length scap), (26, none, .int .i64 (S.length : Int)), (27, none, .int .i64 (k : Int))])
    (fun k W => k ≤ S.length ∧ Below w2.heap.size w2 W ∧ Inc (S.take k) ∧ ∀ x ∈ S.take k, x ∈ recsS l) (fun k => S.length - k) 0 [0, 1, 2, 9, 25, 26, 27] ⟨Nat.zero_le _, Below.refl _ _, List.Pairwise.nil, fun x hx => by simp at hx⟩ rfl ?_
  rintro k W ⟨hk, hB, hinc, hsub⟩
  refine CW.seq (CW.region ?_)
  refine TW.lss rfl rfl rfl ct rfl ct ?_
  refine TW.nil (KW.pick [0, 1, 2, 9, 25, 26, 27, 28] [(0, _, _), (1, _, _), (2, _, _), (9, _, _), (25, _, _), (26, _, _), (27, _, _), (28, _, _)] rfl (KW.then_ ?_))
  refine CW.seq ?_
  refine CW.condP rfl (fun hlt => ?_) (fun hge => ?_)
  · obtain ⟨x, hx, hxm⟩ := getx (l := S) (k := k) (by omega)
    have hSW := hS2.below hB
    obtain ⟨ad, rfl⟩ := hSW.addr (by omega)
    refine CW.skip (KW.then_ (CW.seq (CW.block (CW.seq (CW.region ?_)))))
    refine TW.move rfl rfl rfl ct ?_
    refine TW.indexAddr rfl rfl Tryz.underlying24 sz3 rfl ct rfl ct (fun _ => by (try dsimp only); omega) ?_
    refine TW.load rfl rfl one3 rfl ct (fun _ => hSW.getI hx) ?_
    refine TW.assign rfl rfl rfl ct ?_
    refine TW.assign rfl rfl rfl ct ?_
    refine TW.nil (KW.pick [0, 1, 2, 9, 10, 11, 25, 26, 27] [(0, _, _), (1, _, _), (2, _, _), (9, _, _), (10, _, _), (11, _, _), (25, _, _), (26, _, _), (27, _, _)] rfl (KW.then_ ?_))
    refine CW.seq (CW.seq (CW.region ?_))
    refine TW.move rfl rfl rfl ct ?_
    refine TW.gtr rfl rfl rfl ct rfl ct ?_
    refine TW.move rfl rfl rfl ct ?_
    refine TW.move rfl rfl rfl ct ?_
    refine TW.move rfl rfl rfl ct ?_
    refine TW.move rfl rfl rfl ct ?_
    refine TW.sub rfl rfl rfl id rfl ct (fun h => by (try dsimp only); first | omega | (simp [Cnd] at h; omega)) ?_
    refine TW.indexAddr rfl rfl Tryz.underlying24 sz3 rfl id rfl id (fun h => by (try dsimp only); first | omega | (simp [Cnd] at h; omega)) ?_
    have htake : S.take (k + 1) = S.take k ++ [x] := by rw [List.take_add_one, hx]; rfl
    by_cases hk0 : k = 0
    · subst hk0
      refine TW.dead (.bool false) rfl (by simp [Cnd]) rfl ?_
      refine TW.dead (.bool false) rfl (by simp [Cnd]) rfl ?_
      refine TW.pickAnd rfl rfl rfl ct rfl pAnd0 ?_
      refine TW.nil (KW.pick [0, 1, 2, 9, 10, 11, 25, 26, 27, 42] [(0, _, _), (1, _, _), (2, _, _), (9, _, _), (10, _, _), (11, _, _), (25, _, _), (26, _, _), (27, _, _), (42, _, _)] rfl (KW.then_ ?_))
      refine CW.cond rfl (fun hb1 => ?_) (fun hb2 => ?_)
      · exfalso
        simp at hb1
      refine CW.skip (KW.then_ (CW.seq (CW.region ?_)))
      refine TW.move rfl rfl rfl ct ?_
      refine TW.move rfl rfl rfl ct ?_
      refine TW.call0 (cap := []) rfl rfl en39 rfl (Args.cons rfl ct (Args.cons rfl ct Args.nil)) (bsearch_c (hO2.below hB) hrI ((recsS_inc l).imp fun h => by omega)) ?_
      rintro y w3 ⟨c3, q, rfl⟩
      refine TW.move rfl rfl rfl ct ?_
      refine TW.extract rfl rfl rfl rfl ct ?_
      refine TW.extract rfl rfl rfl rfl ct ?_
      refine TW.assign rfl rfl rfl ct ?_
      refine TW.assign rfl rfl rfl ct ?_
      refine TW.nil (KW.pick [0, 1, 2, 9, 10, 11, 13, 25, 26, 27] [(0, _, _), (1, _, _), (2, _, _), (9, _, _), (10, _, _), (11, _, _), (13, _, _), (25, _, _), (26, _, _), (27, _, _)] rfl (KW.then_ ?_))
      refine CW.seq (CW.region ?_)
      refine TW.move rfl rfl rfl ct ?_
      refine TW.not rfl rfl rfl ct ?_
      refine TW.nil (KW.pick [0, 1, 2, 9, 10, 11, 13, 25, 26, 27, 50] [(0, _, _), (1, _, _), (2, _, _), (9, _, _), (10, _, _), (11, _, _), (13, _, _), (25, _, _), (26, _, _), (27, _, _), (50, _, _)] rfl (KW.then_ ?_))
      refine CW.cond rfl (fun hno => ?_) (fun hyes => ?_)
      · refine CW.seq (CW.region ?_)
        refine TW.assign rfl rfl rfl ct ?_
        refine TW.nil (KW.pick [0, 1, 2, 6, 9, 10, 11, 13, 25, 26, 27] [(0, _, _), (1, _, _), (2, _, _), (6, _, _), (9, _, _), (10, _, _), (11, _, _), (13, _, _), (25, _, _), (26, _, _), (27, _, _)] rfl (KW.then_ ?_))
        refine CW.ret (KW.blockR (KW.thenR (KW.thenR (KW.blockR (KW.thenR ?_)))))
        refine ret1 Tryz.results16 rfl (⟨(b2.step hB).step c3, by rw [dec_neg fun h => absurd (h.sub x hxm) (by simpa using hno)]⟩)
      refine CW.skip (KW.blockN (KW.then_ (CW.region ?_)))
      refine TW.add rfl rfl rfl ct rfl ct (fun _ => by (try dsimp only); omega) ?_
      refine TW.move rfl rfl rfl ct ?_
      refine TW.nil (KW.pick [0, 1, 2, 9, 10, 11, 13, 25, 26, 27] [(0, _, _), (1, _, _), (2, _, _), (9, _, _), (10, _, _), (11, _, _), (13, _, _), (25, _, _), (26, _, _), (27, _, _)] rfl ?_)
      refine KW.round (0 + 1) [0, 1, 2, 9, 25, 26, 27] rfl ⟨by omega, hB.step c3, ?_, ?_⟩ (by omega)
      · rw [htake]
        simp [Inc]
      · rw [htake]
        intro z hz
        simp at hz
        subst hz
        simpa using hyes
    · have hkp : 0 < k := by omega
      obtain ⟨y', hy', hym⟩ := getx (l := S) (k := k - 1) (by omega)
      have hcy : W.cell? (ad.add (((k : Int) - 1).toNat * 1)) = some (.int .i64 y') := by
        rw [show ((k : Int) - 1) = ((k - 1 : Nat) : Int) by omega]
        exact hSW.getI hy'
      refine TW.known rfl (by simp only [Cnd]; exact decide_eq_true (by omega)) ?_
      refine TW.load rfl rfl one3 rfl (by simp_all [Cnd]) (fun _ => hcy) ?_
      refine TW.known rfl (by simp only [Cnd]; exact decide_eq_true (by omega)) ?_
      refine TW.leq rfl rfl rfl (by simp_all [Cnd]) rfl ct ?_
      refine TW.pickAnd rfl rfl rfl ct rfl pT ?_
      refine TW.nil (KW.pick [0, 1, 2, 9, 10, 11, 25, 26, 27, 42] [(0, _, _), (1, _, _), (2, _, _), (9, _, _), (10, _, _), (11, _, _), (25, _, _), (26, _, _), (27, _, _), (42, _, _)] rfl (KW.then_ ?_))
      refine CW.cond rfl (fun hb1 => ?_) (fun hb2 => ?_)
      · have hle : x ≤ y' := by simp at hb1; exact hb1.2
        refine CW.seq (CW.region ?_)
        refine TW.assign rfl rfl rfl ct ?_
        refine TW.nil (KW.pick [0, 1, 2, 6, 9, 10, 11, 25, 26, 27] [(0, _, _), (1, _, _), (2, _, _), (6, _, _), (9, _, _), (10, _, _), (11, _, _), (25, _, _), (26, _, _), (27, _, _)] rfl (KW.then_ ?_))
        refine CW.ret (KW.thenR (KW.blockR (KW.thenR (KW.thenR (KW.blockR (KW.thenR ?_))))))
        refine ret1 Tryz.results16 rfl (⟨b2.step hB, ?_⟩)
        rw [dec_neg fun h => ?_]
        have := List.pairwise_iff_getElem.1 h.inc (k - 1) k (by omega) (by omega) (by omega)
        obtain ⟨_, e1⟩ := List.getElem?_eq_some_iff.1 hx
        obtain ⟨_, e2⟩ := List.getElem?_eq_some_iff.1 hy'
        rw [e1, e2] at this
        omega
      have hlt' : y' < x := by simp at hb2; exact hb2 (by omega)
      refine CW.skip (KW.then_ (CW.seq (CW.region ?_)))
      refine TW.move rfl rfl rfl ct ?_
      refine TW.move rfl rfl rfl ct ?_
      refine TW.call0 (cap := []) rfl rfl en39 rfl (Args.cons rfl ct (Args.cons rfl ct Args.nil)) (bsearch_c (hO2.below hB) hrI ((recsS_inc l).imp fun h => by omega)) ?_
      rintro y w3 ⟨c3, q, rfl⟩
      refine TW.move rfl rfl rfl ct ?_
      refine TW.extract rfl rfl rfl rfl ct ?_
      refine TW.extract rfl rfl rfl rfl ct ?_
      refine TW.assign rfl rfl rfl ct ?_
      refine TW.assign rfl rfl rfl ct ?_
      refine TW.nil (KW.pick [0, 1, 2, 9, 10, 11, 13, 25, 26, 27] [(0, _, _), (1, _, _), (2, _, _), (9, _, _), (10, _, _), (11, _, _), (13, _, _), (25, _, _), (26, _, _), (27, _, _)] rfl (KW.then_ ?_))
      refine CW.seq (CW.region ?_)
      refine TW.move rfl rfl rfl ct ?_
      refine TW.not rfl rfl rfl ct ?_
      refine TW.nil (KW.pick [0, 1, 2, 9, 10, 11, 13, 25, 26, 27, 50] [(0, _, _), (1, _, _), (2, _, _), (9, _, _), (10, _, _), (11, _, _), (13, _, _), (25, _, _), (26, _, _), (27, _, _), (50, _, _)] rfl (KW.then_ ?_))
      refine CW.cond rfl (fun hno => ?_) (fun hyes => ?_)
      · refine CW.seq (CW.region ?_)
        refine TW.assign rfl rfl rfl ct ?_
        refine TW.nil (KW.pick [0, 1, 2, 6, 9, 10, 11, 13, 25, 26, 27] [(0, _, _), (1, _, _), (2, _, _), (6, _, _), (9, _, _), (10, _, _), (11, _, _), (13, _, _), (25, _, _), (26, _, _), (27, _, _)] rfl (KW.then_ ?_))
        refine CW.ret (KW.blockR (KW.thenR (KW.thenR (KW.blockR (KW.thenR ?_)))))
        refine ret1 Tryz.results16 rfl (⟨(b2.step hB).step c3, by rw [dec_neg fun h => absurd (h.sub x hxm) (by simpa using hno)]⟩)
      refine CW.skip (KW.blockN (KW.then_ (CW.region ?_)))
      refine TW.add rfl rfl rfl ct rfl ct (fun _ => by (try dsimp only); omega) ?_
      refine TW.move rfl rfl rfl ct ?_
      refine TW.nil (KW.pick [0, 1, 2, 9, 10, 11, 13, 25, 26, 27] [(0, _, _), (1, _, _), (2, _, _), (9, _, _), (10, _, _), (11, _, _), (13, _, _), (25, _, _), (26, _, _), (27, _, _)] rfl ?_)
      refine KW.round (k + 1) [0, 1, 2, 9, 25, 26, 27] rfl ⟨by omega, hB.step c3, ?_, ?_⟩ (by omega)
      · rw [htake]
        refine List.pairwise_append.2 ⟨hinc, List.pairwise_singleton _ _, fun a ha b hb => ?_⟩
        rw [List.mem_singleton] at hb
        subst hb
        obtain ⟨j, hj, hje⟩ := List.getElem_of_mem ha
        simp at hj
        have hlast : (S.take k)[k - 1]? = some y' := by rw [List.getElem?_take_of_lt (by omega)]; exact hy'
        obtain ⟨hl1', hl2'⟩ := List.getElem?_eq_some_iff.1 hlast
        by_cases hjk : j = k - 1
        · subst hjk
          rw [hl2'] at hje
          omega
        · have := List.pairwise_iff_getElem.1 hinc j (k - 1) (by simp; omega) (by simp; omega) (by omega)
          rw [hje, hl2'] at this
          omega
      · rw [htake]
        intro z hz
        rcases List.mem_append.1 hz with h | h
        · exact hsub z h
        · rw [List.mem_singleton] at h
          subst h
          simpa using hyes
  have hke : k = S.length := by omega
  subst hke
  rw [List.take_length] at hinc hsub
  have hdW := sd_step hd2 hB
  have hlW := se_step hl2 hB
  have hSW := hS2.below hB
  refine CW.exit (KW.thenX (KW.thenX (KW.blockX (KW.then_ (CW.seq (CW.seq (CW.region ?_)))))))
  refine TW.move rfl rfl rfl ct ?_
  refine TW.lenSlice rfl rfl Tryz.underlying24 rfl ct ?_
  refine TW.move rfl rfl rfl ct ?_
  refine TW.lenSlice rfl rfl Tryz.underlying23 rfl ct ?_
  refine TW.gtr rfl rfl rfl ct rfl ct ?_
  refine TW.move rfl rfl rfl ct ?_
  refine TW.move rfl rfl rfl ct ?_
  refine TW.move rfl rfl rfl ct ?_
  refine TW.move rfl rfl rfl ct ?_
  refine TW.callF (cap := []) rfl rfl en32 rfl ct (Args.cons rfl id (Args.cons rfl id (Args.cons rfl id Args.nil))) (fun _ => explained_c hdW hlW hSW (by omega) (fun e he => by have := hne e he; omega)) ?_
  rintro w3 c3
  refine TW.not rfl rfl rfl id ?_
  refine TW.pickOr rfl rfl rfl ct rfl pOr0 ?_
  refine TW.nil (KW.pick [0, 1, 2, 9, 25, 26, 27, 63] [(0, _, _), (1, _, _), (2, _, _), (9, _, _), (25, _, _), (26, _, _), (27, _, _), (63, _, _)] rfl (KW.then_ ?_))
  have b3 := (b2.step hB).step c3
  have hd3 := sd_step hdW c3
  have hl3 := se_step hlW c3
  have hS3 := hSW.below c3
  refine CW.cond rfl (fun hb1 => ?_) (fun hb2 => ?_)
  · refine CW.seq (CW.region ?_)
    refine TW.assign rfl rfl rfl ct ?_
    refine TW.nil (KW.pick [0, 1, 2, 6, 9, 25, 26, 27] [(0, _, _), (1, _, _), (2, _, _), (6, _, _), (9, _, _), (25, _, _), (26, _, _), (27, _, _)] rfl (KW.then_ ?_))
    refine CW.ret (KW.thenR ?_)
    refine ret1 Tryz.results16 rfl (⟨b3, ?_⟩)
    rw [dec_neg fun h => ?_]
    have h1 := h.few
    have h2 := h.poss
    rw [dec_congr (hw.rest S), dec_pos h2] at hb1
    simp at hb1
    omega
  have hp : Poss d (restS l S) := by
    rw [dec_congr (hw.rest S)] at hb2
    apply Classical.byContradiction
    intro h
    rw [dec_neg h] at hb2
    simp at hb2
  have hsl : S.length ≤ 14 := by
    apply Classical.byContradiction
    intro h
    have h' : ((l.length : Nat) : Int) < (S.length : Int) := by omega
    simp [h'] at hb2
  refine CW.skip (KW.then_ (CW.seq (CW.seq (CW.region ?_))))
  refine TW.move rfl rfl rfl ct ?_
  refine TW.lenSlice rfl rfl Tryz.underlying24 rfl ct ?_
  refine TW.move rfl rfl rfl ct ?_
  refine TW.nil (KW.pick [0, 1, 2, 9, 25, 26, 27, 65, 66] [(0, _, _), (1, _, _), (2, _, _), (9, _, _), (25, _, _), (26, _, _), (27, _, _), (65, _, _), (66, _, _)] rfl (KW.then_ ?_))
  refine CW.block ?_
  refine CW.loopS (fun k : Nat => [(0, none, .slice A d.length cap), (1, none, .slice B l.length bcap), (2, none, .slice C S.length scap), (65, none, .int .i64 (S.length : Int)), (66, none, .int .i64 (k : Int))])
    (fun k W' => k ≤ S.length ∧ Below w3.heap.size w3 W' ∧ ∀ i, i < k → ¬ Poss d (restS l (S.eraseIdx i))) (fun k => S.length - k) 0 [0, 1, 2, 65, 66] ⟨Nat.zero_le _, Below.refl _ _, fun i hi => by omega⟩ rfl ?_
  rintro k W' ⟨hk, hB', hno⟩
  refine CW.seq (CW.region ?_)
  refine TW.lss rfl rfl rfl ct rfl ct ?_
  refine TW.nil (KW.pick [0, 1, 2, 65, 66, 67] [(0, _, _), (1, _, _), (2, _, _), (65, _, _), (66, _, _), (67, _, _)] rfl (KW.then_ ?_))
  refine CW.seq ?_
  refine CW.condP rfl (fun hlt => ?_) (fun hge => ?_)
  · have hS' := hS3.below hB'
    have hd' := sd_step hd3 hB'
    have hl' := se_step hl3 hB'
    have ht := (SL.takeS hS' (i := k) (by omega)).now intT_now
    have hdr := (SL.dropS hS' (i := k + 1) (by omega)).now intT_now
    have her : S.take k ++ S.drop (k + 1) = S.eraseIdx k := List.eraseIdx_eq_take_drop_succ S k |>.symm
    refine CW.skip (KW.then_ (CW.seq (CW.block (CW.seq (CW.region ?_)))))
    refine TW.move rfl rfl rfl ct ?_
    refine TW.assign rfl rfl rfl ct ?_
    refine TW.nil (KW.pick [0, 1, 2, 14, 65, 66] [(0, _, _), (1, _, _), (2, _, _), (14, _, _), (65, _, _), (66, _, _)] rfl (KW.then_ ?_))
    refine CW.seq (CW.draw mixed (by kernel_rfl) ?_)
    refine DW.move rfl rfl rfl ct ?_
    refine DW.move rfl rfl rfl ct ?_
    refine DW.move rfl rfl rfl ct ?_
    refine DW.move rfl rfl rfl ct ?_
    refine DW.sliceH rfl rfl Tryz.underlying24 sz3 rfl ct rfl ct (fun _ => by (try dsimp only); omega) ?_
    refine DW.move rfl rfl rfl ct ?_
    refine DW.move rfl rfl rfl ct ?_
    refine DW.add rfl rfl rfl ct rfl ct (fun _ => by (try dsimp only); omega) ?_
    refine DW.sliceL rfl rfl Tryz.underlying24 sz3 rfl ct rfl ct (fun _ => by (try dsimp only); omega) ?_
    refine DW.buildSlice 24 _ rfl rfl rfl eo22 (DArgs.cons rfl ct (DArgs.cons rfl ct DArgs.nil)) rfl rfl rfl rfl rfl ?_
    refine DW.callP (.pr fun u W => SI W u (S.take k ++ S.drop (k + 1))) (fun _ _ _ hb h => si_step h hb) rfl rfl en40 rfl ct (PArgs.cons rfl ct PArgs.nil) (fun _ w' hb' vs hs => ?_) ?_
    · obtain ⟨u, rfl, ⟨g, rfl, hG⟩⟩ := Sats.one hs
      exact (concat_c (lit_rows [(_, S.take k), (_, S.drop (k + 1))] hG rfl (fun p hp => by
        simp only [List.mem_cons, List.not_mem_nil, or_false] at hp
        rcases hp with rfl | rfl
        · exact si_step ht hb'
        · exact si_step hdr hb') (by simp)) (by simp; omega) (by simp; omega)).mono fun u w'' ⟨h1, h2⟩ => ⟨h1, h2⟩
    refine DW.callP (.ex (.bool (dec (Fitted d (restS l (S.take k ++ S.drop (k + 1))))))) (trivial) rfl rfl en32 rfl ct (PArgs.cons rfl ct (PArgs.cons rfl ct (PArgs.cons rfl ct PArgs.nil))) (fun _ w' hb' vs hs => ?_) ?_
    · obtain ⟨a1, a2, u, rfl, rfl, rfl, hu⟩ := Sats.three hs
      have hu : SI w' u (S.take k ++ S.drop (k + 1)) := hu
      exact (explained_c (sd_step hd' hb') (se_step hl' hb') hu (by omega) (fun e he => by have := hne e he; omega)).mono fun u w'' ⟨h1, h2⟩ => ⟨h1, h2⟩
    refine DW.nil (DW.fin [0, 1, 2, 14, 65, 66, 80] [(0, _, _), (1, _, _), (2, _, _), (14, _, _), (65, _, _), (66, _, _), (80, _, _)] rfl (fun w5 c5 => KW.then_ ?_))
    rw [her, dec_congr (hw.rest (S.eraseIdx k))]
    refine CW.cond rfl (fun hyes => ?_) (fun hnot => ?_)
    · refine CW.seq (CW.region ?_)
      refine TW.assign rfl rfl rfl ct ?_
      refine TW.nil (KW.pick [0, 1, 2, 6, 14, 65, 66] [(0, _, _), (1, _, _), (2, _, _), (6, _, _), (14, _, _), (65, _, _), (66, _, _)] rfl (KW.then_ ?_))
      refine CW.ret (KW.blockR (KW.thenR (KW.thenR (KW.blockR (KW.thenR ?_)))))
      refine ret1 Tryz.results16 rfl (⟨(b3.step hB').step c5, by rw [dec_neg fun h => h.each k (by omega) (dec_iff.1 hyes)]⟩)
    refine CW.skip (KW.blockN (KW.then_ (CW.region ?_)))
    refine TW.add rfl rfl rfl ct rfl ct (fun _ => by (try dsimp only); omega) ?_
    refine TW.move rfl rfl rfl ct ?_
    refine TW.nil (KW.pick [0, 1, 2, 14, 65, 66] [(0, _, _), (1, _, _), (2, _, _), (14, _, _), (65, _, _), (66, _, _)] rfl ?_)
    refine KW.round (k + 1) [0, 1, 2, 65, 66] rfl ⟨by omega, hB'.step c5, fun i hi => ?_⟩ (by omega)
    by_cases hik : i = k
    · subst hik
      exact fun h => by rw [dec_pos h] at hnot; cases hnot
    · exact hno i (by omega)
  · have hke : k = S.length := by omega
    subst hke
    refine CW.exit (KW.thenX (KW.thenX (KW.blockX (KW.then_ (CW.seq (CW.region ?_))))))
    refine TW.assign rfl rfl rfl ct ?_
    refine TW.nil (KW.pick [0, 1, 2, 6, 65, 66] [(0, _, _), (1, _, _), (2, _, _), (6, _, _), (65, _, _), (66, _, _)] rfl (KW.then_ ?_))
    refine CW.ret ?_
    refine ret1 Tryz.results16 rfl (⟨b3.step hB', by rw [dec_pos ⟨hw, hinc, hsub, hp, hno⟩]⟩)
end Go.Proofs.YtmhfeehkpndadaaGreat
