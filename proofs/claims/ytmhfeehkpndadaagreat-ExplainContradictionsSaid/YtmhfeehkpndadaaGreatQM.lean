/- Texts joined: Ex Hd Dsure. -/
import Derived.Test.YtmhfeehkpndadaaGreatQL
import Derived.Test.YtmhfeehkpndadaaGreatQC
set_option linter.unusedSimpArgs false
set_option linter.unusedVariables false

namespace Go.Proofs.YtmhfeehkpndadaaGreat
open Go.PF Go.RowKit Go.Ord

/-! ### the chapter's example -/
def d0 : Dist := [[0, 10], [10, 0]]
def l0 : List Ev := [⟨0, 5, 5, [3]⟩, ⟨1, 8, 8, [1]⟩, ⟨1, 9, 9, [2]⟩]
theorem wfd0 : WfD d0 := by
  have two : ∀ i, i < List.length d0 → i = 0 ∨ i = 1 := fun i hi => by simp [d0] at hi; omega
  refine ⟨by decide, fun i r hr => ?_, by decide, fun i j hi hj => ?_, fun i k j hi hk hj => ?_⟩
  rotate_left
  · rcases two i hi with rfl | rfl <;> rcases two j hj with rfl | rfl <;> decide
  · rcases two i hi with rfl | rfl <;> rcases two j hj with rfl | rfl <;> rcases two k hk with rfl | rfl <;> decide
  match i, hr with
  | 0, hr => simp [d0] at hr; subst hr; rfl
  | 1, hr => simp [d0] at hr; subst hr; rfl
  | n + 2, hr => simp [d0] at hr
theorem wfp0 : WfP d0 l0 := by
  refine ⟨wfd0, by decide, fun e he => ?_, by decide⟩
  simp [l0] at he
  rcases he with rfl | rfl | rfl <;> exact ⟨by decide, by decide⟩
theorem recs0 : recsS l0 = [1, 2, 3] := by decide
theorem nposs2 {d : Dist} {e f : Ev} (he : e.low = e.high) (hf : f.low = f.high) (h1 : ¬ Aft d (e, e.low) (f, f.low)) (h2 : ¬ Aft d (f, f.low) (e, e.low)) : ¬ Poss d [e, f] := by
  rintro ⟨l, hl, g1, g2⟩
  obtain ⟨a, b, rfl⟩ : ∃ a b, l = [a, b] := by
    have hn := congrArg List.length hl
    simp at hn
    obtain ⟨a, l1, rfl⟩ := List.exists_cons_of_length_pos (l := l) (by omega)
    obtain ⟨b, l2, rfl⟩ := List.exists_cons_of_length_pos (l := l1) (by simp at hn; omega)
    have : l2 = [] := by simpa using hn
    exact ⟨a, b, by rw [this]⟩
  obtain ⟨a1, a2⟩ := a
  obtain ⟨b1, b2⟩ := b
  simp at hl
  obtain ⟨rfl, rfl⟩ := hl
  have q1 := g1 (a1, a2) (by simp)
  have q2 := g1 (b1, b2) (by simp)
  dsimp only at q1 q2
  have ea : a2 = a1.low := by omega
  have eb : b2 = b1.low := by omega
  subst ea eb
  simp at g2
  rcases g2 with h | h
  · exact h1 h
  · exact h2 h
theorem n01 : ¬ Poss d0 [⟨0, 5, 5, [3]⟩, ⟨1, 8, 8, [1]⟩] := nposs2 rfl rfl (by simp [Aft, at2, d0]) (by simp [Aft, at2, d0])
theorem n02 : ¬ Poss d0 [⟨0, 5, 5, [3]⟩, ⟨1, 9, 9, [2]⟩] := nposs2 rfl rfl (by simp [Aft, at2, d0]) (by simp [Aft, at2, d0])
theorem p12 : Poss d0 [⟨1, 8, 8, [1]⟩, ⟨1, 9, 9, [2]⟩] := ⟨[(⟨1, 8, 8, [1]⟩, 8), (⟨1, 9, 9, [2]⟩, 9)], rfl, by simp, by simp [Aft, at2, d0]⟩
theorem p0 : Poss d0 [⟨0, 5, 5, [3]⟩] := ⟨[(⟨0, 5, 5, [3]⟩, 5)], rfl, by simp, by simp⟩
theorem n012 : ¬ Poss d0 l0 := fun h => n01 (h.sub (List.take_sublist 2 l0))

theorem lok0 : LOK d0 l0 := ⟨wfp0, by rw [recs0]; decide⟩
theorem first0 : firstS d0 l0 = some [3] := by
  unfold firstS
  rw [recs0, show allS [1, 2, 3] = [[], [1], [2], [3], [1, 2], [1, 3], [2, 3], [1, 2, 3]] from rfl]
  rw [List.find?_cons_of_neg, List.find?_cons_of_neg, List.find?_cons_of_neg, List.find?_cons_of_pos]
  · rw [show restS l0 [3] = [⟨1, 8, 8, [1]⟩, ⟨1, 9, 9, [2]⟩] from rfl]; exact dec_pos p12
  · rw [show restS l0 [2] = [⟨0, 5, 5, [3]⟩, ⟨1, 8, 8, [1]⟩] from rfl, dec_neg n01]; simp
  · rw [show restS l0 [1] = [⟨0, 5, 5, [3]⟩, ⟨1, 9, 9, [2]⟩] from rfl, dec_neg n02]; simp
  · rw [show restS l0 [] = l0 from rfl, dec_neg n012]; simp
theorem with0 : withE d0 l0 = 0 ∧ withS d0 l0 = [3] := ⟨by rw [lok0.err, first0], by rw [lok0.set, first0]; rfl⟩
theorem lok2 : LOK d0 (l0.take 2) := lok0.sub (List.take_sublist _ _)
theorem first2 : firstS d0 (l0.take 2) = some [1] := by
  unfold firstS
  rw [show recsS (l0.take 2) = [1, 3] from by decide, show allS [1, 3] = [[], [1], [3], [1, 3]] from rfl]
  rw [List.find?_cons_of_neg, List.find?_cons_of_pos]
  · rw [show restS (l0.take 2) [1] = [⟨0, 5, 5, [3]⟩] from rfl]; exact dec_pos p0
  · rw [show restS (l0.take 2) [] = [⟨0, 5, 5, [3]⟩, ⟨1, 8, 8, [1]⟩] from rfl, dec_neg n01]; simp
theorem with2 : withE d0 (l0.take 2) = 0 ∧ withS d0 (l0.take 2) = [1] := ⟨by rw [lok2.err, first2], by rw [lok2.set, first2]; rfl⟩
theorem lok1 : LOK d0 (l0.drop 1) := lok0.sub (List.drop_sublist _ _)
theorem with1 : withE d0 (l0.drop 1) = 0 ∧ withS d0 (l0.drop 1) = [] := by
  have h : firstS d0 (l0.drop 1) = some [] := first_nil_iff.2 p12
  exact ⟨by rw [lok1.err, h], by rw [lok1.set, h]; rfl⟩
theorem with3 : withE d0 [⟨2, 0, 0, []⟩] = 1 := by
  unfold withE
  rw [if_neg]
  rw [dec_neg fun h => ?_]
  · simp
  · have := (h.each ⟨2, 0, 0, []⟩ (by simp)).o2
    simp [d0] at this
theorem with4 : withE d0 [⟨0, 1, 0, []⟩] = 280 := by
  have hw : LOK d0 [⟨0, 1, 0, []⟩] := ⟨⟨wfd0, by decide, fun e he => by simp at he; subst he; exact ⟨by decide, by decide⟩, by simp⟩, by decide⟩
  have hn : firstS d0 [⟨0, 1, 0, []⟩] = none := by
    unfold firstS
    rw [show recsS [(⟨0, 1, 0, []⟩ : Ev)] = [] from rfl, show allS [] = [[]] from rfl, List.find?_cons_of_neg]
    · rfl
    · rw [show restS [(⟨0, 1, 0, []⟩ : Ev)] [] = [⟨0, 1, 0, []⟩] from rfl, dec_neg]
      · simp
      · rintro ⟨x, hx, h1, _⟩
        obtain ⟨p, hp⟩ := List.exists_mem_of_ne_nil x (fun e => by subst e; cases hx)
        have hpe : p.1 = ⟨0, 1, 0, []⟩ := by
          have : p.1 ∈ x.map (·.1) := List.mem_map_of_mem hp
          rw [hx] at this
          simpa using this
        have := h1 p hp
        rw [hpe] at this
        dsimp only at this
        omega
  rw [hw.err, hn]
theorem fit3 : dec (Fitted d0 (restS l0 [3])) = true := dec_pos ((wfp0.rest [3]).2 p12)
theorem min12 : dec (MinP d0 l0 [1, 2]) = true := by
  refine dec_pos ⟨wfp0, by simp [Inc], by rw [recs0]; decide, p0, fun i hi => ?_⟩
  have hi' : i = 0 ∨ i = 1 := by simp at hi; omega
  rcases hi' with rfl | rfl
  · exact n01
  · exact n02
theorem min13 : dec (MinP d0 l0 [1, 3]) = false := dec_neg fun h => h.each 0 (by decide) p12
theorem min1 : dec (MinP d0 l0 [1]) = false := dec_neg fun h => n02 h.poss
theorem min21 : dec (MinP d0 l0 [2, 1]) = false := dec_neg fun h => by have := h.inc; simp [Inc] at this
theorem minN : dec (MinP d0 (l0.drop 1) []) = true := dec_pos (min_nil.2 ⟨lok1.wf, p12⟩)
theorem needs0 : ∀ e ∈ l0, e.needs.length ≤ 1000 := by decide
theorem needs2 : ∀ e ∈ l0.take 2, e.needs.length ≤ 1000 := by decide
theorem needs1 : ∀ e ∈ l0.drop 1, e.needs.length ≤ 1000 := by decide

set_option maxRecDepth 20000 in
theorem example_c {w : World} : Gives Tryz.prog 28 #[] w fun u w' => Below w.heap.size w w' ∧ ∃ v x, u = .tuple #[v, x] ∧ SD w' v d0 ∧ SE w' x l0 := by
  refine gives_of (vs := []) [] Tryz.func28 rfl Tryz.ntmps28 rfl rfl ?_
  refine CW.seq (CW.region ?_)
  refine TW.assign rfl rfl rfl ct ?_
  refine TW.assign rfl rfl rfl ct ?_
  refine TW.nil (KW.pick [0, 1] [(0, _, _), (1, _, _)] rfl (KW.then_ ?_))
  refine CW.seq (CW.region ?_)
  refine TW.buildSlice 3 _ rfl rfl rfl eo24 (Args.cons rfl ct (Args.cons rfl ct Args.nil)) rfl rfl rfl rfl rfl ?_
  rintro g1 w1 f1
  refine TW.buildSlice 3 _ rfl rfl rfl eo24 (Args.cons rfl ct (Args.cons rfl ct Args.nil)) rfl rfl rfl rfl rfl ?_
  rintro g2 w2 f2
  refine TW.buildSlice 24 _ rfl rfl rfl eo22 (Args.cons rfl ct (Args.cons rfl ct Args.nil)) rfl rfl rfl rfl rfl ?_
  rintro g3 w3 f3
  have r1 : SI w3 (.slice (some ⟨g1, 0, none⟩) 2 2) [0, 10] := lit_int _ ((f1.blk.next f2.below).next f3.below) rfl (by decide) (by decide)
  have r2 : SI w3 (.slice (some ⟨g2, 0, none⟩) 2 2) [10, 0] := lit_int _ (f2.blk.next f3.below) rfl (by decide) (by decide)
  have hd3 : SD w3 (.slice (some ⟨g3, 0, none⟩) 2 2) d0 := lit_rows [(_, [0, 10]), (_, [10, 0])] f3.blk rfl (by simp; exact ⟨r1, r2⟩) (by simp)
  refine TW.buildSlice 3 _ rfl rfl rfl eo24 (Args.cons rfl ct Args.nil) rfl rfl rfl rfl rfl ?_
  rintro g5 w5 f5
  refine TW.build [0, 1, 2, 3] _ [.int .i64 0, .int .i64 5, .int .i64 5, .slice (some ⟨g5, 0, none⟩) 1 1] rfl rfl rfl (Args.cons rfl ct (Args.cons rfl ct (Args.cons rfl ct (Args.cons rfl ct Args.nil)))) (by kernel_rfl) ?_
  refine TW.buildSlice 3 _ rfl rfl rfl eo24 (Args.cons rfl ct Args.nil) rfl rfl rfl rfl rfl ?_
  rintro g7 w7 f7
  refine TW.build [0, 1, 2, 3] _ [.int .i64 1, .int .i64 8, .int .i64 8, .slice (some ⟨g7, 0, none⟩) 1 1] rfl rfl rfl (Args.cons rfl ct (Args.cons rfl ct (Args.cons rfl ct (Args.cons rfl ct Args.nil)))) (by kernel_rfl) ?_
  refine TW.buildSlice 3 _ rfl rfl rfl eo24 (Args.cons rfl ct Args.nil) rfl rfl rfl rfl rfl ?_
  rintro g9 w9 f9
  refine TW.build [0, 1, 2, 3] _ [.int .i64 1, .int .i64 9, .int .i64 9, .slice (some ⟨g9, 0, none⟩) 1 1] rfl rfl rfl (Args.cons rfl ct (Args.cons rfl ct (Args.cons rfl ct (Args.cons rfl ct Args.nil)))) (by kernel_rfl) ?_
  refine TW.buildSlice 43 _ rfl rfl rfl eo23 (Args.cons rfl ct (Args.cons rfl ct (Args.cons rfl ct Args.nil))) rfl rfl rfl rfl rfl ?_
  rintro g11 w11 f11
  refine TW.assign rfl rfl rfl ct ?_
  refine TW.assign rfl rfl rfl ct ?_
  refine TW.nil (KW.pick [0, 1] [(0, _, _), (1, _, _)] rfl (KW.then_ ?_))
  refine CW.ret ?_
  have b9 := f9.below.step f11.below
  have b7 := f7.below.step b9
  have b5 := f5.below.step b7
  have b3 := f1.below.step (f2.below.step f3.below)
  have n0 : SI w11 (.slice (some ⟨g5, 0, none⟩) 1 1) [3] := lit_int _ (f5.blk.next b7) rfl (by decide) (by decide)
  have n1 : SI w11 (.slice (some ⟨g7, 0, none⟩) 1 1) [1] := lit_int _ (f7.blk.next b9) rfl (by decide) (by decide)
  have n2 : SI w11 (.slice (some ⟨g9, 0, none⟩) 1 1) [2] := lit_int _ (f9.blk.next f11.below) rfl (by decide) (by decide)
  have he : SE w11 (.slice (some ⟨g11, 0, none⟩) 3 3) l0 := lit_evs [([.int .i64 0, .int .i64 5, .int .i64 5, .slice (some ⟨g5, 0, none⟩) 1 1], ⟨0, 5, 5, [3]⟩), ([.int .i64 1, .int .i64 8, .int .i64 8, .slice (some ⟨g7, 0, none⟩) 1 1], ⟨1, 8, 8, [1]⟩), ([.int .i64 1, .int .i64 9, .int .i64 9, .slice (some ⟨g9, 0, none⟩) 1 1], ⟨1, 9, 9, [2]⟩)] f11.blk rfl (fun p hp => by
    simp only [List.mem_cons, List.not_mem_nil, or_false] at hp
    rcases hp with rfl | rfl | rfl
    · exact ⟨_, rfl, i64_small (by simp) (by simp), i64_small (by simp) (by simp), i64_small (by simp) (by simp), n0⟩
    · exact ⟨_, rfl, i64_small (by simp) (by simp), i64_small (by simp) (by simp), i64_small (by simp) (by simp), n1⟩
    · exact ⟨_, rfl, i64_small (by simp) (by simp), i64_small (by simp) (by simp), i64_small (by simp) (by simp), n2⟩) (by simp)
  refine ret2 Tryz.results28 rfl rfl (⟨b3.step b5, _, _, rfl, sd_step hd3 b5, he⟩)

theorem one_ev {w : World} {g : Nat} {o a b : Int} (h : Blk w g 43 [.int .i64 o, .int .i64 a, .int .i64 b, .slice none 0 0]) (ho : -1000000 ≤ o ∧ o ≤ 1000000) (ha : -1000000 ≤ a ∧ a ≤ 1000000) (hb : -1000000 ≤ b ∧ b ≤ 1000000) : SE w (.slice (some ⟨g, 0, none⟩) 1 1) [⟨o, a, b, []⟩] :=
  lit_evs [([.int .i64 o, .int .i64 a, .int .i64 b, .slice none 0 0], ⟨o, a, b, []⟩)] h rfl (fun p hp => by
    simp only [List.mem_cons, List.not_mem_nil, or_false] at hp
    subst hp
    exact ⟨_, rfl, i64_small ho.1 ho.2, i64_small ha.1 ha.2, i64_small hb.1 hb.2, SL.nil _ _ _⟩) (by simp)
end Go.Proofs.YtmhfeehkpndadaaGreat

namespace Go.Proofs.YtmhfeehkpndadaaGreat
open Go.PF Go.RowKit Go.Ord

set_option maxRecDepth 40000 in
set_option maxHeartbeats 1000000 in
theorem head_c {w : World} : Gives Tryz.prog 11 #[] w fun u w' => Below w.heap.size w w' ∧ u = .bool true := by
  obtain ⟨x0, y0⟩ := with0
  obtain ⟨x1, y1⟩ := with2
  obtain ⟨x2, y2⟩ := with1
  have x3 := with3
  have x4 := with4
  refine gives_of (vs := []) [] Tryz.func11 rfl Tryz.ntmps11 rfl rfl ?_
  refine CW.seq (CW.region ?_)
  refine TW.assign rfl rfl rfl ct ?_
  refine TW.nil (KW.pick [0] [(0, _, _)] rfl (KW.then_ ?_))
  refine CW.seq (CW.region ?_)
  refine TW.call0 (cap := []) rfl rfl en28 rfl Args.nil (example_c) ?_
  rintro z1 w1 ⟨b1, dv, lv, rfl, hd1, hl1⟩
  obtain ⟨LA, lcap, rfl, hlc⟩ := hl1.form
  have h3l : l0.length = 3 := rfl
  refine TW.move rfl rfl rfl ct ?_
  refine TW.extract rfl rfl rfl rfl ct ?_
  refine TW.extract rfl rfl rfl rfl ct ?_
  refine TW.assign rfl rfl rfl ct ?_
  refine TW.assign rfl rfl rfl ct ?_
  refine TW.nil (KW.pick [0, 1, 2] [(0, _, _), (1, _, _), (2, _, _)] rfl (KW.then_ ?_))
  refine CW.seq (CW.region ?_)
  refine TW.move rfl rfl rfl ct ?_
  refine TW.move rfl rfl rfl ct ?_
  refine TW.call0 (cap := []) rfl rfl en13 rfl (Args.cons rfl ct (Args.cons rfl ct Args.nil)) (withdraw_c hd1 hl1 needs0) ?_
  rintro z2 w2 ⟨c2, v2, rfl, s2⟩
  rw [x0]
  rw [y0] at s2
  have b2 := b1.step c2
  have hd2 := sd_step hd1 c2
  have hl2 := se_step hl1 c2
  refine TW.move rfl rfl rfl ct ?_
  refine TW.extract rfl rfl rfl rfl ct ?_
  refine TW.extract rfl rfl rfl rfl ct ?_
  refine TW.assign rfl rfl rfl ct ?_
  refine TW.assign rfl rfl rfl ct ?_
  refine TW.nil (KW.pick [0, 1, 2, 3, 4] [(0, _, _), (1, _, _), (2, _, _), (3, _, _), (4, _, _)] rfl (KW.then_ ?_))
  refine CW.seq (CW.region ?_)
  refine TW.move rfl rfl rfl ct ?_
  refine TW.move rfl rfl rfl ct ?_
  refine TW.sliceH rfl rfl Tryz.underlying23 sz43 rfl ct rfl ct (fun _ => by (try dsimp only); omega) ?_
  refine TW.call0 (cap := []) rfl rfl en13 rfl (Args.cons rfl ct (Args.cons rfl ct Args.nil)) (withdraw_c hd2 (hl2.takeS (i := 2) (by decide)) needs2) ?_
  rintro z3 w3 ⟨c3, v3, rfl, s3⟩
  rw [x1]
  rw [y1] at s3
  have b3 := b2.step c3
  have hd3 := sd_step hd2 c3
  have hl3 := se_step hl2 c3
  refine TW.move rfl rfl rfl ct ?_
  refine TW.extract rfl rfl rfl rfl ct ?_
  refine TW.extract rfl rfl rfl rfl ct ?_
  refine TW.assign rfl rfl rfl ct ?_
  refine TW.assign rfl rfl rfl ct ?_
  refine TW.nil (KW.pick [0, 1, 2, 3, 4, 5, 6] [(0, _, _), (1, _, _), (2, _, _), (3, _, _), (4, _, _), (5, _, _), (6, _, _)] rfl (KW.then_ ?_))
  refine CW.seq (CW.region ?_)
  refine TW.move rfl rfl rfl ct ?_
  refine TW.move rfl rfl rfl ct ?_
  refine TW.sliceL rfl rfl Tryz.underlying23 sz43 rfl ct rfl ct (fun _ => by (try dsimp only); omega) ?_
  refine TW.call0 (cap := []) rfl rfl en13 rfl (Args.cons rfl ct (Args.cons rfl ct Args.nil)) (withdraw_c hd3 (SL.dropS hl3 (i := 1) (by decide)) needs1) ?_
  rintro z4 w4 ⟨c4, v4, rfl, s4⟩
  rw [x2]
  rw [y2] at s4
  have b4 := b3.step c4
  have hd4 := sd_step hd3 c4
  have hl4 := se_step hl3 c4
  refine TW.move rfl rfl rfl ct ?_
  refine TW.extract rfl rfl rfl rfl ct ?_
  refine TW.extract rfl rfl rfl rfl ct ?_
  refine TW.assign rfl rfl rfl ct ?_
  refine TW.assign rfl rfl rfl ct ?_
  refine TW.nil (KW.pick [0, 1, 2, 3, 4, 5, 6, 7, 8] [(0, _, _), (1, _, _), (2, _, _), (3, _, _), (4, _, _), (5, _, _), (6, _, _), (7, _, _), (8, _, _)] rfl (KW.then_ ?_))
  refine CW.seq (CW.region ?_)
  refine TW.move rfl rfl rfl ct ?_
  refine TW.build [0] _ [.int .i64 2, .int .i64 0, .int .i64 0, .slice none 0 0] rfl rfl rfl (Args.cons rfl ct Args.nil) (by kernel_rfl) ?_
  refine TW.buildSlice 43 _ rfl rfl rfl eo23 (Args.cons rfl ct Args.nil) rfl rfl rfl rfl rfl ?_
  rintro g5 w5 f5
  have hd5 := sd_step hd4 f5.below
  refine TW.call0 (cap := []) rfl rfl en13 rfl (Args.cons rfl ct (Args.cons rfl ct Args.nil)) (withdraw_c hd5 (one_ev f5.blk (by decide) (by decide) (by decide)) (by simp)) ?_
  rintro z6 w6 ⟨c6, v6, rfl, s6⟩
  rw [x3]
  have b6 := (b4.step f5.below).step c6
  have hd6 := sd_step hd5 c6
  have hl6 := (se_step (se_step hl4 f5.below) c6)
  refine TW.move rfl rfl rfl ct ?_
  refine TW.extract rfl rfl rfl rfl ct ?_
  refine TW.extract rfl rfl rfl rfl ct ?_
  refine TW.assign rfl rfl rfl ct ?_
  refine TW.assign rfl rfl rfl ct ?_
  refine TW.nil (KW.pick [0, 1, 2, 3, 4, 5, 6, 7, 8, 10] [(0, _, _), (1, _, _), (2, _, _), (3, _, _), (4, _, _), (5, _, _), (6, _, _), (7, _, _), (8, _, _), (10, _, _)] rfl (KW.then_ ?_))
  refine CW.seq (CW.region ?_)
  refine TW.move rfl rfl rfl ct ?_
  refine TW.build [0, 1, 2] _ [.int .i64 0, .int .i64 1, .int .i64 0, .slice none 0 0] rfl rfl rfl (Args.cons rfl ct (Args.cons rfl ct (Args.cons rfl ct Args.nil))) (by kernel_rfl) ?_
  refine TW.buildSlice 43 _ rfl rfl rfl eo23 (Args.cons rfl ct Args.nil) rfl rfl rfl rfl rfl ?_
  rintro g7 w7 f7
  have hd7 := sd_step hd6 f7.below
  refine TW.call0 (cap := []) rfl rfl en13 rfl (Args.cons rfl ct (Args.cons rfl ct Args.nil)) (withdraw_c hd7 (one_ev f7.blk (by decide) (by decide) (by decide)) (by simp)) ?_
  rintro z8 w8 ⟨c8, v8, rfl, s8⟩
  rw [x4]
  have b8 := (b6.step f7.below).step c8
  have hd8 := sd_step hd7 c8
  have hl8 := se_step (se_step hl6 f7.below) c8
  have c38 : Below w3.heap.size w3 w8 := ((((c4.step f5.below).step c6).step f7.below).step c8)
  have c48 : Below w4.heap.size w4 w8 := (((f5.below.step c6).step f7.below).step c8)
  have c28 : Below w2.heap.size w2 w8 := c3.step c38
  have s2' := si_step s2 c28
  have s3' := si_step s3 c38
  have s4' := si_step s4 c48
  obtain ⟨V4, cap4, rfl, _⟩ := s4'.form
  refine TW.move rfl rfl rfl ct ?_
  refine TW.extract rfl rfl rfl rfl ct ?_
  refine TW.extract rfl rfl rfl rfl ct ?_
  refine TW.assign rfl rfl rfl ct ?_
  refine TW.assign rfl rfl rfl ct ?_
  refine TW.nil (KW.pick [0, 1, 2, 3, 4, 5, 6, 7, 8, 10, 12] [(0, _, _), (1, _, _), (2, _, _), (3, _, _), (4, _, _), (5, _, _), (6, _, _), (7, _, _), (8, _, _), (10, _, _), (12, _, _)] rfl (KW.then_ ?_))
  refine CW.seq (CW.region ?_)
  refine TW.move rfl rfl rfl ct ?_
  refine TW.move rfl rfl rfl ct ?_
  refine TW.move rfl rfl rfl ct ?_
  refine TW.call0 (cap := []) rfl rfl en29 rfl (Args.cons rfl ct (Args.cons rfl ct Args.nil)) (rest_c hl8 s2' (by decide) (fun e he => by have := needs0 e he; omega)) ?_
  rintro rv w9 ⟨c9, h9⟩
  have hd9 := sd_step hd8 c9
  refine TW.call0 (cap := []) rfl rfl en25 rfl (Args.cons rfl ct (Args.cons rfl ct (Args.cons rfl ct Args.nil))) (fit_c hd9 h9) ?_
  rintro z10 w10 ⟨c10, tv, rfl⟩
  rw [fit3]
  have c8A := c9.step c10
  have b10 := b8.step c8A
  have hd10 := sd_step hd9 c10
  have hl10 := se_step hl8 c8A
  have s2A := si_step s2' c8A
  have s3A := si_step s3' c8A
  refine TW.move rfl rfl rfl ct ?_
  refine TW.extract rfl rfl rfl rfl ct ?_
  refine TW.extract rfl rfl rfl rfl ct ?_
  refine TW.assign rfl rfl rfl ct ?_
  refine TW.assign rfl rfl rfl ct ?_
  refine TW.nil (KW.pick [0, 1, 2, 3, 4, 5, 6, 7, 8, 10, 12, 14] [(0, _, _), (1, _, _), (2, _, _), (3, _, _), (4, _, _), (5, _, _), (6, _, _), (7, _, _), (8, _, _), (10, _, _), (12, _, _), (14, _, _)] rfl (KW.then_ ?_))
  refine CW.seq (CW.region ?_)
  refine TW.move rfl rfl rfl ct ?_
  refine TW.eql rfl rfl rfl ct rfl ct ?_
  refine TW.move rfl rfl rfl ct ?_
  refine TW.known rfl rfl ?_
  refine TW.move rfl rfl rfl ct ?_
  refine TW.known rfl rfl ?_
  refine TW.buildSlice 3 _ rfl rfl rfl eo24 (Args.cons rfl ct Args.nil) rfl rfl rfl rfl rfl ?_
  rintro g11 w11 f11
  refine TW.known rfl rfl ?_
  refine TW.call0 (cap := []) rfl rfl en15 rfl (Args.cons rfl ct (Args.cons rfl ct Args.nil)) (ints_c (b := [3]) (si_step s2A f11.below) (lit_int _ f11.blk rfl (by decide) (by decide))) ?_
  rintro z12 w12 ⟨c12, rfl⟩
  have b12 := f11.below.step c12
  refine TW.pickAnd rfl rfl rfl ct rfl pT ?_
  refine TW.move rfl rfl rfl ct ?_
  refine TW.known rfl rfl ?_
  refine TW.move rfl rfl rfl ct ?_
  refine TW.known rfl rfl ?_
  refine TW.eql rfl rfl rfl ct rfl ct ?_
  refine TW.pickAnd rfl rfl rfl ct rfl pT ?_
  refine TW.move rfl rfl rfl ct ?_
  refine TW.known rfl rfl ?_
  refine TW.move rfl rfl rfl ct ?_
  refine TW.known rfl rfl ?_
  refine TW.buildSlice 3 _ rfl rfl rfl eo24 (Args.cons rfl ct Args.nil) rfl rfl rfl rfl rfl ?_
  rintro g13 w13 f13
  refine TW.known rfl rfl ?_
  refine TW.call0 (cap := []) rfl rfl en15 rfl (Args.cons rfl ct (Args.cons rfl ct Args.nil)) (ints_c (b := [1]) (si_step (si_step s3A b12) f13.below) (lit_int _ f13.blk rfl (by decide) (by decide))) ?_
  rintro z14 w14 ⟨c14, rfl⟩
  have b14 := (b12.step f13.below).step c14
  refine TW.pickAnd rfl rfl rfl ct rfl pT ?_
  refine TW.move rfl rfl rfl ct ?_
  refine TW.known rfl rfl ?_
  refine TW.move rfl rfl rfl ct ?_
  refine TW.known rfl rfl ?_
  refine TW.eql rfl rfl rfl ct rfl ct ?_
  refine TW.pickAnd rfl rfl rfl ct rfl pT ?_
  refine TW.move rfl rfl rfl ct ?_
  refine TW.known rfl rfl ?_
  refine TW.move rfl rfl rfl ct ?_
  refine TW.known rfl rfl ?_
  refine TW.lenSlice rfl rfl Tryz.underlying24 rfl ct ?_
  refine TW.known rfl rfl ?_
  refine TW.eql rfl rfl rfl ct rfl ct ?_
  refine TW.pickAnd rfl rfl rfl ct rfl pT ?_
  refine TW.move rfl rfl rfl ct ?_
  refine TW.known rfl rfl ?_
  refine TW.move rfl rfl rfl ct ?_
  refine TW.known rfl rfl ?_
  refine TW.eql rfl rfl rfl ct rfl ct ?_
  refine TW.pickAnd rfl rfl rfl ct rfl pT ?_
  refine TW.move rfl rfl rfl ct ?_
  refine TW.known rfl rfl ?_
  refine TW.move rfl rfl rfl ct ?_
  refine TW.known rfl rfl ?_
  refine TW.eql rfl rfl rfl ct rfl ct ?_
  refine TW.pickAnd rfl rfl rfl ct rfl pT ?_
  refine TW.move rfl rfl rfl ct ?_
  refine TW.known rfl rfl ?_
  refine TW.move rfl rfl rfl ct ?_
  refine TW.pickAnd rfl rfl rfl ct rfl pT ?_
  refine TW.assign rfl rfl rfl ct ?_
  refine TW.nil (KW.pick [0, 1, 2, 3, 4, 5, 6, 7, 8, 10, 12, 14, 15] [(0, _, _), (1, _, _), (2, _, _), (3, _, _), (4, _, _), (5, _, _), (6, _, _), (7, _, _), (8, _, _), (10, _, _), (12, _, _), (14, _, _), (15, _, _)] rfl (KW.then_ ?_))
  refine CW.seq (CW.region ?_)
  refine TW.move rfl rfl rfl ct ?_
  refine TW.move rfl rfl rfl ct ?_
  refine TW.known rfl rfl ?_
  refine TW.move rfl rfl rfl ct ?_
  refine TW.known rfl rfl ?_
  refine TW.move rfl rfl rfl ct ?_
  refine TW.known rfl rfl ?_
  have hd14 := sd_step hd10 b14
  have hl14 := se_step hl10 b14
  refine TW.buildSlice 3 _ rfl rfl rfl eo24 (Args.cons rfl ct (Args.cons rfl ct Args.nil)) rfl rfl rfl rfl rfl ?_
  rintro g15 w15 f15
  refine TW.known rfl rfl ?_
  have hd15 := sd_step hd14 f15.below
  have hl15 := se_step hl14 f15.below
  refine TW.call0 (cap := []) rfl rfl en16 rfl (Args.cons rfl ct (Args.cons rfl ct (Args.cons rfl ct Args.nil))) (minimal_c (S := [1, 2]) hd15 hl15 (lit_int _ f15.blk rfl (by decide) (by decide)) needs0) ?_
  rintro z16 w16 ⟨c16, rfl⟩
  rw [min12]
  have hd16 := sd_step hd15 c16
  have hl16 := se_step hl15 c16
  refine TW.pickAnd rfl rfl rfl ct rfl pT ?_
  refine TW.move rfl rfl rfl ct ?_
  refine TW.known rfl rfl ?_
  refine TW.move rfl rfl rfl ct ?_
  refine TW.known rfl rfl ?_
  refine TW.move rfl rfl rfl ct ?_
  refine TW.known rfl rfl ?_
  refine TW.buildSlice 3 _ rfl rfl rfl eo24 (Args.cons rfl ct (Args.cons rfl ct Args.nil)) rfl rfl rfl rfl rfl ?_
  rintro g17 w17 f17
  refine TW.known rfl rfl ?_
  have hd17 := sd_step hd16 f17.below
  have hl17 := se_step hl16 f17.below
  refine TW.call0 (cap := []) rfl rfl en16 rfl (Args.cons rfl ct (Args.cons rfl ct (Args.cons rfl ct Args.nil))) (minimal_c (S := [1, 3]) hd17 hl17 (lit_int _ f17.blk rfl (by decide) (by decide)) needs0) ?_
  rintro z18 w18 ⟨c18, rfl⟩
  rw [min13]
  have hd18 := sd_step hd17 c18
  have hl18 := se_step hl17 c18
  refine TW.known rfl rfl ?_
  refine TW.not rfl rfl rfl ct ?_
  refine TW.pickAnd rfl rfl rfl ct rfl pT ?_
  refine TW.move rfl rfl rfl ct ?_
  refine TW.known rfl rfl ?_
  refine TW.move rfl rfl rfl ct ?_
  refine TW.known rfl rfl ?_
  refine TW.move rfl rfl rfl ct ?_
  refine TW.known rfl rfl ?_
  refine TW.buildSlice 3 _ rfl rfl rfl eo24 (Args.cons rfl ct Args.nil) rfl rfl rfl rfl rfl ?_
  rintro g19 w19 f19
  refine TW.known rfl rfl ?_
  have hd19 := sd_step hd18 f19.below
  have hl19 := se_step hl18 f19.below
  refine TW.call0 (cap := []) rfl rfl en16 rfl (Args.cons rfl ct (Args.cons rfl ct (Args.cons rfl ct Args.nil))) (minimal_c (S := [1]) hd19 hl19 (lit_int _ f19.blk rfl (by decide) (by decide)) needs0) ?_
  rintro z20 w20 ⟨c20, rfl⟩
  rw [min1]
  have hd20 := sd_step hd19 c20
  have hl20 := se_step hl19 c20
  refine TW.known rfl rfl ?_
  refine TW.not rfl rfl rfl ct ?_
  refine TW.pickAnd rfl rfl rfl ct rfl pT ?_
  refine TW.move rfl rfl rfl ct ?_
  refine TW.known rfl rfl ?_
  refine TW.move rfl rfl rfl ct ?_
  refine TW.known rfl rfl ?_
  refine TW.move rfl rfl rfl ct ?_
  refine TW.known rfl rfl ?_
  refine TW.buildSlice 3 _ rfl rfl rfl eo24 (Args.cons rfl ct (Args.cons rfl ct Args.nil)) rfl rfl rfl rfl rfl ?_
  rintro g21 w21 f21
  refine TW.known rfl rfl ?_
  have hd21 := sd_step hd20 f21.below
  have hl21 := se_step hl20 f21.below
  refine TW.call0 (cap := []) rfl rfl en16 rfl (Args.cons rfl ct (Args.cons rfl ct (Args.cons rfl ct Args.nil))) (minimal_c (S := [2, 1]) hd21 hl21 (lit_int _ f21.blk rfl (by decide) (by decide)) needs0) ?_
  rintro z22 w22 ⟨c22, rfl⟩
  rw [min21]
  have hd22 := sd_step hd21 c22
  have hl22 := se_step hl21 c22
  refine TW.known rfl rfl ?_
  refine TW.not rfl rfl rfl ct ?_
  refine TW.pickAnd rfl rfl rfl ct rfl pT ?_
  refine TW.move rfl rfl rfl ct ?_
  refine TW.known rfl rfl ?_
  refine TW.move rfl rfl rfl ct ?_
  refine TW.known rfl rfl ?_
  refine TW.move rfl rfl rfl ct ?_
  refine TW.known rfl rfl ?_
  refine TW.sliceL rfl rfl Tryz.underlying23 sz43 rfl ct rfl ct (fun _ => by (try dsimp only); omega) ?_
  refine TW.known rfl rfl ?_
  refine TW.call0 (cap := []) rfl rfl en16 rfl (Args.cons rfl ct (Args.cons rfl ct (Args.cons rfl ct Args.nil))) (minimal_c (S := []) hd22 (SL.dropS hl22 (i := 1) (by decide)) (SL.nil intT (fun _ => True) _) needs1) ?_
  rintro z23 w23 ⟨c23, rfl⟩
  rw [minN]
  refine TW.pickAnd rfl rfl rfl ct rfl pT ?_
  refine TW.assign rfl rfl rfl ct ?_
  refine TW.nil (KW.pick [0, 1, 2, 3, 4, 5, 6, 7, 8, 10, 12, 14, 15] [(0, _, _), (1, _, _), (2, _, _), (3, _, _), (4, _, _), (5, _, _), (6, _, _), (7, _, _), (8, _, _), (10, _, _), (12, _, _), (14, _, _), (15, _, _)] rfl (KW.then_ ?_))
  refine CW.ret ?_
  have q1 := b10.step b14
  have q2 := (f15.below.step c16).step (f17.below.step c18)
  have q3 := (f19.below.step c20).step (f21.below.step c22)
  refine ret1 Tryz.results11 rfl (⟨((q1.step q2).step q3).step c23, rfl⟩)
end Go.Proofs.YtmhfeehkpndadaaGreat

/- Drawn regions: conditions that are known to hold are dropped. -/
namespace Go.PF
open Go.RowKit

def DEq (D D' : DE) : Prop := ∀ i, (dlook D i = none ∧ dlook D' i = none) ∨ ∃ c c' e, dlook D i = some (c, e) ∧ dlook D' i = some (c', e) ∧ (Cnd c ↔ Cnd c')
theorem DEq.symm {D D' : DE} (h : DEq D D') : DEq D' D := fun i => by
  rcases h i with ⟨h1, h2⟩ | ⟨c, c', e, h1, h2, h3⟩
  · exact .inl ⟨h2, h1⟩
  · exact .inr ⟨c', c, e, h2, h1, h3.symm⟩
theorem slotOK_congr {c c' : Option Bool} {e : Ent} {u : Value} {w : World} (hc : Cnd c ↔ Cnd c') (h : slotOK c e u w) : slotOK c' e u w := ⟨fun q => h.1 (hc.2 q), fun q => h.2 (fun p => q (hc.1 p))⟩
theorem DEq.fitL {N : Nat} {ds : List Deferred} {L : List Nat} {D D' : DE} {a : Act} {w : World} (h : DEq D D') (hf : FitL N ds L D a w) : FitL N ds L D' a w :=
  ⟨hf.size, hf.defers, fun i hi c e hl => by
    rcases h i with ⟨_, h2⟩ | ⟨c1, c2, e', h1, h2, h3⟩
    · rw [h2] at hl; cases hl
    · rw [h2] at hl; cases hl
      exact slotOK_congr h3 (hf.slots i hi c1 e h1)⟩
theorem DEq.fitD {N : Nat} {ds : List Deferred} {D D' : DE} {a : Act} {w : World} (h : DEq D D') (hf : FitD N ds D a w) : FitD N ds D' a w :=
  ⟨hf.size, hf.defers, fun i c e hl => by
    rcases h i with ⟨_, h2⟩ | ⟨c1, c2, e', h1, h2, h3⟩
    · rw [h2] at hl; cases hl
    · rw [h2] at hl; cases hl
      exact slotOK_congr h3 (hf.slots i c1 e h1)⟩
theorem DEq.gd {ops : List Oper} {D D' : DE} (h : DEq D D') {g : Option (Nat × Bool)} {G' : Option Bool} (hg : dgd ops D' g = some G') : ∃ G, dgd ops D g = some G ∧ (Cnd G ↔ Cnd G') := by
  cases g with
  | none => exact ⟨G', hg, Iff.rfl⟩
  | some p =>
    obtain ⟨j, want⟩ := p
    simp only [dgd] at hg ⊢
    cases hd : (ops[j]?).bind (·.dst) with
    | none => rw [hd] at hg; simp at hg
    | some d =>
      rw [hd] at hg
      simp only at hg ⊢
      rcases h d with ⟨_, h2⟩ | ⟨c, c', e, h1, h2, h3⟩
      · rw [h2] at hg; simp at hg
      · rw [h2] at hg
        rw [h1]
        cases e with
        | pr φ => rcases c' with _ | c' <;> simp at hg
        | own φ S => rcases c' with _ | c' <;> simp at hg
        | ex v =>
          cases v with
          | bool b =>
            rcases c with _ | c <;> rcases c' with _ | c' <;> simp [Cnd] at h3 <;> cases want <;> simp at hg <;> subst hg <;> simp [Cnd, h3]
          | _ => rcases c' with _ | c' <;> simp at hg
theorem DEq.ins {D D' : DE} (h : DEq D D') {d : Option Tmp} {G G' : Option Bool} (hG : Cnd G ↔ Cnd G') (e : Ent) : DEq (dins D d G e) (dins D' d G' e) := by
  cases d with
  | none => exact h
  | some d =>
    intro i
    simp only [dins, dlook]
    cases Nat.beq d i with
    | true => exact .inr ⟨G, G', e, rfl, rfl, hG⟩
    | false => exact h i
theorem DEq.drop {D D' : DE} (h : DEq D D') (s : List Nat) : DEq (ddrop D s) (ddrop D' s) := fun i => by
  rw [dlook_ddrop, dlook_ddrop]
  split
  · exact .inl ⟨rfl, rfl⟩
  · exact h i
theorem DEq.eat {D D' : DE} (h : DEq D D') {eats : List Nat} {a : Act} {g : Nat} (he : EatF D eats a g) : EatF D' eats a g := by
  obtain ⟨s, c, e, h1, h2, h3, h4⟩ := he
  rcases h s with ⟨q, _⟩ | ⟨c1, c2, e', q1, q2, q3⟩
  · rw [q] at h2; cases h2
  · rw [q1] at h2; cases h2
    exact ⟨s, c2, e, h1, q2, q3.1 h3, h4⟩
theorem EatF_eq {D D' : DE} (h : DEq D D') (eats : List Nat) (a : Act) : EatF D eats a = EatF D' eats a := funext fun _ => propext ⟨h.eat, h.symm.eat⟩

section
variable {P : Program} {N : Nat} {ds : List Deferred} {ops : List Oper} {w : World} {Fin : DE → Prop} {md : Mode}
theorem DW.congr (hF : ∀ D D', DEq D D' → Fin D' → Fin D) {rest : List Oper} : ∀ {D D' : DE}, DEq D D' → DW P N ds md ops w Fin rest D' → DW P N ds md ops w Fin rest D := by
  induction rest with
  | nil => intro D D' h hd; cases md <;> exact hF D D' h hd
  | cons o rest ih =>
    intro D D' h hd
    cases md with
    | weak =>
      obtain ⟨G', e, ⟨h1, h2, h3, h4, h5⟩, hn⟩ := hd
      obtain ⟨G, hg, hG⟩ := h.gd h1
      exact ⟨G, e, ⟨hg, h2, h3, h4, fun hc a w' hb ha => h5 (hG.1 hc) a w' hb (h.fitL ha)⟩, ih (h.ins hG e) hn⟩
    | own =>
      obtain ⟨G', e, eats, ⟨h1, h2, h3, h4, h5, h6, h7⟩, hn⟩ := hd
      obtain ⟨G, hg, hG⟩ := h.gd h1
      refine ⟨G, e, eats, ⟨hg, h2, h3, h4, h5, fun s hs => ?_, fun hc a w' hb ha => ?_⟩, ih ((h.drop eats).ins hG e) hn⟩
      · obtain ⟨c, φ, S, q⟩ := h6 s hs
        rcases h s with ⟨_, q2⟩ | ⟨c1, c2, e', q1, q2, _⟩
        · rw [q2] at q; cases q
        · rw [q2] at q; cases q
          exact ⟨c1, φ, S, q1⟩
      · rw [EatF_eq h]
        exact h7 (hG.1 hc) a w' hb (h.fitL ha)

def dsure : DE → DE
  | [] => []
  | (i, c, e) :: D => (i, sureC c, e) :: dsure D
theorem dsure_eq : ∀ D : DE, DEq D (dsure D)
  | [], i => .inl ⟨rfl, rfl⟩
  | (j, c, e) :: D, i => by
    simp only [dsure, dlook]
    cases Nat.beq j i with
    | true => exact .inr ⟨c, sureC c, e, rfl, rfl, (sureC_iff c).symm⟩
    | false => exact dsure_eq D i
theorem DW.sure {K : Act → World → Prop} {rest : List Oper} {D : DE} (h : DW P N ds md ops w (fun D => ∀ a w', Below w.heap.size w w' → FitD N ds D a w' → K a w') rest (dsure D)) : DW P N ds md ops w (fun D => ∀ a w', Below w.heap.size w w' → FitD N ds D a w' → K a w') rest D :=
  DW.congr (fun D D' hD hf a w' hb ha => hf a w' hb (hD.fitD ha)) (dsure_eq D) h
end
end Go.PF
