/- Texts joined: Ex Hd Law Op. -/
import Derived.Test.YtmdjkgkgpkaliaaQOe
import Derived.Test.YtmdjkgkgpkaliaaQFa
import Derived.ProofKit
import Derived.JoinedOf
import Derived.Deep.Slices
import Derived.Test.YtmdjkgkgpkaliaaRows
set_option linter.unusedSimpArgs false
set_option linter.unusedVariables false

namespace Go.Proofs.Ytmdjkgkgpkaliaa
open Go.PF Go.RowKit Go.Ord

def d0 : Dist := [[0, 10], [10, 0]]
def l0 : List Ev := [⟨0, 100, 100, [0]⟩, ⟨1, 105, 105, [1]⟩, ⟨1, 110, 110, [2]⟩]
theorem wfd0 : WfD d0 := by
  have two : ∀ i, i < List.length d0 → i = 0 ∨ i = 1 := fun i hi => by simp [d0] at hi; omega
  refine ⟨by decide, fun i r hr => ?_, by decide, fun i j hi hj => ?_, fun i k j hi hk hj => ?_⟩
  rotate_left
  · rcases two i hi with rfl | rfl <;> rcases two j hj with rfl | rfl <;> decide
  · rcases two i hi with rfl | rfl <;> rcases two j hj with rfl | rfl <;> rcases two k hk with rfl | rfl <;> decide
  match i, hr with
  | 0, hr => cases hr; rfl
  | 1, hr => cases hr; rfl
  | i + 2, hr => simp [d0] at hr
theorem wfp0 : WfP d0 l0 := by
  refine ⟨wfd0, by decide, fun e he => ?_, by decide⟩
  simp [l0] at he
  rcases he with rfl | rfl | rfl <;> exact ⟨by decide, by decide⟩
def manyTo (k : Nat) : List Ev := (List.range k).map fun i : Nat => ⟨0, 0, 0, [(i : Int), 14]⟩
theorem many_succ (k : Nat) : manyTo (k + 1) = manyTo k ++ [⟨0, 0, 0, [(k : Int), 14]⟩] := by simp [manyTo, List.range_succ]
theorem many_len (k : Nat) : (manyTo k).length = k := by simp [manyTo]
theorem wfpm : WfP d0 (manyTo 14) := by
  refine ⟨wfd0, by decide, fun e he => ?_, fun e he x hx => ?_⟩
  · simp [manyTo] at he
    obtain ⟨i, _, rfl⟩ := he
    exact ⟨Int.le_refl _, by simp [d0]⟩
  · simp [manyTo] at he
    obtain ⟨i, _, rfl⟩ := he
    simp at hx
    omega
theorem recs0 : recsS l0 = [0, 1, 2] := by decide
theorem recsm : (recsS (manyTo 14)).length = 15 := by decide
theorem sets0 : setsS [0, 1, 2] 0 = [[]] ∧ setsS [0, 1, 2] 1 = [[0], [1], [2]] ∧ setsS [0, 1, 2] 2 = [[0, 1], [0, 2], [1, 2]] ∧ setsS [0, 1, 2] 3 = [[0, 1, 2]] := ⟨rfl, rfl, rfl, rfl⟩
theorem poss12 : Poss d0 [⟨1, 105, 105, [1]⟩, ⟨1, 110, 110, [2]⟩] := ⟨[(⟨1, 105, 105, [1]⟩, 105), (⟨1, 110, 110, [2]⟩, 110)], rfl, by simp, by simp [Aft, at2, d0]⟩
theorem poss02 : Poss d0 [⟨0, 100, 100, [0]⟩, ⟨1, 110, 110, [2]⟩] := ⟨[(⟨0, 100, 100, [0]⟩, 100), (⟨1, 110, 110, [2]⟩, 110)], rfl, by simp, by simp [Aft, at2, d0]⟩
theorem nposs01 : ¬ Poss d0 [⟨0, 100, 100, [0]⟩, ⟨1, 105, 105, [1]⟩] := by
  rintro ⟨l, hl, h1, h2⟩
  obtain ⟨a, b, rfl⟩ : ∃ a b, l = [a, b] := by
    have hn := congrArg List.length hl
    simp at hn
    obtain ⟨a, l1, rfl⟩ := List.exists_cons_of_length_pos (l := l) (by omega)
    obtain ⟨b, l2, rfl⟩ := List.exists_cons_of_length_pos (l := l1) (by simp at hn; omega)
    have : l2 = [] := by simpa using hn
    exact ⟨a, b, by rw [this]⟩
  · simp at hl
    obtain ⟨ha, hb⟩ := hl
    have q1 := h1 a (by simp)
    have q2 := h1 b (by simp)
    simp at h2
    unfold Aft at h2
    rw [ha, hb] at h2
    rw [ha] at q1
    rw [hb] at q2
    simp [at2, d0] at h2 q1 q2
    omega
theorem poss_sub2 {e : Ev} {l : List Ev} (h : Poss d0 l) (he : e ∈ l) : Poss d0 [e] := h.sub (List.singleton_sublist.2 he)
theorem worlds0 : worldsS d0 l0 0 = [] := by
  unfold worldsS
  rw [if_pos ⟨dec_pos wfp0, by decide, by decide, by rw [recs0]; decide⟩, recs0]
  show (setsS [0, 1, 2] 0).filter _ = []
  rw [sets0.1, List.filter_cons_of_neg]
  · rfl
  · rw [show restS l0 [] = l0 from rfl, dec_neg]
    · simp
    · intro h
      exact nposs01 (h.sub (by simp [l0]))
theorem worlds1 : worldsS d0 l0 1 = [[0], [1]] := by
  unfold worldsS
  rw [if_pos ⟨dec_pos wfp0, by decide, by decide, by rw [recs0]; decide⟩, recs0]
  show (setsS [0, 1, 2] 1).filter _ = _
  rw [sets0.2.1, List.filter_cons_of_pos, List.filter_cons_of_pos, List.filter_cons_of_neg]
  · rfl
  · rw [show restS l0 [2] = [⟨0, 100, 100, [0]⟩, ⟨1, 105, 105, [1]⟩] from rfl, dec_neg nposs01]; simp
  · exact dec_pos poss02
  · exact dec_pos poss12
theorem worlds2 : worldsS d0 l0 2 = [[0, 1], [0, 2], [1, 2]] := by
  unfold worldsS
  rw [if_pos ⟨dec_pos wfp0, by decide, by decide, by rw [recs0]; decide⟩, recs0]
  show (setsS [0, 1, 2] 2).filter _ = _
  rw [sets0.2.2.1, List.filter_cons_of_pos, List.filter_cons_of_pos, List.filter_cons_of_pos]
  · rfl
  · exact dec_pos (poss_sub2 poss02 (e := ⟨0, 100, 100, [0]⟩) (by simp))
  · exact dec_pos (poss_sub2 poss12 (e := ⟨1, 105, 105, [1]⟩) (by simp))
  · exact dec_pos (poss_sub2 poss12 (e := ⟨1, 110, 110, [2]⟩) (by simp))
theorem worlds3 : worldsS d0 l0 3 = [[0, 1, 2]] := by
  unfold worldsS
  rw [if_pos ⟨dec_pos wfp0, by decide, by decide, by rw [recs0]; decide⟩, recs0]
  show (setsS [0, 1, 2] 3).filter _ = _
  rw [sets0.2.2.2, List.filter_cons_of_pos]
  · rfl
  · exact dec_pos (poss_nil d0)
theorem werr : worldsE d0 l0 0 = 280 ∧ worldsE d0 l0 1 = 0 ∧ worldsE d0 l0 2 = 0 ∧ worldsE d0 l0 3 = 0 ∧ worldsE d0 l0 4 = 1 ∧ worldsE d0 (manyTo 14) 1 = 2 := by
  have hr : (recsS l0).length ≤ 14 := by rw [recs0]; decide
  refine ⟨?_, ?_, ?_, ?_, ?_, ?_⟩
  · unfold worldsE; rw [if_pos ⟨dec_pos wfp0, by decide, by decide⟩, if_pos hr, worlds0, if_pos rfl]
  · unfold worldsE; rw [if_pos ⟨dec_pos wfp0, by decide, by decide⟩, if_pos hr, worlds1, if_neg (by simp)]
  · unfold worldsE; rw [if_pos ⟨dec_pos wfp0, by decide, by decide⟩, if_pos hr, worlds2, if_neg (by simp)]
  · unfold worldsE; rw [if_pos ⟨dec_pos wfp0, by decide, by decide⟩, if_pos hr, worlds3, if_neg (by simp)]
  · unfold worldsE; rw [if_neg (by rintro ⟨_, _, h⟩; omega)]
  · unfold worldsE; rw [if_pos ⟨dec_pos wfpm, by decide, by decide⟩, if_neg (by rw [recsm]; decide)]
end Go.Proofs.Ytmdjkgkgpkaliaa

namespace Go.Proofs.Ytmdjkgkgpkaliaa
open Go.PF Go.RowKit Go.Ord

theorem i64_small {x : Int} (h0 : -1000000 ≤ x) (h1 : x ≤ 1000000) : I64 x := ⟨by show (-9223372036854775808 : Int) ≤ x; omega, by show x ≤ 9223372036854775807; omega⟩
theorem lit_int {w : World} {g : Nat} {t : TypeId} {n : Nat} (l : List Int) (h : Blk w g t (l.map (Value.int .i64))) (hn : n = l.length) (hI : ∀ x ∈ l, -1000000 ≤ x ∧ x ≤ 1000000) (hs : l.length ≤ 1000000) : SI w (.slice (some ⟨g, 0, none⟩) n n) l := by
  subst hn
  exact OwnS.toInts (OwnS.of_blk h (by simp) (by omega)) (fun x hx => i64_small (hI x hx).1 (hI x hx).2) (fun q hq => by simp [Value.ownBlock] at hq; subst hq; exact h.lt) (by omega)
theorem lit_rows {w : World} {g : Nat} {t : TypeId} {n : Nat} (ps : List (Value × List Int)) (h : Blk w g t (ps.map (·.1))) (hn : n = ps.length) (hp : ∀ p ∈ ps, SI w p.1 p.2) (hs : ps.length ≤ 1000000) : SD w (.slice (some ⟨g, 0, none⟩) n n) (ps.map (·.2)) := by
  subst hn
  have e1 : (ps.map fun p => (([p.1], p.2) : List Value × List Int)).map (·.2) = ps.map (·.2) := by simp
  have e2 : (ps.map fun p => (([p.1], p.2) : List Value × List Int)).flatMap (·.1) = ps.map (·.1) := by
    clear h hp hs e1
    induction ps with
    | nil => rfl
    | cons p ps ih => simp [ih]
  have := OwnS.toSLp (T := sliceT intT) (F := fun k => k < w.heap.size) (w := w) (e := t) (v := .slice (some ⟨g, 0, none⟩) ps.length ps.length) (n := ps.length) (ps.map fun p => ([p.1], p.2)) (fun p hp' => by
    obtain ⟨q, hq, rfl⟩ := List.mem_map.1 hp'
    exact ⟨q.1, rfl, hp q hq⟩) (by show 0 < 1; decide) (by rw [e2]; exact OwnS.of_blk h (by show (ps.map (·.1)).length = ps.length * 1; simp) (by omega)) (by simp) (fun q hq => by simp [Value.ownBlock] at hq; subst hq; exact h.lt) (by simp; omega)
  rw [e1] at this
  exact this
theorem lit_evs {w : World} {g : Nat} {t : TypeId} {n : Nat} (ps : List (List Value × Ev)) (h : Blk w g t (ps.flatMap (·.1))) (hn : n = ps.length) (hp : ∀ p ∈ ps, evT.rep (fun k => k < w.heap.size) w p.1 p.2) (hs : ps.length ≤ 1000000) : SE w (.slice (some ⟨g, 0, none⟩) n n) (ps.map (·.2)) := by
  subst hn
  exact OwnS.toSLp (T := evT) (F := fun k => k < w.heap.size) (w := w) (e := t) (v := .slice (some ⟨g, 0, none⟩) ps.length ps.length) (n := ps.length) ps hp (by decide) (OwnS.of_blk h (flat_len (fun p : List Value × Ev => p.1) 4 ps (fun p hp' => evT.len _ _ _ _ (hp p hp'))) (by omega)) rfl (fun q hq => by simp [Value.ownBlock] at hq; subst hq; exact h.lt) (by omega)

set_option maxRecDepth 20000 in
theorem example_c {w : World} : Gives Try.prog 28 #[] w fun u w' => Below w.heap.size w w' ∧ ∃ v x, u = .tuple #[v, x] ∧ SD w' v d0 ∧ SE w' x l0 := by
  refine gives_of (vs := []) [] Try.func28 rfl Try.ntmps28 rfl rfl ?_
  refine CW.seq (CW.region ?_)
  refine TW.assign rfl rfl rfl ct ?_
  refine TW.assign rfl rfl rfl ct ?_
  refine TW.nil (KW.pick [0, 1] [(0, _, _), (1, _, _)] rfl (KW.then_ ?_))
  refine CW.seq (CW.region ?_)
  refine TW.buildSlice 3 _ rfl rfl rfl eo24 (Args.cons rfl ct (Args.cons rfl ct Args.nil)) rfl rfl rfl rfl rfl ?_
  rintro g1 w1 f1
  refine TW.buildSlice 3 _ rfl rfl rfl eo24 (Args.cons rfl ct (Args.cons rfl ct Args.nil)) rfl rfl rfl rfl rfl ?_
  rintro g2 w2 f2
  refine TW.buildSlice 24 _ rfl rfl rfl eo22 (Args.cons rfl ct (Args.cons rfl ct Args.nil)) rfl rfl rfl rfl rfl ?_
  rintro g3 w3 f3
  have r1 : SI w3 (.slice (some ⟨g1, 0, none⟩) 2 2) [0, 10] := lit_int _ ((f1.blk.next f2.below).next f3.below) rfl (by decide) (by decide)
  have r2 : SI w3 (.slice (some ⟨g2, 0, none⟩) 2 2) [10, 0] := lit_int _ (f2.blk.next f3.below) rfl (by decide) (by decide)
  have hd3 : SD w3 (.slice (some ⟨g3, 0, none⟩) 2 2) d0 := lit_rows [(_, [0, 10]), (_, [10, 0])] f3.blk rfl (by simp; exact ⟨r1, r2⟩) (by simp)
  refine TW.buildSlice 3 _ rfl rfl rfl eo24 (Args.cons rfl ct Args.nil) rfl rfl rfl rfl rfl ?_
  rintro g5 w5 f5
  refine TW.build [1, 2, 3] _ [.int .i64 0, .int .i64 100, .int .i64 100, .slice (some ⟨g5, 0, none⟩) 1 1] rfl rfl rfl (Args.cons rfl ct (Args.cons rfl ct (Args.cons rfl ct Args.nil))) (by kernel_rfl) ?_
  refine TW.buildSlice 3 _ rfl rfl rfl eo24 (Args.cons rfl ct Args.nil) rfl rfl rfl rfl rfl ?_
  rintro g7 w7 f7
  refine TW.build [0, 1, 2, 3] _ [.int .i64 1, .int .i64 105, .int .i64 105, .slice (some ⟨g7, 0, none⟩) 1 1] rfl rfl rfl (Args.cons rfl ct (Args.cons rfl ct (Args.cons rfl ct (Args.cons rfl ct Args.nil)))) (by kernel_rfl) ?_
  refine TW.buildSlice 3 _ rfl rfl rfl eo24 (Args.cons rfl ct Args.nil) rfl rfl rfl rfl rfl ?_
  rintro g9 w9 f9
  refine TW.build [0, 1, 2, 3] _ [.int .i64 1, .int .i64 110, .int .i64 110, .slice (some ⟨g9, 0, none⟩) 1 1] rfl rfl rfl (Args.cons rfl ct (Args.cons rfl ct (Args.cons rfl ct (Args.cons rfl ct Args.nil)))) (by kernel_rfl) ?_
  refine TW.buildSlice 43 _ rfl rfl rfl eo23 (Args.cons rfl ct (Args.cons rfl ct (Args.cons rfl ct Args.nil))) rfl rfl rfl rfl rfl ?_
  rintro g11 w11 f11
  refine TW.assign rfl rfl rfl ct ?_
  refine TW.assign rfl rfl rfl ct ?_
  refine TW.nil (KW.pick [0, 1] [(0, _, _), (1, _, _)] rfl (KW.then_ ?_))
  refine CW.ret ?_
  have b9 := f9.below.step f11.below
  have b7 := f7.below.step b9
  have b5 := f5.below.step b7
  have b3 := f1.below.step (f2.below.step f3.below)
  have n0 : SI w11 (.slice (some ⟨g5, 0, none⟩) 1 1) [0] := lit_int _ (f5.blk.next b7) rfl (by decide) (by decide)
  have n1 : SI w11 (.slice (some ⟨g7, 0, none⟩) 1 1) [1] := lit_int _ (f7.blk.next b9) rfl (by decide) (by decide)
  have n2 : SI w11 (.slice (some ⟨g9, 0, none⟩) 1 1) [2] := lit_int _ (f9.blk.next f11.below) rfl (by decide) (by decide)
  have he : SE w11 (.slice (some ⟨g11, 0, none⟩) 3 3) l0 := lit_evs [([.int .i64 0, .int .i64 100, .int .i64 100, .slice (some ⟨g5, 0, none⟩) 1 1], ⟨0, 100, 100, [0]⟩), ([.int .i64 1, .int .i64 105, .int .i64 105, .slice (some ⟨g7, 0, none⟩) 1 1], ⟨1, 105, 105, [1]⟩), ([.int .i64 1, .int .i64 110, .int .i64 110, .slice (some ⟨g9, 0, none⟩) 1 1], ⟨1, 110, 110, [2]⟩)] f11.blk rfl (fun p hp => by
    simp only [List.mem_cons, List.not_mem_nil, or_false] at hp
    rcases hp with rfl | rfl | rfl
    · exact ⟨_, rfl, i64_small (by simp) (by simp), i64_small (by simp) (by simp), i64_small (by simp) (by simp), n0⟩
    · exact ⟨_, rfl, i64_small (by simp) (by simp), i64_small (by simp) (by simp), i64_small (by simp) (by simp), n1⟩
    · exact ⟨_, rfl, i64_small (by simp) (by simp), i64_small (by simp) (by simp), i64_small (by simp) (by simp), n2⟩) (by simp)
  refine ret2 Try.results28 rfl rfl (⟨b3.step b5, _, _, rfl, sd_step hd3 b5, he⟩)

theorem needs0 : ∀ e ∈ l0, e.needs.length ≤ 1000 := by decide

set_option maxRecDepth 40000 in
set_option maxHeartbeats 1000000 in
theorem head_c {w : World} : Gives Try.prog 10 #[] w fun u w' => Below w.heap.size w w' ∧ u = .bool true := by
  obtain ⟨x0, x1, x2, x3, x4, x5⟩ := werr
  refine gives_of (vs := []) [] Try.func10 rfl Try.ntmps10 rfl rfl ?_
  refine CW.seq (CW.region ?_)
  refine TW.assign rfl rfl rfl ct ?_
  refine TW.nil (KW.pick [0] [(0, _, _)] rfl (KW.then_ ?_))
  refine CW.seq (CW.region ?_)
  refine TW.call0 (cap := []) rfl rfl en28 rfl Args.nil (example_c) ?_
  rintro y1 w1 ⟨b1, dv, lv, rfl, hd1, hl1⟩
  obtain ⟨LA, lcap, rfl, hlc⟩ := hl1.form
  have h3l : l0.length = 3 := rfl
  refine TW.move rfl rfl rfl ct ?_
  refine TW.extract rfl rfl rfl rfl ct ?_
  refine TW.extract rfl rfl rfl rfl ct ?_
  refine TW.assign rfl rfl rfl ct ?_
  refine TW.assign rfl rfl rfl ct ?_
  refine TW.nil (KW.pick [0, 1, 2] [(0, _, _), (1, _, _), (2, _, _)] rfl (KW.then_ ?_))
  refine CW.seq (CW.region ?_)
  refine TW.move rfl rfl rfl ct ?_
  refine TW.move rfl rfl rfl ct ?_
  refine TW.call0 (cap := []) rfl rfl en12 rfl (Args.cons rfl ct (Args.cons rfl ct (Args.cons rfl ct Args.nil))) (worlds_c (most := 0) hd1 hl1 needs0) ?_
  rintro y2 w2 ⟨c2, v2, rfl, s2⟩
  rw [x0]
  have b2 := b1.step c2
  have hd2 := sd_step hd1 c2
  have hl2 := se_step hl1 c2
  refine TW.move rfl rfl rfl ct ?_
  refine TW.extract rfl rfl rfl rfl ct ?_
  refine TW.extract rfl rfl rfl rfl ct ?_
  refine TW.assign rfl rfl rfl ct ?_
  refine TW.assign rfl rfl rfl ct ?_
  refine TW.nil (KW.pick [0, 1, 2, 4] [(0, _, _), (1, _, _), (2, _, _), (4, _, _)] rfl (KW.then_ ?_))
  refine CW.seq (CW.region ?_)
  refine TW.move rfl rfl rfl ct ?_
  refine TW.move rfl rfl rfl ct ?_
  refine TW.call0 (cap := []) rfl rfl en12 rfl (Args.cons rfl ct (Args.cons rfl ct (Args.cons rfl ct Args.nil))) (worlds_c (most := 1) hd2 hl2 needs0) ?_
  rintro y3 w3 ⟨c3, v3, rfl, s3⟩
  rw [x1]
  rw [worlds1] at s3
  have b3 := b2.step c3
  have hd3 := sd_step hd2 c3
  have hl3 := se_step hl2 c3
  refine TW.move rfl rfl rfl ct ?_
  refine TW.extract rfl rfl rfl rfl ct ?_
  refine TW.extract rfl rfl rfl rfl ct ?_
  refine TW.assign rfl rfl rfl ct ?_
  refine TW.assign rfl rfl rfl ct ?_
  refine TW.nil (KW.pick [0, 1, 2, 4, 5, 6] [(0, _, _), (1, _, _), (2, _, _), (4, _, _), (5, _, _), (6, _, _)] rfl (KW.then_ ?_))
  refine CW.seq (CW.region ?_)
  refine TW.move rfl rfl rfl ct ?_
  refine TW.move rfl rfl rfl ct ?_
  refine TW.call0 (cap := []) rfl rfl en12 rfl (Args.cons rfl ct (Args.cons rfl ct (Args.cons rfl ct Args.nil))) (worlds_c (most := 2) hd3 hl3 needs0) ?_
  rintro y4 w4 ⟨c4, v4, rfl, s4⟩
  rw [x2]
  rw [worlds2] at s4
  have b4 := b3.step c4
  have hd4 := sd_step hd3 c4
  have hl4 := se_step hl3 c4
  refine TW.move rfl rfl rfl ct ?_
  refine TW.extract rfl rfl rfl rfl ct ?_
  refine TW.extract rfl rfl rfl rfl ct ?_
  refine TW.assign rfl rfl rfl ct ?_
  refine TW.assign rfl rfl rfl ct ?_
  refine TW.nil (KW.pick [0, 1, 2, 4, 5, 6, 7, 8] [(0, _, _), (1, _, _), (2, _, _), (4, _, _), (5, _, _), (6, _, _), (7, _, _), (8, _, _)] rfl (KW.then_ ?_))
  refine CW.seq (CW.region ?_)
  refine TW.move rfl rfl rfl ct ?_
  refine TW.move rfl rfl rfl ct ?_
  refine TW.call0 (cap := []) rfl rfl en12 rfl (Args.cons rfl ct (Args.cons rfl ct (Args.cons rfl ct Args.nil))) (worlds_c (most := 3) hd4 hl4 needs0) ?_
  rintro y5 w5 ⟨c5, v5, rfl, s5⟩
  rw [x3]
  rw [worlds3] at s5
  have b5 := b4.step c5
  have hd5 := sd_step hd4 c5
  have hl5 := se_step hl4 c5
  refine TW.move rfl rfl rfl ct ?_
  refine TW.extract rfl rfl rfl rfl ct ?_
  refine TW.extract rfl rfl rfl rfl ct ?_
  refine TW.assign rfl rfl rfl ct ?_
  refine TW.assign rfl rfl rfl ct ?_
  refine TW.nil (KW.pick [0, 1, 2, 4, 5, 6, 7, 8, 9, 10] [(0, _, _), (1, _, _), (2, _, _), (4, _, _), (5, _, _), (6, _, _), (7, _, _), (8, _, _), (9, _, _), (10, _, _)] rfl (KW.then_ ?_))
  refine CW.seq (CW.region ?_)
  refine TW.move rfl rfl rfl ct ?_
  refine TW.move rfl rfl rfl ct ?_
  refine TW.call0 (cap := []) rfl rfl en12 rfl (Args.cons rfl ct (Args.cons rfl ct (Args.cons rfl ct Args.nil))) (worlds_c (most := 4) hd5 hl5 needs0) ?_
  rintro y6 w6 ⟨c6, v6, rfl, s6⟩
  rw [x4]
  have b6 := b5.step c6
  have hd6 := sd_step hd5 c6
  have hl6 := se_step hl5 c6
  refine TW.move rfl rfl rfl ct ?_
  refine TW.extract rfl rfl rfl rfl ct ?_
  refine TW.extract rfl rfl rfl rfl ct ?_
  refine TW.assign rfl rfl rfl ct ?_
  refine TW.assign rfl rfl rfl ct ?_
  refine TW.nil (KW.pick [0, 1, 2, 4, 5, 6, 7, 8, 9, 10, 12] [(0, _, _), (1, _, _), (2, _, _), (4, _, _), (5, _, _), (6, _, _), (7, _, _), (8, _, _), (9, _, _), (10, _, _), (12, _, _)] rfl (KW.then_ ?_))
  refine CW.seq (CW.region ?_)
  refine TW.buildSlice0 43 rfl rfl eo23 ?_
  rintro g7 w7 f7
  refine TW.assign rfl rfl rfl ct ?_
  refine TW.nil (KW.pick [0, 1, 2, 4, 5, 6, 7, 8, 9, 10, 12, 13] [(0, _, _), (1, _, _), (2, _, _), (4, _, _), (5, _, _), (6, _, _), (7, _, _), (8, _, _), (9, _, _), (10, _, _), (12, _, _), (13, _, _)] rfl (KW.then_ ?_))
  refine CW.seq (CW.seq (CW.region ?_))
  refine TW.assign rfl rfl rfl ct ?_
  refine TW.nil (KW.pick [0, 1, 2, 4, 5, 6, 7, 8, 9, 10, 12, 13, 14] [(0, _, _), (1, _, _), (2, _, _), (4, _, _), (5, _, _), (6, _, _), (7, _, _), (8, _, _), (9, _, _), (10, _, _), (12, _, _), (13, _, _), (14, _, _)] rfl (KW.then_ ?_))
  refine CW.block ?_
  have b7 := b6.step f7.below
  have hd7 := sd_step hd6 f7.below
  refine CW.loopS (fun x : Nat × Value => [(1, none, dv), (2, none, .slice LA l0.length lcap), (4, none, .int .i64 280), (5, none, v3), (6, none, .int .i64 0), (7, none, v4), (8, none, .int .i64 0), (9, none, v5), (10, none, .int .i64 0), (12, none, .int .i64 1), (13, none, x.2), (14, none, .int .i64 (x.1 : Int))])
    (fun x W => x.1 ≤ 14 ∧ Below w6.heap.size w6 W ∧ ∃ ps, RowL evT W 43 w6.heap.size x.2 ps ∧ ps.map (·.2) = manyTo x.1) (fun x => 14 - x.1) (0, .slice (some ⟨g7, 0, none⟩) 0 0) [1, 2, 4, 5, 6, 7, 8, 9, 10, 12, 13, 14]
    ⟨by simp, f7.below, [], ⟨OwnS.of_blk f7.blk (by simp) (by omega), (fun p hp => by cases hp), fun g hg => by simp [Value.ownBlock] at hg; rw [← hg, f7.at_]; exact Nat.le_refl _⟩, rfl⟩ rfl ?_
  rintro ⟨k, mv⟩ W ⟨hk, hW, ps, hrow, hps⟩
  dsimp only at hk hrow hps
  have hpl : ps.length = k := by
    have := congrArg List.length hps
    simpa [many_len] using this
  refine CW.seq (CW.seq (CW.region ?_))
  refine TW.move rfl rfl rfl ct ?_
  refine TW.lss rfl rfl rfl ct rfl ct ?_
  refine TW.nil (KW.pick [1, 2, 4, 5, 6, 7, 8, 9, 10, 12, 13, 14, 53] [(1, _, _), (2, _, _), (4, _, _), (5, _, _), (6, _, _), (7, _, _), (8, _, _), (9, _, _), (10, _, _), (12, _, _), (13, _, _), (14, _, _), (53, _, _)] rfl (KW.then_ ?_))
  refine CW.condP rfl (fun hlt => ?_) (fun hge => ?_)
  · refine CW.skip (KW.then_ (CW.seq (CW.block (CW.region ?_))))
    refine TW.move rfl rfl rfl ct ?_
    refine TW.move rfl rfl rfl ct ?_
    refine TW.buildSlice 3 _ rfl rfl rfl eo24 (Args.cons rfl ct (Args.cons rfl ct Args.nil)) rfl rfl rfl rfl rfl ?_
    rintro g8 w8 f8
    refine TW.build [3] _ [.int .i64 0, .int .i64 0, .int .i64 0, .slice (some ⟨g8, 0, none⟩) 2 2] rfl rfl rfl (Args.cons rfl ct Args.nil) (by kernel_rfl) ?_
    refine TW.buildSlice 43 _ rfl rfl rfl eo23 (Args.cons rfl ct Args.nil) rfl rfl rfl rfl rfl ?_
    rintro g9 w9 f9
    have hb9 := f8.below.step f9.below
    have hr9 := hrow.step hb9
    have hI : SI w9 (.slice (some ⟨g8, 0, none⟩) 2 2) [(k : Int), 14] := lit_int [(k : Int), 14] (f8.blk.next f9.below) rfl (fun x hx => by simp at hx; omega) (by simp)
    refine TW.append [.int .i64 0, .int .i64 0, .int .i64 0, .slice (some ⟨g8, 0, none⟩) 2 2] rfl rfl go23 rfl hr9.1 rfl rfl (fun j v hj => ⟨⟨g9, 0, none⟩, rfl, f9.blk.fld hj⟩) (fun v hv => by simp at hv; rcases hv with rfl | rfl <;> rfl) (by omega) (by omega) ?_
    rintro mv' w10 o10 hg10 hn10
    refine TW.assign rfl rfl rfl ct ?_
    refine TW.nil (KW.pick [1, 2, 4, 5, 6, 7, 8, 9, 10, 12, 13, 14] [(1, _, _), (2, _, _), (4, _, _), (5, _, _), (6, _, _), (7, _, _), (8, _, _), (9, _, _), (10, _, _), (12, _, _), (13, _, _), (14, _, _)] rfl (KW.blockN (KW.then_ ?_)))
    refine CW.region ?_
    refine TW.move rfl rfl rfl ct ?_
    refine TW.add rfl rfl rfl ct rfl ct (fun _ => by (try dsimp only); omega) ?_
    refine TW.assign rfl rfl rfl ct ?_
    refine TW.nil (KW.pick [1, 2, 4, 5, 6, 7, 8, 9, 10, 12, 13, 14] [(1, _, _), (2, _, _), (4, _, _), (5, _, _), (6, _, _), (7, _, _), (8, _, _), (9, _, _), (10, _, _), (12, _, _), (13, _, _), (14, _, _)] rfl ?_)
    have ha8 := f8.at_
    have hrow10 : RowL evT w10 43 w6.heap.size mv' (ps ++ [([.int .i64 0, .int .i64 0, .int .i64 0, .slice (some ⟨g8, 0, none⟩) 2 2], ⟨0, 0, 0, [(k : Int), 14]⟩)]) := by
      refine RowL.app hr9 o10 hg10 hn10 ⟨_, rfl, i64_small (by simp) (by simp), i64_small (by simp) (by simp), i64_small (by simp) (by simp), ?_⟩ (by have := hW.size; have := hb9.size; omega)
      have hI' : SL intT (fun q => q = g8) w9 (.slice (some ⟨g8, 0, none⟩) 2 2) [(k : Int), 14] := OwnS.toInts (l := [(k : Int), 14]) (OwnS.of_blk (n := 2) (sz := 1) (f8.blk.next f9.below) rfl (by omega)) hI.allI (fun q hq => by simp [Value.ownBlock] at hq; exact hq.symm) (by simp)
      refine hI'.wider fun q hq => ⟨?_, fun e => ?_⟩
      · subst hq; exact (f8.blk.next f9.below).lt
      · have := hrow.1.lt e
        omega
    refine KW.round (k + 1, mv') [1, 2, 4, 5, 6, 7, 8, 9, 10, 12, 13, 14] rfl ⟨by show k + 1 ≤ 14; omega, (hW.step hb9).grown hg10 (hW.step hb9).size (fun q hq => hrow.2.2 q hq), _, hrow10, by rw [List.map_append, hps, many_succ]; rfl⟩ (by show 14 - (k + 1) < 14 - k; omega)
  obtain rfl : k = 14 := by omega
  have hm := hrow.sl (by decide)
  rw [hps] at hm
  have b8 := b6.step hW
  have hd8 := sd_step hd6 hW
  refine CW.exit (KW.thenX (KW.thenX (KW.blockX (KW.then_ (CW.seq (CW.region ?_))))))
  refine TW.move rfl rfl rfl ct ?_
  refine TW.move rfl rfl rfl ct ?_
  refine TW.call0 (cap := []) rfl rfl en12 rfl (Args.cons rfl ct (Args.cons rfl ct (Args.cons rfl ct Args.nil))) (worlds_c (most := 1) hd8 hm (fun e he => by obtain ⟨i, _, rfl⟩ := List.mem_map.1 he; simp)) ?_
  rintro y9 w9 ⟨c9, v9, rfl, s9⟩
  rw [x5]
  have b9 := b8.step c9
  have hd9 := sd_step hd8 c9
  have hl9 := se_step (se_step hl6 hW) c9
  have q3 := ((s3.below c4).below c5).below c6
  have t3 : SD w9 v3 [[0], [1]] := (q3.below (hW.step c9)).now (sliceT_now intT_now)
  have t4 : SD w9 v4 [[0, 1], [0, 2], [1, 2]] := (((s4.below c5).below c6).below (hW.step c9)).now (sliceT_now intT_now)
  have t5 : SD w9 v5 [[0, 1, 2]] := ((s5.below c6).below (hW.step c9)).now (sliceT_now intT_now)
  refine TW.move rfl rfl rfl ct ?_
  refine TW.extract rfl rfl rfl rfl ct ?_
  refine TW.extract rfl rfl rfl rfl ct ?_
  refine TW.assign rfl rfl rfl ct ?_
  refine TW.assign rfl rfl rfl ct ?_
  refine TW.nil (KW.pick [1, 2, 4, 5, 6, 7, 8, 9, 10, 12, 13, 14, 16] [(1, _, _), (2, _, _), (4, _, _), (5, _, _), (6, _, _), (7, _, _), (8, _, _), (9, _, _), (10, _, _), (12, _, _), (13, _, _), (14, _, _), (16, _, _)] rfl (KW.then_ ?_))
  refine CW.seq (CW.draw mixed (by kernel_rfl) ?_)
  refine DW.move rfl rfl rfl ct ?_
  refine DW.eql rfl rfl rfl ct rfl ct ?_
  refine DW.move rfl rfl rfl ct ?_
  refine DW.move rfl rfl rfl ct ?_
  refine DW.eql rfl rfl rfl id rfl ct ?_
  refine DW.pickAnd rfl rfl rfl ct rfl pAnd0 ?_
  refine DW.move rfl rfl rfl ct ?_
  refine DW.move rfl rfl rfl ct ?_
  refine DW.buildSlice 3 _ rfl rfl rfl eo24 (DArgs.cons rfl ct DArgs.nil) rfl rfl rfl rfl rfl ?_
  refine DW.buildSlice 3 _ rfl rfl rfl eo24 (DArgs.cons rfl ct DArgs.nil) rfl rfl rfl rfl rfl ?_
  refine DW.buildSliceP 24 _ (fun u W => SD W u [[0], [1]]) (fun _ _ _ hb h => sd_step h hb) rfl rfl rfl eo22 (PArgs.cons rfl id (PArgs.cons rfl id PArgs.nil)) rfl rfl rfl (fun vs w' hs => ?_) ?_
  · obtain ⟨a, b, rfl, ⟨ga, rfl, Ba⟩, ⟨gb, rfl, Bb⟩⟩ := Sats.two hs
    refine ⟨by simp [Value.cells], fun gg w'' ff => lit_rows [(_, [0]), (_, [1])] ff.blk rfl (by simp; exact ⟨lit_int _ (Ba.next ff.below) rfl (by decide) (by decide), lit_int _ (Bb.next ff.below) rfl (by decide) (by decide)⟩) (by simp)⟩
  refine DW.callP (.ex (.bool (decide ([[0], [1]] = [[0], [1]])))) trivial rfl rfl en14 rfl ct (PArgs.cons rfl id (PArgs.cons rfl id PArgs.nil)) (fun _ w' hb' vs hs => ?_) ?_
  · obtain ⟨_, u, rfl, rfl, hu⟩ := Sats.two hs
    have hu : SD w' u [[0], [1]] := hu
    exact (rsame_c (t3.below hb') hu).mono fun x w'' ⟨h1, h2⟩ => ⟨h1, h2⟩
  refine DW.pickAnd rfl rfl rfl ct rfl pAnd0 ?_
  refine DW.move rfl rfl rfl ct ?_
  refine DW.move rfl rfl rfl ct ?_
  refine DW.eql rfl rfl rfl id rfl ct ?_
  refine DW.pickAnd rfl rfl rfl ct rfl pAnd0 ?_
  refine DW.move rfl rfl rfl ct ?_
  refine DW.move rfl rfl rfl ct ?_
  refine DW.buildSlice 3 _ rfl rfl rfl eo24 (DArgs.cons rfl ct (DArgs.cons rfl ct DArgs.nil)) rfl rfl rfl rfl rfl ?_
  refine DW.buildSlice 3 _ rfl rfl rfl eo24 (DArgs.cons rfl ct (DArgs.cons rfl ct DArgs.nil)) rfl rfl rfl rfl rfl ?_
  refine DW.buildSlice 3 _ rfl rfl rfl eo24 (DArgs.cons rfl ct (DArgs.cons rfl ct DArgs.nil)) rfl rfl rfl rfl rfl ?_
  refine DW.buildSliceP 24 _ (fun u W => SD W u [[0, 1], [0, 2], [1, 2]]) (fun _ _ _ hb h => sd_step h hb) rfl rfl rfl eo22 (PArgs.cons rfl id (PArgs.cons rfl id (PArgs.cons rfl id PArgs.nil))) rfl rfl rfl (fun vs w' hs => ?_) ?_
  · obtain ⟨a, b, c, rfl, ⟨ga, rfl, Ba⟩, ⟨gb, rfl, Bb⟩, ⟨gc, rfl, Bc⟩⟩ := Sats.three hs
    refine ⟨by simp [Value.cells], fun gg w'' ff => lit_rows [(_, [0, 1]), (_, [0, 2]), (_, [1, 2])] ff.blk rfl (by simp; exact ⟨lit_int _ (Ba.next ff.below) rfl (by decide) (by decide), lit_int _ (Bb.next ff.below) rfl (by decide) (by decide), lit_int _ (Bc.next ff.below) rfl (by decide) (by decide)⟩) (by simp)⟩
  refine DW.callP (.ex (.bool (decide ([[0, 1], [0, 2], [1, 2]] = [[0, 1], [0, 2], [1, 2]])))) trivial rfl rfl en14 rfl ct (PArgs.cons rfl id (PArgs.cons rfl id PArgs.nil)) (fun _ w' hb' vs hs => ?_) ?_
  · obtain ⟨_, u, rfl, rfl, hu⟩ := Sats.two hs
    have hu : SD w' u [[0, 1], [0, 2], [1, 2]] := hu
    exact (rsame_c (t4.below hb') hu).mono fun x w'' ⟨h1, h2⟩ => ⟨h1, h2⟩
  refine DW.pickAnd rfl rfl rfl ct rfl pAnd0 ?_
  refine DW.move rfl rfl rfl ct ?_
  refine DW.move rfl rfl rfl ct ?_
  refine DW.eql rfl rfl rfl id rfl ct ?_
  refine DW.pickAnd rfl rfl rfl ct rfl pAnd0 ?_
  refine DW.move rfl rfl rfl ct ?_
  refine DW.move rfl rfl rfl ct ?_
  refine DW.buildSlice 3 _ rfl rfl rfl eo24 (DArgs.cons rfl ct (DArgs.cons rfl ct (DArgs.cons rfl ct DArgs.nil))) rfl rfl rfl rfl rfl ?_
  refine DW.buildSliceP 24 _ (fun u W => SD W u [[0, 1, 2]]) (fun _ _ _ hb h => sd_step h hb) rfl rfl rfl eo22 (PArgs.cons rfl id PArgs.nil) rfl rfl rfl (fun vs w' hs => ?_) ?_
  · obtain ⟨a, rfl, ⟨ga, rfl, Ba⟩⟩ := Sats.one hs
    refine ⟨by simp [Value.cells], fun gg w'' ff => lit_rows [(_, [0, 1, 2])] ff.blk rfl (by simp; exact lit_int _ (Ba.next ff.below) rfl (by decide) (by decide)) (by simp)⟩
  refine DW.callP (.ex (.bool (decide ([[0, 1, 2]] = [[0, 1, 2]])))) trivial rfl rfl en14 rfl ct (PArgs.cons rfl id (PArgs.cons rfl id PArgs.nil)) (fun _ w' hb' vs hs => ?_) ?_
  · obtain ⟨_, u, rfl, rfl, hu⟩ := Sats.two hs
    have hu : SD w' u [[0, 1, 2]] := hu
    exact (rsame_c (t5.below hb') hu).mono fun x w'' ⟨h1, h2⟩ => ⟨h1, h2⟩
  refine DW.pickAnd rfl rfl rfl ct rfl pAnd0 ?_
  refine DW.move rfl rfl rfl ct ?_
  refine DW.move rfl rfl rfl ct ?_
  refine DW.eql rfl rfl rfl id rfl ct ?_
  refine DW.pickAnd rfl rfl rfl ct rfl pAnd0 ?_
  refine DW.move rfl rfl rfl ct ?_
  refine DW.move rfl rfl rfl ct ?_
  refine DW.eql rfl rfl rfl id rfl ct ?_
  refine DW.pickAnd rfl rfl rfl ct rfl pAnd0 ?_
  refine DW.move rfl rfl rfl ct ?_
  refine DW.move rfl rfl rfl ct ?_
  refine DW.buildSlice 3 _ rfl rfl rfl eo24 (DArgs.cons rfl ct (DArgs.cons rfl ct DArgs.nil)) rfl rfl rfl rfl rfl ?_
  refine DW.callP (.pr fun u W => SE W u (restS l0 [0, 5])) (fun _ _ _ hb h => se_step h hb) rfl rfl en16 rfl ct (PArgs.cons rfl id (PArgs.cons rfl id PArgs.nil)) (fun _ w' hb' vs hs => ?_) ?_
  · obtain ⟨_, u, rfl, rfl, ⟨g, rfl, hB⟩⟩ := Sats.two hs
    exact (rest_c (se_step hl9 hb') (lit_int [0, 5] hB rfl (by decide) (by decide)) (by decide) (fun e he => by have := needs0 e he; omega)).mono fun x w'' ⟨h1, h2⟩ => ⟨h1, h2⟩
  refine DW.move rfl rfl rfl ct ?_
  refine DW.sliceL rfl rfl Try.underlying23 sz43 rfl id rfl ct (fun h => by (try dsimp only); first | omega | (simp [Cnd] at h; omega)) ?_
  have hdr := SL.dropS hl9 (i := 1) (by omega)
  refine DW.callP (.ex (.bool (dec (restS l0 [0, 5] = l0.drop 1)))) trivial rfl rfl en15 rfl ct (PArgs.cons rfl id (PArgs.cons rfl id PArgs.nil)) (fun _ w' hb' vs hs => ?_) ?_
  · obtain ⟨u, _, rfl, hu, rfl⟩ := Sats.two hs
    have hu : SE w' u (restS l0 [0, 5]) := hu
    exact (rsameE_c hu (hdr.below hb')).mono fun x w'' ⟨h1, h2⟩ => ⟨h1, h2⟩
  refine DW.pickAnd rfl rfl rfl ct rfl pAnd0 ?_
  refine DW.assign rfl rfl rfl ct ?_
  refine DW.nil (DW.fin [0, 1, 2, 4, 5, 6, 7, 8, 9, 10, 12, 13, 14, 16] [(0, _, _), (1, _, _), (2, _, _), (4, _, _), (5, _, _), (6, _, _), (7, _, _), (8, _, _), (9, _, _), (10, _, _), (12, _, _), (13, _, _), (14, _, _), (16, _, _)] rfl (fun w10 b10 => KW.then_ ?_))
  refine CW.ret ?_
  refine ret1 Try.results10 rfl (⟨b9.step b10, ?_⟩)
  rw [show restS l0 [0, 5] = l0.drop 1 from rfl, dec_pos rfl]
  simp
end Go.Proofs.Ytmdjkgkgpkaliaa

/- A law's row: the arguments opened, the call's end. -/
namespace Go.PF
open Go.RowKit Go.ChangeShapes Go.WideShapes Go.ChangeAt

section
variable {H : Type} {enc : TypeId × Value → H} {P : Program}

/-- Whatever reads as data of type t is one of T's. -/
def Opens {α : Type} (P : Program) (t : TypeId) (T : Ty α) : Prop :=
  ∀ {H : Type} (enc : TypeId × Value → H) (w : World) (base : Nat) (spare : Nat → Bool) (held : Bool) (fuel : Nat) (cs : List Value) (x : DataW H × List MemPlace), DataW.trod enc P w base spare held fuel t cs = some x → ∃ a, T.rep (fun _ => True) w cs a

theorem Opens.slice {α : Type} {t e : TypeId} {T : Ty α} (ht : P.underlying t = some (.slice e)) (hn : P.cellsOf e = T.n) (h : Opens P e T) : Opens P t (sliceT T) := by
  intro H enc w base spare held fuel cs x hx
  rcases Go.Deep.open_slice ht hx with ⟨rfl, _⟩ | ⟨a, len, cap, m, n, D, Pl, rfl, _, hl, hm, hmm, _, hi⟩
  · exact ⟨[], _, rfl, SL.nil _ _ _⟩
  · have hlm : len ≤ m := by rw [hmm]; split <;> omega
    have hex : ∀ i, i < len → ∃ y cs', T.rep (fun _ => True) w cs' y ∧ ∀ j u, cs'[j]? = some u → w.cell? ((a.add (i * T.n)).add j) = some u := by
      intro i hil
      obtain ⟨cs', hc, htr⟩ := hi i (by omega)
      obtain ⟨y, hy⟩ := h enc w base spare held n cs' _ htr
      rw [hn] at hc
      obtain ⟨_, hcl, hat⟩ := World.cells?_some hc
      refine ⟨y, cs', hy, fun j u hj => ?_⟩
      have hjl : j < T.n := by rw [← hcl]; exact (List.getElem?_eq_some_iff.1 hj).1
      rw [hat j hjl, hj]
    let L : List α := (List.range len).attach.map fun i => Classical.choose (hex i.1 (List.mem_range.1 i.2))
    have hL : L.length = len := by simp [L]
    refine ⟨L, _, rfl, some a, cap, by rw [hL], by omega, by rw [hL]; have : maxLen = 9223372036854775807 := rfl; omega, ?_⟩
    intro i y hy
    have hil : i < len := by rw [← hL]; exact (List.getElem?_eq_some_iff.1 hy).1
    have e : y = Classical.choose (hex i hil) := by
      simp [L, hil] at hy
      exact hy.symm
    obtain ⟨cs', h1, h2⟩ := Classical.choose_spec (hex i hil)
    rw [← e] at h1
    exact ⟨a, cs', rfl, trivial, h2, h1⟩

/-- An argument that is a slice. -/
theorem Opens.arg {α : Type} {t e : TypeId} {T : Ty α} {W : World} {b0 : Nat} {v : Value} {d : DataW H} {ps : List MemPlace} (h : Opens P t (sliceT T)) (ht : P.underlying t = some (.slice e)) (hval : Value.okWide P W .any b0 t v) (hd : DataW.Trod enc P W 0 (fun _ => true) true t v d ps) :
    ∃ l, SL T (fun _ => True) W v l := by
  obtain ⟨fuel, hf⟩ := hd
  obtain ⟨l, v', hv', hl⟩ := h enc W _ _ _ _ _ _ hf
  obtain ⟨a, len, cap, rfl⟩ := okWide_slice ht hval
  simp [Value.cells] at hv'
  subst hv'
  exact ⟨l, hl⟩

theorem stays_all (hl : laidOutB P = true) {W W' : World} {sp : Nat → Bool} : ∀ (ts : List TypeId) (vs : List Value) (ds : List (DataW H)) (ps : List MemPlace), (ts.all fun t => P.readableRec t && Nat.blt t P.types.size) = true → DataW.TrodAll enc P W 0 (fun _ => true) true ts vs ds ps →
    (∀ p ∈ ps, W.sameAt W' p) → (∀ p ∈ ps, sp p.block = true) → DataW.TrodAll enc P W' 0 sp true ts vs ds ps
  | [], [], [], ps, _, h, _, _ => h
  | t :: ts, v :: vs, d :: ds, ps, ht, h, h1, h2 => by
    obtain ⟨p, q, hd, hr, rfl⟩ := h
    simp only [List.all_cons, Bool.and_eq_true] at ht
    refine ⟨p, q, WideElems.Trod_stays hl ht.1.1 (blt_iff.1 ht.1.2) hd (fun x hx => h1 x (List.mem_append.2 (.inl hx))) (fun x hx => h2 x (List.mem_append.2 (.inl hx))), ?_, rfl⟩
    exact stays_all hl ts vs ds q ht.2 hr (fun x hx => h1 x (List.mem_append.2 (.inr hx))) (fun x hx => h2 x (List.mem_append.2 (.inr hx)))
  | [], [], _ :: _, _, _, h, _, _ => h.elim
  | [], _ :: _, _, _, _, h, _, _ => h.elim
  | _ :: _, [], _, _, _, h, _, _ => h.elim
  | _ :: _, _ :: _, [], _, _, h, _, _ => h.elim

/-- A law's end: it said true, nothing old has turned. -/
theorem law_post {f : Func} {s : ChangeSpec} {apart fresh handsOn : Bool} {W W' : World} {args : Array Value} {ds gs : List (DataW H)} {before : List MemPlace} {tb : TypeId} (hl : laidOutB P = true) (hW : DataW.Whole enc P f.params.toList s.vars apart W args.toList ds gs before) (hvars : s.vars = [])
    (hpar : (f.params.toList.all fun t => P.readableRec t && Nat.blt t P.types.size) = true) (hrt : f.resultTypes = #[tb]) (htb : P.underlying tb = some .bool) (hsr : (s.fn H (ds ++ gs)).results = [.lit (.bool true)]) (hsa : (s.fn H (ds ++ gs)).args = ds) (hsv : (s.fn H (ds ++ gs)).vars = [])
    (hb : Below W.heap.size W W') : s.post enc P f apart fresh handsOn false W args (.bool true) W' := by
  have hlt : ∀ p ∈ before, p.block < W.heap.size := fun p hp => hW.lt p hp
  obtain ⟨p, q, hA, hV, hpq, hz, hn⟩ := id hW
  rw [hvars] at hV
  have hq : q = [] := by
    cases gs with
    | nil => exact hV
    | cons g gs => exact hV.elim
  subst hq
  rw [List.append_nil] at hpq
  subst hpq
  refine ⟨ds, gs, before, [], before, [], hW, ?_, ?_, ?_, World.keptBut_mono (fun x hx => ⟨hx, .inr (.inl hx)⟩) (hb.frame (· ∈ before)), fun h => by cases h⟩
  · rw [hsr, hrt]
    exact trodAll_mk1 ⟨1, by simp [DataW.trod, Value.cells, htb]⟩
  · rw [hsa]
    exact stays_all hl _ _ _ _ hpar hA (fun x hx => hb.same (hlt x hx)) (fun x hx => by simpa using hlt x hx)
  · rw [hsv, hvars]; rfl

theorem law_calls {f : Func} {k : FuncId} {s : ChangeSpec} {apart fresh handsOn : Bool} {W : World} {args : Array Value} {ds gs : List (DataW H)} {before : List MemPlace} {tb : TypeId} (hl : laidOutB P = true) (hW : DataW.Whole enc P f.params.toList s.vars apart W args.toList ds gs before) (hvars : s.vars = [])
    (hpar : (f.params.toList.all fun t => P.readableRec t && Nat.blt t P.types.size) = true) (hrt : f.resultTypes = #[tb]) (htb : P.underlying tb = some .bool) (hsr : (s.fn H (ds ++ gs)).results = [.lit (.bool true)]) (hsa : (s.fn H (ds ++ gs)).args = ds) (hsv : (s.fn H (ds ++ gs)).vars = [])
    (h : Gives P k args W fun u W' => Below W.heap.size W W' ∧ u = .bool true) : Calls P k args W fun e W' => ∃ v, e = .returned v ∧ s.post enc P f apart fresh handsOn false W args v W' :=
  h.mono fun u W' ⟨hb, hu⟩ => by
    subst hu
    exact law_post hl hW hvars hpar hrt htb hsr hsa hsv hb
end
end Go.PF

namespace Go.Proofs.Ytmdjkgkgpkaliaa
open Go.PF Go.RowKit Go.ChangeShapes Go.WideShapes Go.ChangeAt Go.Ord

theorem own_ : ownKnob Try.prog.godebug = none := by kernel_rfl
theorem laid_ : laidOutB Try.prog = true := by kernel_rfl
theorem i64_of_wf {n : Int} (h : (Lit.int .i64 n).wf = true) : I64 n := by
  simp only [Lit.wf, Bool.and_eq_true, decide_eq_true_eq] at h
  exact h
theorem u8_of_wf {n : Int} (h : (Lit.int .u8 n).wf = true) : 0 ≤ n ∧ n ≤ 255 := by
  simp only [Lit.wf, Bool.and_eq_true, decide_eq_true_eq] at h
  exact h
theorem opens_int : Opens Try.prog 3 intT := by
  intro H enc w base spare held fuel cs x hx
  obtain ⟨a1, h1, _, w1⟩ := DataW.trod_int Try.underlying3 hx
  exact ⟨a1, h1, i64_of_wf w1⟩
theorem opens_ints : Opens Try.prog 24 (sliceT intT) := Opens.slice Try.underlying24 (by kernel_rfl) opens_int
theorem opens_rows : Opens Try.prog 22 (sliceT (sliceT intT)) := Opens.slice Try.underlying22 (by kernel_rfl) opens_ints
set_option maxRecDepth 20000 in
theorem opens_event : Opens Try.prog 43 evT := by
  intro H enc w base spare held fuel cs x hx
  obtain ⟨xs, n, _, _, hlen, hxl, hf⟩ := DataW.trod_struct Try.underlying43 hx
  have k4 : Try.prog.cellsOf 43 = 4 := by kernel_rfl
  have k3 : Try.prog.cellsOf 3 = 1 := by kernel_rfl
  have ks : Try.prog.cellsOf 24 = 1 := by kernel_rfl
  match cs, hlen.trans k4 with
  | [c0, c1, c2, c3], _ =>
    match xs, hxl with
    | [y0, y1, y2, y3], _ =>
      have e0 : DataW.trod enc Try.prog w base spare held n 3 [c0] = some y0 := by
        have h : DataW.trod enc Try.prog w base spare held n 3 (([c0, c1, c2, c3].drop 0).take (Try.prog.cellsOf 3)) = some y0 := hf 0 _ rfl
        rw [k3] at h
        exact h
      have e1 : DataW.trod enc Try.prog w base spare held n 3 [c1] = some y1 := by
        have h : DataW.trod enc Try.prog w base spare held n 3 (([c0, c1, c2, c3].drop 1).take (Try.prog.cellsOf 3)) = some y1 := hf 1 _ rfl
        rw [k3] at h
        exact h
      have e2 : DataW.trod enc Try.prog w base spare held n 3 [c2] = some y2 := by
        have h : DataW.trod enc Try.prog w base spare held n 3 (([c0, c1, c2, c3].drop 2).take (Try.prog.cellsOf 3)) = some y2 := hf 2 _ rfl
        rw [k3] at h
        exact h
      have e3 : DataW.trod enc Try.prog w base spare held n 24 [c3] = some y3 := by
        have h : DataW.trod enc Try.prog w base spare held n 24 (([c0, c1, c2, c3].drop 3).take (Try.prog.cellsOf 24)) = some y3 := hf 3 _ rfl
        rw [ks] at h
        exact h
      obtain ⟨a0, h0, _, w0⟩ := DataW.trod_int Try.underlying3 e0
      obtain ⟨a1, h1, _, w1⟩ := DataW.trod_int Try.underlying3 e1
      obtain ⟨a2, h2, _, w2⟩ := DataW.trod_int Try.underlying3 e2
      obtain ⟨nd, v, h3, hs⟩ := opens_ints enc w base spare held n [c3] _ e3
      simp at h0 h1 h2 h3
      subst h0 h1 h2 h3
      exact ⟨⟨a0, a1, a2, nd⟩, _, rfl, i64_of_wf w0, i64_of_wf w1, i64_of_wf w2, hs⟩
theorem opens_events : Opens Try.prog 23 (sliceT evT) := Opens.slice Try.underlying23 (by kernel_rfl) opens_event
end Go.Proofs.Ytmdjkgkgpkaliaa
