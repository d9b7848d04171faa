/- Texts joined: Hp De Df. -/
import Derived.Test.YtmhfeehkpndadaaGreatQG
import Derived.Test.YtmhfeehkpndadaaGreatQF
import Derived.Test.YtmhfeehkpndadaaGreatQJ
import Derived.Test.YtmhfeehkpndadaaGreatQI
import Derived.Test.YtmhfeehkpndadaaGreatQH
set_option linter.unusedSimpArgs false
set_option linter.unusedVariables false

namespace Go.Proofs.YtmhfeehkpndadaaGreat
open Go.PF Go.RowKit Go.Ord

set_option maxRecDepth 20000 in
theorem rrest_c {w : World} {v u : Value} {l : List Ev} {S : List Int} {F : Nat → Prop} (hl : SE w v l) (hS : SL intT F w u S) (hsm : l.length ≤ 1000000) :
    Gives Tryz.prog 66 #[v, u] w fun x w' => Below w.heap.size w w' ∧ SE w' x (restS l S) := by
  obtain ⟨A, cap, rfl, _⟩ := hl.form
  obtain ⟨B, bcap, rfl, _⟩ := hS.form
  refine gives_of (vs := [.slice A l.length cap, .slice B S.length bcap]) [(0, none, _), (1, none, _)] Tryz.func66 rfl Tryz.ntmps66 rfl rfl ?_
  refine CW.seq (CW.region ?_)
  refine TW.assign rfl rfl rfl ct ?_
  refine TW.nil (KW.pick [0, 1, 4] [(0, _, _), (1, _, _), (4, _, _)] rfl (KW.then_ ?_))
  refine CW.seq (CW.region ?_)
  refine TW.buildSlice0 43 rfl rfl eo23 ?_
  rintro g1 w1 f1
  have hg1 := f1.at_
  refine TW.assign rfl rfl rfl ct ?_
  refine TW.nil (KW.pick [0, 1, 4, 5] [(0, _, _), (1, _, _), (4, _, _), (5, _, _)] rfl (KW.then_ ?_))
  refine CW.seq (CW.seq (CW.region ?_))
  refine TW.assign rfl rfl rfl ct ?_
  refine TW.nil (KW.pick [0, 1, 4, 5, 6] [(0, _, _), (1, _, _), (4, _, _), (5, _, _), (6, _, _)] rfl (KW.then_ ?_))
  refine CW.block ?_
  refine CW.loopS (fun x : Nat × Value × List (List Value × Ev) => [(0, none, .slice A l.length cap), (1, none, .slice B S.length bcap), (5, none, x.2.1), (6, none, .int .i64 (x.1 : Int))])
    (fun x W' => x.1 ≤ l.length ∧ Below w.heap.size w W' ∧ RowL evT W' 43 w.heap.size x.2.1 x.2.2 ∧ x.2.2.map (·.2) = restS (l.take x.1) S) (fun x => l.length - x.1) (0, .slice (some ⟨g1, 0, none⟩) 0 0, []) [0, 1, 5, 6] ⟨Nat.zero_le _, f1.below, ⟨OwnS.of_blk f1.blk rfl (by omega), (fun p hp => by cases hp), (fun g hg => by simp [Value.ownBlock] at hg; omega)⟩, rfl⟩ rfl ?_
  rintro ⟨k, rv, ps⟩ W ⟨hk, hB, hR, hmap⟩
  dsimp only at hk hB hR hmap
  refine CW.seq (CW.seq (CW.region ?_))
  refine TW.move rfl rfl rfl ct ?_
  refine TW.move rfl rfl rfl ct ?_
  refine TW.lenSlice rfl rfl Tryz.underlying23 rfl ct ?_
  refine TW.lss rfl rfl rfl ct rfl ct ?_
  refine TW.nil (KW.pick [0, 1, 5, 6, 13] [(0, _, _), (1, _, _), (5, _, _), (6, _, _), (13, _, _)] rfl (KW.then_ ?_))
  refine CW.condP rfl (fun hlt => ?_) (fun hge => ?_)
  · have hkl : k < l.length := by omega
    obtain ⟨e, he, hem⟩ := getx (l := l) (k := k) (by omega)
    obtain ⟨ad, rfl⟩ := hl.addr (by omega)
    obtain ⟨nv, hcells0, i1, i2, i3, hn0⟩ := SE.get hl he
    obtain ⟨C, ncap, rfl, _⟩ := hn0.form
    have hcells : ∀ j v, [Value.int .i64 e.office, .int .i64 e.low, .int .i64 e.high, .slice C e.needs.length ncap][j]? = some v → W.cell? ((ad.add ((k : Int).toNat * 4)).add j) = some v := fun j v hv => (hB.cell (block_lt_of_cell (hcells0 j v hv))).trans (hcells0 j v hv)
    have hneeds := hn0.below hB
    have hnmax := hneeds.len.2.2
    have cellsW : ∀ W', Below W.heap.size W W' → ∀ j v, [Value.int .i64 e.office, .int .i64 e.low, .int .i64 e.high, .slice C e.needs.length ncap][j]? = some v → W'.cell? ((ad.add ((k : Int).toNat * 4)).add j) = some v := fun W' hb j v hv => (hb.cell (block_lt_of_cell (hcells j v hv))).trans (hcells j v hv)
    have htk : restS (l.take (k + 1)) S = restS (l.take k) S ++ if gone S e then [] else [e] := by
      unfold restS
      rw [List.take_add_one, he, List.filter_append]
      cases hq : gone S e <;> simp [List.filter, hq]
    refine CW.skip (KW.then_ (CW.seq (CW.block (CW.seq (CW.region ?_)))))
    refine TW.assign rfl rfl rfl ct ?_
    refine TW.nil (KW.pick [0, 1, 5, 6, 7] [(0, _, _), (1, _, _), (5, _, _), (6, _, _), (7, _, _)] rfl (KW.then_ ?_))
    refine CW.seq (CW.seq (CW.region ?_))
    refine TW.assign rfl rfl rfl ct ?_
    refine TW.nil (KW.pick [0, 1, 5, 6, 7, 8] [(0, _, _), (1, _, _), (5, _, _), (6, _, _), (7, _, _), (8, _, _)] rfl (KW.then_ ?_))
    refine CW.block ?_
    refine CW.loopS (fun j : Nat => [(0, none, .slice (some ad) l.length cap), (1, none, .slice B S.length bcap), (5, none, rv), (6, none, .int .i64 (k : Int)), (7, none, .bool (!(e.needs.take j).any fun r => S.contains r)), (8, none, .int .i64 (j : Int))])
      (fun j W' => j ≤ e.needs.length ∧ Below W.heap.size W W') (fun j => e.needs.length - j) 0 [0, 1, 5, 6, 7, 8] ⟨Nat.zero_le _, Below.refl _ _⟩ rfl ?_
    rintro j W2 ⟨hj, hB2⟩
    refine CW.seq (CW.seq (CW.region ?_))
    refine TW.move rfl rfl rfl ct ?_
    refine TW.move rfl rfl rfl ct ?_
    refine TW.move rfl rfl rfl ct ?_
    refine TW.indexAddr rfl rfl Tryz.underlying23 sz43 rfl ct rfl ct (fun _ => by (try dsimp only); omega) ?_
    refine TW.fieldAddr rfl rfl fo43_3 rfl ct ?_
    refine TW.load rfl rfl one24 rfl ct (fun _ => cellsW W2 hB2 3 _ rfl) ?_
    refine TW.lenSlice rfl rfl Tryz.underlying24 rfl ct ?_
    refine TW.lss rfl rfl rfl ct rfl ct ?_
    refine TW.nil (KW.pick [0, 1, 5, 6, 7, 8, 23] [(0, _, _), (1, _, _), (5, _, _), (6, _, _), (7, _, _), (8, _, _), (23, _, _)] rfl (KW.then_ ?_))
    refine CW.condP rfl (fun hlt2 => ?_) (fun hge2 => ?_)
    · obtain ⟨x, hx, hxm⟩ := getx (l := e.needs) (k := j) (by omega)
      have hn2 := hneeds.below hB2
      obtain ⟨cd, rfl⟩ := hn2.addr (by omega)
      refine CW.skip (KW.then_ (CW.seq (CW.block (CW.region ?_))))
      refine TW.move rfl rfl rfl ct ?_
      refine TW.move rfl rfl rfl ct ?_
      refine TW.move rfl rfl rfl ct ?_
      refine TW.move rfl rfl rfl ct ?_
      refine TW.move rfl rfl rfl ct ?_
      refine TW.indexAddr rfl rfl Tryz.underlying23 sz43 rfl id rfl id (fun h => by (try dsimp only); first | omega | (simp [Cnd] at h; omega)) ?_
      refine TW.fieldAddr rfl rfl fo43_3 rfl id ?_
      refine TW.load rfl rfl one24 rfl id (fun _ => cellsW W2 hB2 3 _ rfl) ?_
      refine TW.move rfl rfl rfl ct ?_
      refine TW.indexAddr rfl rfl Tryz.underlying24 sz3 rfl id rfl id (fun h => by (try dsimp only); first | omega | (simp [Cnd] at h; omega)) ?_
      refine TW.load rfl rfl one3 rfl id (fun _ => hn2.getI hx) ?_
      refine TW.callF (cap := []) rfl rfl en42 rfl ct (Args.cons rfl id (Args.cons rfl id Args.nil)) (fun _ => rin_c ((hS.below hB).below hB2)) ?_
      rintro w3 c3
      refine TW.not rfl rfl rfl id ?_
      refine TW.pickAnd rfl rfl rfl ct rfl pAnd0 ?_
      refine TW.assign rfl rfl rfl ct ?_
      refine TW.nil (KW.pick [0, 1, 5, 6, 7, 8] [(0, _, _), (1, _, _), (5, _, _), (6, _, _), (7, _, _), (8, _, _)] rfl (KW.blockN (KW.then_ ?_)))
      refine CW.region ?_
      refine TW.move rfl rfl rfl ct ?_
      refine TW.add rfl rfl rfl ct rfl ct (fun _ => by (try dsimp only); omega) ?_
      refine TW.assign rfl rfl rfl ct ?_
      refine TW.nil (KW.pick [0, 1, 5, 6, 7, 8] [(0, _, _), (1, _, _), (5, _, _), (6, _, _), (7, _, _), (8, _, _)] rfl ?_)
      refine KW.round (j + 1) [0, 1, 5, 6, 7, 8] ?_ ⟨by omega, hB2.step c3⟩ (by omega)
      have ht : (e.needs.take (j + 1)).any (fun r => S.contains r) = ((e.needs.take j).any (fun r => S.contains r) || S.contains x) := by
        rw [List.take_add_one, hx, List.any_append]
        simp
      rw [ht]
      have hc : S.contains x = decide (x ∈ S) := by simp
      rw [hc]
      cases (e.needs.take j).any (fun r => S.contains r) <;> rfl
    have hjn : j = e.needs.length := by omega
    subst hjn
    rw [List.take_length]
    have hg : (e.needs.any fun r => S.contains r) = gone S e := rfl
    rw [hg]
    have hR2 := hR.step hB2
    refine CW.exit (KW.thenX (KW.thenX (KW.blockX (KW.then_ (CW.seq (CW.region ?_))))))
    refine TW.move rfl rfl rfl ct ?_
    refine TW.nil (KW.pick [0, 1, 5, 6, 7, 8, 40] [(0, _, _), (1, _, _), (5, _, _), (6, _, _), (7, _, _), (8, _, _), (40, _, _)] rfl (KW.then_ ?_))
    refine CW.cond rfl (fun hin => ?_) (fun hout => ?_)
    · have hg0 : gone S e = false := by simpa using hin
      rw [hg0] at htk
      refine CW.region ?_
      refine TW.move rfl rfl rfl ct ?_
      refine TW.move rfl rfl rfl ct ?_
      refine TW.move rfl rfl rfl ct ?_
      refine TW.indexAddr rfl rfl Tryz.underlying23 sz43 rfl ct rfl ct (fun _ => by (try dsimp only); omega) ?_
      refine TW.loadS _ rfl rfl Tryz.underlying43 sz43 rfl ct (fun _ => cellsW W2 hB2) rfl ?_
      refine TW.buildSlice 43 _ rfl rfl rfl eo23 (Args.cons rfl ct Args.nil) rfl rfl rfl rfl rfl ?_
      rintro g7 w7 f7
      have hR7 := hR2.step f7.below
      have hW7 := hB2.step f7.below
      have hfew : ps.length ≤ 1000000 := by
        have h1 : ps.length = (restS (l.take k) S).length := by rw [← hmap]; simp
        have h2 : (restS (l.take k) S).length ≤ (l.take k).length := List.length_filter_le _ _
        have h3 : (l.take k).length ≤ l.length := by rw [List.length_take]; omega
        omega
      refine TW.append [.int .i64 e.office, .int .i64 e.low, .int .i64 e.high, .slice C e.needs.length ncap] rfl rfl go23 rfl hR7.1 rfl rfl (fun j v hj => ⟨⟨g7, 0, none⟩, rfl, f7.blk.fld hj⟩) (fun v hv => by simp at hv; rcases hv with rfl | rfl | rfl | rfl <;> rfl) (by omega) (by omega) ?_
      rintro rv' w8 hO8 hg8 hnew8
      refine TW.assign rfl rfl rfl ct ?_
      refine TW.nil (KW.pick [0, 1, 5, 6, 7, 8] [(0, _, _), (1, _, _), (5, _, _), (6, _, _), (7, _, _), (8, _, _)] rfl (KW.blockN (KW.then_ ?_)))
      refine CW.region ?_
      refine TW.move rfl rfl rfl ct ?_
      refine TW.add rfl rfl rfl ct rfl ct (fun _ => by (try dsimp only); omega) ?_
      refine TW.assign rfl rfl rfl ct ?_
      refine TW.nil (KW.pick [0, 1, 5, 6, 7, 8] [(0, _, _), (1, _, _), (5, _, _), (6, _, _), (7, _, _), (8, _, _)] rfl ?_)
      have hBW7 := hB.step hW7
      have hn7 : SL intT (RowF w7 rv) w7 (.slice C e.needs.length ncap) e.needs := (hn0.below hBW7).wider (fun q hq => ⟨by have := hBW7.size; omega, fun e => by have := hR.2.2 q e; omega⟩)
      have hR8 : RowL evT w8 43 w.heap.size rv' (ps ++ [([.int .i64 e.office, .int .i64 e.low, .int .i64 e.high, .slice C e.needs.length ncap], e)]) := hR7.app hO8 hg8 hnew8 ⟨_, rfl, i1, i2, i3, hn7⟩ hBW7.size
      refine KW.round (k + 1, rv', ps ++ [([.int .i64 e.office, .int .i64 e.low, .int .i64 e.high, .slice C e.needs.length ncap], e)]) [0, 1, 5, 6] rfl ⟨by show k + 1 ≤ l.length; omega, hBW7.grown hg8 hBW7.size hR.2.2, hR8, ?_⟩ (by show l.length - (k + 1) < l.length - k; omega)
      show List.map Prod.snd (ps ++ [_]) = restS (l.take (k + 1)) S
      rw [List.map_append, hmap, htk]
      simp
    · have hg1 : gone S e = true := by simpa using hout
      rw [hg1] at htk
      refine CW.skip (KW.blockN (KW.then_ (CW.region ?_)))
      refine TW.move rfl rfl rfl ct ?_
      refine TW.add rfl rfl rfl ct rfl ct (fun _ => by (try dsimp only); omega) ?_
      refine TW.assign rfl rfl rfl ct ?_
      refine TW.nil (KW.pick [0, 1, 5, 6, 7, 8] [(0, _, _), (1, _, _), (5, _, _), (6, _, _), (7, _, _), (8, _, _)] rfl ?_)
      refine KW.round (k + 1, rv, ps) [0, 1, 5, 6] rfl ⟨by show k + 1 ≤ l.length; omega, hB.step hB2, hR2, ?_⟩ (by show l.length - (k + 1) < l.length - k; omega)
      show ps.map (·.2) = restS (l.take (k + 1)) S
      rw [hmap, htk]
      simp
  · refine CW.exit (KW.thenX (KW.thenX (KW.blockX (KW.then_ (CW.seq (CW.region ?_))))))
    refine TW.move rfl rfl rfl ct ?_
    refine TW.assign rfl rfl rfl ct ?_
    refine TW.nil (KW.pick [0, 1, 4, 5, 6] [(0, _, _), (1, _, _), (4, _, _), (5, _, _), (6, _, _)] rfl (KW.then_ ?_))
    refine CW.ret ?_
    have hke : k = l.length := by omega
    subst hke
    refine ret1 Tryz.results66 rfl (⟨hB, ?_⟩)
    have := hR.sl (by decide)
    rw [hmap, List.take_length] at this
    exact this
end Go.Proofs.YtmhfeehkpndadaaGreat

namespace Go.Proofs.YtmhfeehkpndadaaGreat
open Go.PF Go.RowKit Go.Ord

theorem sets_zero (l : List Int) : setsS l 0 = [[]] := by cases l <;> rfl
theorem setsAt_eq {l : List Int} {k i : Nat} {x : Int} (hx : l[i]? = some x) : setsAt l k i = (setsS (l.drop (i + 1)) k).map (x :: ·) := by
  unfold setsAt
  rw [hx]

theorem setsTo_mono (l : List Int) (k : Nat) : ∀ {n m : Nat}, n ≤ m → (setsTo l k n).length ≤ (setsTo l k m).length := by
  intro n m h
  induction h with
  | refl => exact Nat.le_refl _
  | step _ ih => rw [setsTo_succ, List.length_append]; omega
theorem setsTo_small {l : List Int} {k n : Nat} (h : l.length ≤ 14) (hk : k ≤ 7) (hn : n ≤ l.length) : (setsTo l k n).length ≤ 2562890625 := by
  have h0 := setsTo_mono l k hn
  rw [← setsS_eq] at h0
  have h1 := setsS_len l (k + 1)
  have h2 : (l.length + 1) ^ (k + 1) ≤ 15 ^ (k + 1) := Nat.pow_le_pow_left (by omega) _
  have h3 : 15 ^ (k + 1) ≤ 15 ^ 8 := Nat.pow_le_pow_right (by decide) (by omega)
  have h4 : (15 : Nat) ^ 8 = 2562890625 := by decide
  omega
set_option maxRecDepth 20000 in
set_option maxHeartbeats 1000000 in
theorem rsets_c : ∀ (k : Nat) {w : World} {F : Nat → Prop} {v : Value} {l : List Int} (_ : SL intT F w v l) (_ : l.length ≤ 14) (_ : k ≤ 7),
    Gives Tryz.prog 37 #[v, .int .i64 (k : Int)] w fun x w' => Below w.heap.size w w' ∧ SL (sliceT intT) (fun q => w.heap.size ≤ q ∧ q < w'.heap.size) w' x (setsS l k) := by
  intro k
  induction k with
  | zero =>
    intro w F v l hl h14 _
    refine gives_of (vs := [v, .int .i64 ((0 : Nat) : Int)]) [(0, none, _), (1, none, _)] Tryz.func37 rfl Tryz.ntmps37 rfl rfl ?_
    refine CW.seq (CW.region ?_)
    refine TW.assign rfl rfl rfl ct ?_
    refine TW.nil (KW.pick [0, 1, 4] [(0, _, _), (1, _, _), (4, _, _)] rfl (KW.then_ ?_))
    refine CW.seq (CW.seq (CW.region ?_))
    refine TW.move rfl rfl rfl ct ?_
    refine TW.eql rfl rfl rfl ct rfl ct ?_
    refine TW.nil (KW.pick [0, 1, 4, 10] [(0, _, _), (1, _, _), (4, _, _), (10, _, _)] rfl (KW.then_ ?_))
    refine CW.condP rfl (fun h0 => ?_) (fun h1 => ?_)
    · refine CW.seq (CW.region ?_)
      refine TW.buildSlice0 3 rfl rfl eo24 ?_
      rintro g1 w1 f1
      refine TW.buildSlice 24 _ rfl rfl rfl eo22 (Args.cons rfl ct Args.nil) rfl rfl rfl rfl rfl ?_
      rintro g2 w2 f2
      refine TW.assign rfl rfl rfl ct ?_
      refine TW.nil (KW.pick [0, 1, 4] [(0, _, _), (1, _, _), (4, _, _)] rfl (KW.then_ ?_))
      refine CW.ret (KW.thenR ?_)
      have ha1 := f1.at_
      have ha2 := f2.at_
      have hs1 := f1.size
      have hs2 := f2.size
      refine ret1 Tryz.results37 rfl (⟨f1.below.step f2.below, ?_⟩)
      rw [sets_zero]
      refine OwnS.toSLp (T := sliceT intT) (e := 24) (n := 1) [([.slice (some ⟨g1, 0, none⟩) 0 0], [])] (fun p hp => ?_) (by show 0 < 1; decide) (OwnS.of_blk f2.blk rfl (by omega)) rfl (fun q hq => by simp [Value.ownBlock] at hq; omega) (by simp)
      rw [List.mem_singleton] at hp
      subst hp
      exact ⟨_, rfl, OwnS.toInts (e := 3) (l := []) (OwnS.of_blk (f1.blk.next f2.below) rfl (by simp)) (fun x hx => by cases hx) (fun q hq => by simp [Value.ownBlock] at hq; omega) (by simp)⟩
    · exact absurd rfl h1
  | succ k ih =>
    intro w F v l hl h14 hk7
    obtain ⟨A, cap, rfl, hcap⟩ := hl.form
    have hI := hl.allI
    refine gives_of (vs := [.slice A l.length cap, .int .i64 ((k + 1 : Nat) : Int)]) [(0, none, _), (1, none, _)] Tryz.func37 rfl Tryz.ntmps37 rfl rfl ?_
    refine CW.seq (CW.region ?_)
    refine TW.assign rfl rfl rfl ct ?_
    refine TW.nil (KW.pick [0, 1, 4] [(0, _, _), (1, _, _), (4, _, _)] rfl (KW.then_ ?_))
    refine CW.seq (CW.seq (CW.region ?_))
    refine TW.move rfl rfl rfl ct ?_
    refine TW.eql rfl rfl rfl ct rfl ct ?_
    refine TW.nil (KW.pick [0, 1, 4, 10] [(0, _, _), (1, _, _), (4, _, _), (10, _, _)] rfl (KW.then_ ?_))
    refine CW.condP rfl (fun h0 => ?_) (fun h1 => ?_)
    · exfalso
      omega
    refine CW.skip (KW.then_ (CW.seq (CW.region ?_)))
    refine TW.buildSlice0 24 rfl rfl eo22 ?_
    rintro g1 w1 f1
    refine TW.assign rfl rfl rfl ct ?_
    refine TW.nil (KW.pick [0, 1, 4, 5] [(0, _, _), (1, _, _), (4, _, _), (5, _, _)] rfl (KW.then_ ?_))
    refine CW.seq (CW.seq (CW.region ?_))
    refine TW.assign rfl rfl rfl ct ?_
    refine TW.nil (KW.pick [0, 1, 4, 5, 6] [(0, _, _), (1, _, _), (4, _, _), (5, _, _), (6, _, _)] rfl (KW.then_ ?_))
    refine CW.block ?_
    have ha1 := f1.at_
    refine CW.loopS (fun x : Nat × Value × List (List Value × List Int) => [(0, none, .slice A l.length cap), (1, none, .int .i64 ((k + 1 : Nat) : Int)), (5, none, x.2.1), (6, none, .int .i64 (x.1 : Int))])
      (fun x W => x.1 ≤ l.length ∧ Below w.heap.size w W ∧ RowB (sliceT intT) W 24 w.heap.size x.2.1 x.2.2 ∧ x.2.2.map (·.2) = setsTo l k x.1) (fun x => l.length - x.1) (0, .slice (some ⟨g1, 0, none⟩) 0 0, []) [0, 1, 5, 6] ⟨Nat.zero_le _, f1.below, RowB.new f1.blk (by omega), rfl⟩ rfl ?_
    rintro ⟨i, ov, ps⟩ W ⟨hi, hB, hR, hmap⟩
    dsimp only at hi hB hR hmap
    refine CW.seq (CW.seq (CW.region ?_))
    refine TW.move rfl rfl rfl ct ?_
    refine TW.move rfl rfl rfl ct ?_
    refine TW.add rfl rfl rfl ct rfl ct (fun _ => by (try dsimp only); omega) ?_
    refine TW.move rfl rfl rfl ct ?_
    refine TW.lenSlice rfl rfl Tryz.underlying24 rfl ct ?_
    refine TW.leq rfl rfl rfl ct rfl ct ?_
    refine TW.nil (KW.pick [0, 1, 5, 6, 19] [(0, _, _), (1, _, _), (5, _, _), (6, _, _), (19, _, _)] rfl (KW.then_ ?_))
    refine CW.condP rfl (fun hlt => ?_) (fun hge => ?_)
    · obtain ⟨x, hx, hxm⟩ := getx (l := l) (k := i) (by omega)
      have hlW := hl.below hB
      obtain ⟨ad, rfl⟩ := hlW.addr (by omega)
      have hdr := SL.dropS hlW (i := i + 1) (by omega)
      have hsm := setsTo_small (l := l) (k := k) (n := i + 1) h14 (by omega) (by omega)
      rw [setsTo_succ, setsAt_eq hx, List.length_append, List.length_map] at hsm
      have hsW := hB.size
      refine CW.skip (KW.then_ (CW.seq (CW.block (CW.seq (CW.region ?_)))))
      refine TW.move rfl rfl rfl ct ?_
      refine TW.move rfl rfl rfl ct ?_
      refine TW.add rfl rfl rfl ct rfl ct (fun _ => by (try dsimp only); omega) ?_
      refine TW.sliceL rfl rfl Tryz.underlying24 sz3 rfl ct rfl ct (fun _ => by (try dsimp only); omega) ?_
      refine TW.move rfl rfl rfl ct ?_
      refine TW.sub rfl rfl rfl ct rfl ct (fun _ => by (try dsimp only); omega) ?_
      rw [show ((k + 1 : Nat) : Int) - 1 = (k : Int) by omega]
      refine TW.call0 (cap := []) rfl rfl en37 rfl (Args.cons rfl ct (Args.cons rfl ct Args.nil)) (ih hdr (by simp; omega) (by omega)) ?_
      rintro mv w2 ⟨c2, hm2⟩
      obtain ⟨M, mcap, rfl, _⟩ := hm2.form
      have hs2 := c2.size
      obtain ⟨ms, hms⟩ : ∃ ms, ms = setsS (l.drop (i + 1)) k := ⟨_, rfl⟩
      rw [← hms] at hm2 hsm
      rw [← hms]
      refine TW.assign rfl rfl rfl ct ?_
      refine TW.nil (KW.pick [0, 1, 5, 6, 7] [(0, _, _), (1, _, _), (5, _, _), (6, _, _), (7, _, _)] rfl (KW.then_ ?_))
      refine CW.seq (CW.region ?_)
      refine TW.assign rfl rfl rfl ct ?_
      refine TW.nil (KW.pick [0, 1, 5, 6, 7, 8] [(0, _, _), (1, _, _), (5, _, _), (6, _, _), (7, _, _), (8, _, _)] rfl (KW.then_ ?_))
      refine CW.block ?_
      refine CW.loopS (fun x : Nat × Value × List (List Value × List Int) => [(0, none, .slice (some ad) l.length cap), (1, none, .int .i64 ((k + 1 : Nat) : Int)), (5, none, x.2.1), (6, none, .int .i64 (i : Int)), (7, none, .slice M ms.length mcap), (8, none, .int .i64 (x.1 : Int))])
        (fun y W' => y.1 ≤ ms.length ∧ Below w.heap.size w W' ∧ w2.heap.size ≤ W'.heap.size ∧ SL (sliceT intT) (fun q => W.heap.size ≤ q ∧ q < w2.heap.size) W' (.slice M ms.length mcap) ms ∧ RowB (sliceT intT) W' 24 w.heap.size y.2.1 y.2.2 ∧ y.2.2.map (·.2) = setsTo l k i ++ (ms.take y.1).map (x :: ·) ∧ ∀ g, y.2.1.ownBlock = some g → g < W.heap.size ∨ w2.heap.size ≤ g) (fun y => ms.length - y.1) (0, ov, ps) [0, 1, 5, 6, 7, 8]
        ⟨Nat.zero_le _, hB.step c2, Nat.le_refl _, hm2, hR.step c2, by simpa using hmap, fun g hg => .inl (hR.1.lt hg)⟩ rfl ?_
      rintro ⟨j, ov, ps⟩ W3 ⟨hj, hB3, hs3, hm3, hR3, hmap3, hov3⟩
      dsimp only at hj hR3 hmap3 hov3
      have hpl : ps.length = (setsTo l k i).length + j := by
        have := congrArg List.length hmap3
        simp at this
        omega
      refine CW.seq (CW.seq (CW.region ?_))
      refine TW.move rfl rfl rfl ct ?_
      refine TW.move rfl rfl rfl ct ?_
      refine TW.lenSlice rfl rfl Tryz.underlying22 rfl ct ?_
      refine TW.lss rfl rfl rfl ct rfl ct ?_
      refine TW.nil (KW.pick [0, 1, 5, 6, 7, 8, 32] [(0, _, _), (1, _, _), (5, _, _), (6, _, _), (7, _, _), (8, _, _), (32, _, _)] rfl (KW.then_ ?_))
      refine CW.condP rfl (fun hlt3 => ?_) (fun hge3 => ?_)
      · obtain ⟨y, hy, hym⟩ := getx (l := ms) (k := j) (by omega)
        have hyl : y.length = k := by rw [hms] at hym; exact (mem_setsS.1 hym).2
        obtain ⟨md, rfl⟩ := hm3.addr (by omega)
        obtain ⟨yv, hcy, hry⟩ := hm3.row hy
        obtain ⟨Y, ycap, rfl, _⟩ := hry.form
        have hl3 := hl.below hB3
        have hIy := hry.allI
        obtain ⟨OA, ocap, rfl, _⟩ := hR3.1.form
        have hn1 : ∀ (j : Nat) (u : Value), (y.map (Value.int .i64))[j]? = some u → ∃ ad' : Addr, Y = some ad' ∧ W3.cell? (ad'.add j) = some u := by
          intro j u hu
          simp only [List.getElem?_map] at hu
          obtain ⟨z, hz, rfl⟩ := Option.map_eq_some_iff.1 hu
          obtain ⟨ad', h1, h2, _⟩ := hry.int hz
          exact ⟨ad', h1, by rw [Nat.mul_one] at h2; exact h2⟩
        refine CW.skip (KW.then_ (CW.seq (CW.block ?_)))
        refine CW.drawPlus [0] 11 mixed (by kernel_rfl) (fun _ _ d _ _ h => by cases d <;> exact h) fun W4 hb4 => ?_
        refine RW.draw .own 11 (by kernel_rfl) (by kernel_rfl) rfl rfl hb4 ?_
        refine DW.move rfl rfl rfl ct ?_
        refine DW.move rfl rfl rfl ct ?_
        refine DW.move rfl rfl rfl ct ?_
        refine DW.indexAddr rfl rfl Tryz.underlying24 sz3 rfl ct rfl ct (fun _ => by (try dsimp only); omega) ?_
        refine DW.load rfl rfl one3 rfl ct (fun _ => hl3.getI hx) ?_
        refine OW.buildSlice 3 _ rfl rfl rfl eo24 (DArgs.cons rfl ct DArgs.nil) rfl rfl rfl rfl rfl ?_
        refine DW.move rfl rfl rfl ct ?_
        refine DW.move rfl rfl rfl ct ?_
        refine DW.indexAddr rfl rfl Tryz.underlying22 sz24 rfl ct rfl ct (fun _ => by (try dsimp only); omega) ?_
        refine DW.load rfl rfl one24 rfl ct (fun _ => hcy) ?_
        refine OW.append (m := y.length) (A := Y) (y.map (Value.int .i64)) rfl rfl go24 rfl (by kernel_rfl) rfl ct hn1 (by simp) (ints_one _) (by omega) (by omega) ?_
        refine DW.nil (DW.finX [0, 1, 5, 6, 7, 8, 35] [(0, _, _), (1, _, _), (5, _, _), (6, _, _), (7, _, _), (8, _, _), (35, _, _)] rfl [45] rfl fun vs w5 b5 hs5 => KW.rk' ?_)
        obtain ⟨v45, rfl, h45⟩ := Sats.one hs5
        have h45' : OwnS w5 3 1 v45 (1 + y.length) ([.int .i64 x] ++ y.map (Value.int .i64)) ∧ ∀ g, v45.ownBlock = some g → W3.heap.size ≤ g := h45
        have hOx : OwnS w5 3 1 v45 (x :: y).length ((x :: y).map (Value.int .i64)) := by
          have := h45'.1
          rw [Nat.add_comm] at this
          exact this
        have hown45 := h45'.2
        obtain ⟨Z, zcap, rfl, _⟩ := hOx.form
        refine RW.one (by kernel_rfl) (by kernel_rfl) rfl ?_
        refine TW.buildSlice 24 _ rfl rfl rfl eo22 (Args.cons rfl ct Args.nil) rfl rfl rfl rfl rfl ?_
        rintro g6 w6 f6
        have hR6 := (hR3.step b5).step f6.below
        refine TW.nil (KW.pick [0, 1, 5, 6, 7, 8, 35, 46] [(0, _, _), (1, _, _), (5, _, _), (6, _, _), (7, _, _), (8, _, _), (35, _, _), (46, _, _)] rfl (KW.rk ?_))
        refine RW.one (by kernel_rfl) (by kernel_rfl) rfl ?_
        refine TW.append [.slice Z (x :: y).length zcap] rfl rfl go22 rfl hR6.1 rfl rfl (fun j v hj => ⟨⟨g6, 0, none⟩, rfl, f6.blk.fld hj⟩) (fun v hv => by simp at hv; subst hv; rfl) (by omega) (by omega) ?_
        rintro ov' w7 o7 hg7 hn7
        refine TW.nil (KW.pick [0, 1, 5, 6, 7, 8, 47] [(0, _, _), (1, _, _), (5, _, _), (6, _, _), (7, _, _), (8, _, _), (47, _, _)] rfl (KW.rk ?_))
        refine RW.one (by kernel_rfl) (by kernel_rfl) rfl ?_
        refine TW.assign rfl rfl rfl ct ?_
        refine TW.nil (KW.pick [0, 1, 5, 6, 7, 8] [(0, _, _), (1, _, _), (5, _, _), (6, _, _), (7, _, _), (8, _, _)] rfl (KW.rk ?_))
        refine RW.end rfl (KW.pick [0, 1, 5, 6, 7, 8] [(0, _, _), (1, _, _), (5, _, _), (6, _, _), (7, _, _), (8, _, _)] rfl (KW.blockN (KW.then_ ?_)))
        refine CW.region ?_
        refine TW.move rfl rfl rfl ct ?_
        refine TW.add rfl rfl rfl ct rfl ct (fun _ => by (try dsimp only); omega) ?_
        refine TW.assign rfl rfl rfl ct ?_
        refine TW.nil (KW.pick [0, 1, 5, 6, 7, 8] [(0, _, _), (1, _, _), (5, _, _), (6, _, _), (7, _, _), (8, _, _)] rfl ?_)
        have b36 := b5.step f6.below
        have hB6 := hB3.step b36
        have hs36 := b36.size
        have hO6 := hOx.below f6.below
        have hrx : (sliceT intT).rep (fun q => w.heap.size ≤ q ∧ RowF w6 (.slice OA ps.length ocap) q) w6 [.slice Z (x :: y).length zcap] (x :: y) := by
          refine ⟨_, rfl, OwnS.toInts hO6 (fun z hz => ?_) (fun g hg => ?_) (by simp; omega)⟩
          · rcases List.mem_cons.1 hz with rfl | hz
            · exact hI _ hxm
            · exact hIy z hz
          · have h1 := hown45 g hg
            have h2 := hB3.size
            exact ⟨by omega, hO6.lt hg, fun e => by have := hR3.1.lt e; omega⟩
        have hR7 : RowB (sliceT intT) w7 24 w.heap.size ov' (ps ++ [([.slice Z (x :: y).length zcap], x :: y)]) := hR6.app o7 hg7 hn7 hrx hB6.size
        refine KW.round (j + 1, ov', ps ++ [([.slice Z (x :: y).length zcap], x :: y)]) [0, 1, 5, 6, 7, 8] rfl ⟨by show j + 1 ≤ ms.length; omega, hB6.grown hg7 hB6.size hR3.2.2, by show w2.heap.size ≤ w7.heap.size; have := hg7.size; omega, ?_, hR7, ?_, fun g hg => ?_⟩ (by show ms.length - (j + 1) < ms.length - j; omega)
        · refine (hm3.below b36).mono (Kept.of_blocks fun q hq hlt => hg7.block q hlt (fun e => ?_))
          have := hov3 q e.symm
          omega
        · show List.map Prod.snd (ps ++ [_]) = setsTo l k i ++ (ms.take (j + 1)).map (x :: ·)
          rw [List.map_append, hmap3, List.take_add_one, hy]
          simp
        · rcases hn7 with h | h
          · exact hov3 g (by rw [← h]; exact hg)
          · rw [h] at hg; cases hg; exact .inr (by omega)
      · have hje : j = ms.length := by omega
        subst hje
        rw [List.take_length] at hmap3
        refine CW.exit (KW.thenX (KW.thenX (KW.blockX (KW.blockN (KW.then_ (CW.region ?_))))))
        refine TW.move rfl rfl rfl ct ?_
        refine TW.add rfl rfl rfl ct rfl ct (fun _ => by (try dsimp only); omega) ?_
        refine TW.assign rfl rfl rfl ct ?_
        refine TW.nil (KW.pick [0, 1, 5, 6, 7, 8] [(0, _, _), (1, _, _), (5, _, _), (6, _, _), (7, _, _), (8, _, _)] rfl ?_)
        refine KW.round (i + 1, ov, ps) [0, 1, 5, 6] rfl ⟨by show i + 1 ≤ l.length; omega, hB3, hR3, ?_⟩ (by show l.length - (i + 1) < l.length - i; omega)
        show ps.map (·.2) = setsTo l k (i + 1)
        rw [setsTo_succ, setsAt_eq hx, ← hms]
        exact hmap3
    · have hie : i + (k + 1) > l.length := by omega
      refine CW.exit (KW.thenX (KW.thenX (KW.blockX (KW.then_ (CW.seq (CW.region ?_))))))
      refine TW.move rfl rfl rfl ct ?_
      refine TW.assign rfl rfl rfl ct ?_
      refine TW.nil (KW.pick [0, 1, 4, 5, 6] [(0, _, _), (1, _, _), (4, _, _), (5, _, _), (6, _, _)] rfl (KW.then_ ?_))
      refine CW.ret ?_
      refine ret1 Tryz.results37 rfl (⟨hB, ?_⟩)
      have h1 := hR.sl (by show 0 < 1; decide)
      rw [hmap] at h1
      have h2 : setsTo l k i = setsS l (k + 1) := by
        rw [setsS_eq]
        have := setsTo_enough (l := l) (k := k) i (l.length - i) (by omega)
        rw [show i + (l.length - i) = l.length by omega] at this
        exact this.symm
      rw [h2] at h1
      exact h1
end Go.Proofs.YtmhfeehkpndadaaGreat

namespace Go.Proofs.YtmhfeehkpndadaaGreat
open Go.PF Go.RowKit Go.Ord

theorem rposs_c {w : World} {dv lv : Value} {d : Dist} {l : List Ev} (hd : SD w dv d) (hl : SE w lv l) : Gives Tryz.prog 65 #[dv, lv] w fun x w' => Below w.heap.size w w' ∧ x = .bool (dec (Fitted d l)) := by
  refine gives_of (vs := [dv, lv]) [(0, none, _), (1, none, _)] Tryz.func65 rfl Tryz.ntmps65 rfl rfl ?_
  refine CW.seq (CW.region ?_)
  refine TW.assign rfl rfl rfl ct ?_
  refine TW.nil (KW.pick [0, 1, 4] [(0, _, _), (1, _, _), (4, _, _)] rfl (KW.then_ ?_))
  refine CW.seq (CW.region ?_)
  refine TW.move rfl rfl rfl ct ?_
  refine TW.move rfl rfl rfl ct ?_
  refine TW.call0 (cap := []) rfl rfl en91 rfl (Args.cons rfl ct (Args.cons rfl ct (Args.cons rfl ct Args.nil))) (rfit_c hd hl) ?_
  rintro y w1 ⟨c1, tv, rfl⟩
  refine TW.move rfl rfl rfl ct ?_
  refine TW.extract rfl rfl rfl rfl ct ?_
  refine TW.extract rfl rfl rfl rfl ct ?_
  refine TW.assign rfl rfl rfl ct ?_
  refine TW.assign rfl rfl rfl ct ?_
  refine TW.nil (KW.pick [0, 1, 4, 6] [(0, _, _), (1, _, _), (4, _, _), (6, _, _)] rfl (KW.then_ ?_))
  refine CW.seq (CW.region ?_)
  refine TW.move rfl rfl rfl ct ?_
  refine TW.assign rfl rfl rfl ct ?_
  refine TW.nil (KW.pick [0, 1, 4, 6] [(0, _, _), (1, _, _), (4, _, _), (6, _, _)] rfl (KW.then_ ?_))
  refine CW.ret ?_
  refine ret1 Tryz.results65 rfl (⟨c1, rfl⟩)

end Go.Proofs.YtmhfeehkpndadaaGreat
