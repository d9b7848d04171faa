import Derived.Test.YtmdjkgkgpkaliaaQZb
import Derived.Test.YtmdjkgkgpkaliaaQPo
set_option linter.unusedSimpArgs false
set_option linter.unusedVariables false
namespace Go.Proofs.Ytmdjkgkgpkaliaa
open Go.PF Go.RowKit Go.Ord

/-- A table whose rows are all made by the call. -/
structure Tab (W : World) (b : Nat) (lv : Value) (rs : List (Value × List Int)) : Prop where
  own : OwnS W 24 1 lv rs.length (rs.map (·.1))
  lb : ∀ g, lv.ownBlock = some g → b ≤ g
  row : ∀ p ∈ rs, OwnS W 3 1 p.1 p.2.length (p.2.map (Value.int .i64)) ∧ (∀ x ∈ p.2, I64 x) ∧ ∀ g, p.1.ownBlock = some g → b ≤ g ∧ lv.ownBlock ≠ some g
  dis : rs.Pairwise fun p q => ∀ g, p.1.ownBlock = some g → q.1.ownBlock ≠ some g
theorem Tab.step {W W' : World} {b : Nat} {lv : Value} {rs : List (Value × List Int)} (h : Tab W b lv rs) (hb : Below W.heap.size W W') : Tab W' b lv rs :=
  ⟨h.own.below hb, h.lb, fun p hp => ⟨(h.row p hp).1.below hb, (h.row p hp).2⟩, h.dis⟩
theorem Tab.sd {W : World} {b : Nat} {lv : Value} {rs : List (Value × List Int)} (h : Tab W b lv rs) (hs : rs.length ≤ 1000) (hr : ∀ p ∈ rs, p.2.length ≤ 1000) : SD W lv (rs.map (·.2)) := by
  have key : SL (sliceT intT) (fun k => k < W.heap.size) W lv ((rs.map fun p => ([p.1], p.2)).map (·.2)) := by
    refine OwnS.toSLp (T := sliceT intT) (e := 24) (n := rs.length) (rs.map fun p => ([p.1], p.2)) (fun q hq => ?_) (by show 0 < 1; decide) ?_ (by simp) (fun g hg => h.own.lt hg) (by simp; omega)
    · obtain ⟨p, hp, rfl⟩ := List.mem_map.1 hq
      obtain ⟨h1, h2, h3⟩ := h.row p hp
      exact ⟨p.1, rfl, OwnS.toInts h1 h2 (fun g hg => h1.lt hg) (by have := hr p hp; show p.2.length ≤ _; omega)⟩
    · have e : (rs.map fun p => ([p.1], p.2)).flatMap (·.1) = rs.map (·.1) := by
        clear h hs hr
        induction rs with
        | nil => rfl
        | cons p rs ih => simp only [List.map_cons, List.flatMap_cons, ih]; rfl
      rw [e]
      exact h.own
  rwa [List.map_map] at key
/-- a further row -/
theorem Tab.app {W W' : World} {b : Nat} {lv lv' rv : Value} {rs : List (Value × List Int)} {r : List Int} (h : Tab W b lv rs) (hO : OwnS W' 24 1 lv' (rs.length + 1) (rs.map (·.1) ++ [rv])) (hg : W.grownBy W' lv.ownBlock) (hn : lv'.ownBlock = lv.ownBlock ∨ lv'.ownBlock = some W.heap.size) (hb : b ≤ W.heap.size)
    (hr : OwnS W 3 1 rv r.length (r.map (Value.int .i64))) (hI : ∀ x ∈ r, I64 x) (hrb : ∀ g, rv.ownBlock = some g → b ≤ g ∧ lv.ownBlock ≠ some g) (hd : ∀ p ∈ rs, ∀ g, p.1.ownBlock = some g → rv.ownBlock ≠ some g) : Tab W' b lv' (rs ++ [(rv, r)]) := by
  have out : ∀ (v : Value) (n : Nat) (xs : List Value), OwnS W 3 1 v n xs → (∀ g, v.ownBlock = some g → lv.ownBlock ≠ some g) → OwnS W' 3 1 v n xs ∧ ∀ g, v.ownBlock = some g → lv'.ownBlock ≠ some g := by
    intro v n xs ho hne
    refine ⟨ho.kept fun g hg' => hg.block g (ho.lt hg') (fun e => hne g hg' e.symm), fun g hg' e => ?_⟩
    rcases hn with h' | h'
    · exact hne g hg' (by rw [← h']; exact e)
    · rw [h'] at e; cases e; exact absurd (ho.lt hg') (Nat.lt_irrefl _)
  refine ⟨by simpa using hO, fun g hg' => ?_, fun p hp => ?_, ?_⟩
  · rcases hn with h' | h'
    · exact h.lb g (by rw [← h']; exact hg')
    · rw [h'] at hg'; cases hg'; exact hb
  · rcases List.mem_append.1 hp with hp | hp
    · obtain ⟨h1, h2, h3⟩ := h.row p hp
      obtain ⟨h4, h5⟩ := out _ _ _ h1 (fun g hg' => (h3 g hg').2)
      exact ⟨h4, h2, fun g hg' => ⟨(h3 g hg').1, h5 g hg'⟩⟩
    · rw [List.mem_singleton] at hp
      subst hp
      obtain ⟨h4, h5⟩ := out _ _ _ hr (fun g hg' => (hrb g hg').2)
      exact ⟨h4, hI, fun g hg' => ⟨(hrb g hg').1, h5 g hg'⟩⟩
  · refine List.pairwise_append.2 ⟨h.dis, List.pairwise_singleton _ _, fun p hp q hq => ?_⟩
    rw [List.mem_singleton] at hq
    subst hq
    exact hd p hp
/-- a row is turned -/
theorem Tab.set {W W' : World} {b i : Nat} {lv rv : Value} {rs : List (Value × List Int)} {r r' : List Int} {g : Nat} (h : Tab W b lv rs) (hi : rs[i]? = some (rv, r)) (hrv : rv.ownBlock = some g) (hb : But g W W') (hO : OwnS W' 3 1 rv r'.length (r'.map (Value.int .i64))) (hI : ∀ x ∈ r', I64 x) : Tab W' b lv (rs.set i (rv, r')) := by
  have hil : i < rs.length := (List.getElem?_eq_some_iff.1 hi).1
  have hie : rs[i] = (rv, r) := (List.getElem?_eq_some_iff.1 hi).2
  have hm := h.row (rv, r) (List.mem_of_getElem? hi)
  have hmap : (rs.set i (rv, r')).map (·.1) = rs.map (·.1) := by
    rw [List.map_set]
    apply List.ext_getElem?
    intro j
    rw [List.getElem?_set]
    split
    · rename_i e
      subst e
      simp [hil, hie]
    · rfl
  have hkeep : ∀ k, k ≠ g → k < W.heap.size → W'.heap[k]? = W.heap[k]? := fun k hk hlt => hb.block k hlt (fun e => hk (by cases e; rfl))
  refine ⟨by rw [hmap, List.length_set]; exact h.own.kept fun k hk => hkeep k (fun e => (hm.2.2 g hrv).2 (by rw [← e]; exact hk)) (h.own.lt hk), h.lb, fun p hp => ?_, ?_⟩
  · obtain ⟨j, hj⟩ := List.mem_iff_getElem?.1 hp
    rw [List.getElem?_set] at hj
    by_cases hne : i = j
    · subst hne
      simp [hil] at hj
      subst hj
      exact ⟨hO, hI, hm.2.2⟩
    · rw [if_neg hne] at hj
      have hpm := h.row p (List.mem_of_getElem? hj)
      refine ⟨hpm.1.kept fun k hk => hkeep k (fun e => ?_) (hpm.1.lt hk), hpm.2⟩
      subst e
      obtain ⟨hjl, hje⟩ := List.getElem?_eq_some_iff.1 hj
      rcases Nat.lt_or_gt_of_ne hne with hlt | hlt
      · have := List.pairwise_iff_getElem.1 h.dis i j hil hjl hlt
        rw [hie, hje] at this
        exact this k hrv hk
      · have := List.pairwise_iff_getElem.1 h.dis j i hjl hil hlt
        rw [hie, hje] at this
        exact this k hk hrv
  · have h1 : ((rs.set i (rv, r')).map (·.1)).Pairwise fun p q => ∀ g, p.ownBlock = some g → q.ownBlock ≠ some g := by
      rw [hmap, List.pairwise_map]
      exact h.dis
    rwa [List.pairwise_map] at h1
theorem Tab.nil {W : World} {b g : Nat} (hB : Blk W g 24 []) (hg : b ≤ g) : Tab W b (.slice (some ⟨g, 0, none⟩) 0 0) [] :=
  ⟨OwnS.of_blk hB rfl (by omega), (fun q hq => by simp [Value.ownBlock] at hq; omega), (fun p hp => by cases hp), List.Pairwise.nil⟩

set_option maxRecDepth 20000 in
set_option maxHeartbeats 1000000 in
theorem order_law {w : World} {dv lv : Value} {d : Dist} {l : List Ev} (most x0 y0 : Int) (hx0 : 0 ≤ x0) (hx1 : x0 ≤ 255) (hy0 : 0 ≤ y0) (hy1 : y0 ≤ 255) (hd : SD w dv d) (hl : SE w lv l) :
    Gives Try.prog 8 #[dv, lv, .int .i64 most, .int .u8 x0, .int .u8 y0] w fun u w' => Below w.heap.size w w' ∧ u = .bool true := by
  obtain ⟨D, dcap, rfl, hdcap⟩ := hd.form
  obtain ⟨B, bcap, rfl, hbcap⟩ := hl.form
  refine gives_of (vs := [.slice D d.length dcap, .slice B l.length bcap, .int .i64 most, .int .u8 x0, .int .u8 y0]) [(0, none, _), (1, none, _), (2, none, _), (3, none, _), (4, none, _)] Try.func8 rfl Try.ntmps8 rfl rfl ?_
  refine CW.seq (CW.region ?_)
  refine TW.assign rfl rfl rfl ct ?_
  refine TW.nil (KW.pick [0, 1, 2, 3, 4, 10] [(0, _, _), (1, _, _), (2, _, _), (3, _, _), (4, _, _), (10, _, _)] rfl (KW.then_ ?_))
  refine CW.seq (CW.region ?_)
  refine TW.call0 (cap := []) rfl rfl en10 rfl Args.nil (head_c) ?_
  rintro y w1 ⟨b1, rfl⟩
  refine TW.assign rfl rfl rfl ct ?_
  refine TW.nil (KW.pick [0, 1, 2, 3, 4, 10, 11] [(0, _, _), (1, _, _), (2, _, _), (3, _, _), (4, _, _), (10, _, _), (11, _, _)] rfl (KW.then_ ?_))
  refine CW.seq (CW.seq (CW.region ?_))
  refine TW.move rfl rfl rfl ct ?_
  refine TW.move rfl rfl rfl ct ?_
  refine TW.move rfl rfl rfl ct ?_
  have hd1 := sd_step hd b1
  have hl1 := se_step hl b1
  refine TW.call0 (cap := []) rfl rfl en18 rfl (Args.cons rfl ct (Args.cons rfl ct (Args.cons rfl ct Args.nil))) (fine_c hd1 hl1) ?_
  rintro y w2 ⟨c2, rfl⟩
  have b2 := b1.step c2
  have hd2 := sd_step hd1 c2
  have hl2 := se_step hl1 c2
  refine TW.not rfl rfl rfl ct ?_
  refine TW.nil (KW.pick [0, 1, 2, 3, 4, 10, 11, 32] [(0, _, _), (1, _, _), (2, _, _), (3, _, _), (4, _, _), (10, _, _), (11, _, _), (32, _, _)] rfl (KW.then_ ?_))
  refine CW.cond rfl (fun hbad => ?_) (fun hgood => ?_)
  · refine CW.seq (CW.region ?_)
    refine TW.move rfl rfl rfl ct ?_
    refine TW.assign rfl rfl rfl ct ?_
    refine TW.nil (KW.pick [0, 1, 2, 3, 4, 10, 11] [(0, _, _), (1, _, _), (2, _, _), (3, _, _), (4, _, _), (10, _, _), (11, _, _)] rfl (KW.then_ ?_))
    refine CW.ret (KW.thenR ?_)
    refine ret1 Try.results8 rfl (⟨b2, rfl⟩)
  have hf : FineP d l most := dec_iff.1 (by simpa using hgood)
  have hsm := fine_small hf
  have hm3 := hf.m3
  have hll := hsm.1
  refine CW.skip (KW.then_ (CW.seq (CW.region ?_)))
  refine TW.buildSlice0 43 rfl rfl eo23 ?_
  rintro g3 w3 f3
  have b3 := b2.step f3.below
  have hd3 := sd_step hd2 f3.below
  have hl3 := se_step hl2 f3.below
  refine TW.assign rfl rfl rfl ct ?_
  refine TW.nil (KW.pick [0, 1, 2, 3, 4, 10, 11, 12] [(0, _, _), (1, _, _), (2, _, _), (3, _, _), (4, _, _), (10, _, _), (11, _, _), (12, _, _)] rfl (KW.then_ ?_))
  refine CW.seq (CW.seq (CW.region ?_))
  refine TW.move rfl rfl rfl ct ?_
  refine TW.lenSlice rfl rfl Try.underlying23 rfl ct ?_
  refine TW.sub rfl rfl rfl ct rfl ct (fun _ => by (try dsimp only); omega) ?_
  refine TW.assign rfl rfl rfl ct ?_
  refine TW.nil (KW.pick [0, 1, 2, 3, 4, 10, 11, 12, 13] [(0, _, _), (1, _, _), (2, _, _), (3, _, _), (4, _, _), (10, _, _), (11, _, _), (12, _, _), (13, _, _)] rfl (KW.then_ ?_))
  refine CW.block ?_
  have hg3 := f3.at_
  have hr3 : RowL evT w3 43 w2.heap.size (.slice (some ⟨g3, 0, none⟩) 0 0) [] := ⟨OwnS.of_blk f3.blk rfl (by omega), (fun p hp => by cases hp), (fun g hg => by simp [Value.ownBlock] at hg; omega)⟩
  refine CW.loopS (fun x : Nat × Value × List (List Value × Ev) => [(0, none, .slice D d.length dcap), (1, none, .slice B l.length bcap), (2, none, .int .i64 most), (3, none, .int .u8 x0), (4, none, .int .u8 y0), (11, none, .bool true), (12, none, x.2.1), (13, none, .int .i64 ((x.1 : Int) - 1))])
    (fun x W => x.1 ≤ l.length ∧ Below w2.heap.size w2 W ∧ RowL evT W 43 w2.heap.size x.2.1 x.2.2 ∧ x.2.2.map (·.2) = backS (l.drop x.1)) (fun x => x.1) (l.length, .slice (some ⟨g3, 0, none⟩) 0 0, []) [0, 1, 2, 3, 4, 11, 12, 13] ⟨Nat.le_refl _, f3.below, hr3, by simp [backS]⟩ rfl ?_
  rintro ⟨j, rv, ps⟩ W ⟨hj, hB, hR, hmap⟩
  dsimp only at hj hB hR hmap
  refine CW.seq (CW.seq (CW.region ?_))
  refine TW.move rfl rfl rfl ct ?_
  refine TW.geq rfl rfl rfl ct rfl ct ?_
  refine TW.nil (KW.pick [0, 1, 2, 3, 4, 11, 12, 13, 39] [(0, _, _), (1, _, _), (2, _, _), (3, _, _), (4, _, _), (11, _, _), (12, _, _), (13, _, _), (39, _, _)] rfl (KW.then_ ?_))
  refine CW.condP rfl (fun hlt => ?_) (fun hge => ?_)
  · obtain ⟨i, rfl⟩ : ∃ i, j = i + 1 := ⟨j - 1, by omega⟩
    rw [show (((i + 1 : Nat) : Int) - 1) = (i : Int) by omega]
    have hil : i < l.length := by omega
    obtain ⟨e, he⟩ : ∃ e, l[i]? = some e := ⟨l[i], List.getElem?_eq_getElem hil⟩
    have hem := List.mem_of_getElem? he
    have hlW := se_step hl2 hB
    obtain ⟨ad, rfl⟩ := hlW.addr (by omega)
    obtain ⟨nv, hcells, i1, i2, i3, hneeds⟩ := SE.get hlW he
    obtain ⟨C, ncap, rfl, _⟩ := hneeds.form
    have hne6 := hsm.2 e hem
    refine CW.skip (KW.then_ (CW.seq (CW.block (CW.seq (CW.region ?_)))))
    refine TW.move rfl rfl rfl ct ?_
    refine TW.move rfl rfl rfl ct ?_
    refine TW.indexAddr rfl rfl Try.underlying23 sz43 rfl ct rfl ct (fun _ => by (try dsimp only); omega) ?_
    refine TW.loadS _ rfl rfl Try.underlying43 sz43 rfl ct (fun _ => hcells) rfl ?_
    refine TW.newVar rfl zc43 rfl sz43 rfl rfl ?_
    rintro g4 w4 f4
    refine TW.nil (KW.pick [0, 1, 2, 3, 4, 11, 12, 13, 14] [(0, _, _), (1, _, _), (2, _, _), (3, _, _), (4, _, _), (11, _, _), (12, _, _), (13, _, _), (14, _, _)] rfl (KW.then_ ?_))
    refine CW.seq (CW.region ?_)
    refine TW.fieldAddr rfl rfl fo43_3 rfl ct ?_
    refine TW.storeFld rfl sz24 rfl rfl f4.blk (by show 3 < 4; decide) rfl ?_
    rintro w5 hB5 hbut5 hsz5
    refine TW.nil (KW.pick [0, 1, 2, 3, 4, 11, 12, 13, 14] [(0, _, _), (1, _, _), (2, _, _), (3, _, _), (4, _, _), (11, _, _), (12, _, _), (13, _, _), (14, _, _)] rfl (KW.then_ ?_))
    refine CW.seq (CW.seq (CW.region ?_))
    refine TW.move rfl rfl rfl ct ?_
    refine TW.move rfl rfl rfl ct ?_
    refine TW.indexAddr rfl rfl Try.underlying23 sz43 rfl ct rfl ct (fun _ => by (try dsimp only); omega) ?_
    refine TW.fieldAddr rfl rfl fo43_3 rfl ct ?_
    have hs4 := f4.size
    have ha4 := f4.at_
    have hW5 : Below W.heap.size W w5 := f4.below.grown hbut5 f4.below.size (fun q hq => by cases hq; omega)
    have cellsW : ∀ W', Below W.heap.size W W' → ∀ j v, [Value.int .i64 e.office, .int .i64 e.low, .int .i64 e.high, .slice C e.needs.length ncap][j]? = some v → W'.cell? ((ad.add ((i : Int).toNat * 4)).add j) = some v := fun W' hb j v hv => (hb.cell (block_lt_of_cell (hcells j v hv))).trans (hcells j v hv)
    refine TW.load rfl rfl one24 rfl ct (fun _ => cellsW w5 hW5 3 _ rfl) ?_
    refine TW.lenSlice rfl rfl Try.underlying24 rfl ct ?_
    refine TW.sub rfl rfl rfl ct rfl ct (fun _ => by (try dsimp only); omega) ?_
    refine TW.assign rfl rfl rfl ct ?_
    refine TW.nil (KW.pick [0, 1, 2, 3, 4, 11, 12, 13, 14, 15] [(0, _, _), (1, _, _), (2, _, _), (3, _, _), (4, _, _), (11, _, _), (12, _, _), (13, _, _), (14, _, _), (15, _, _)] rfl (KW.then_ ?_))
    refine CW.block ?_
    have hB5' : Blk w5 g4 43 [.int .i64 e.office, .int .i64 e.low, .int .i64 e.high, .slice none 0 0] := hB5
    refine CW.loopS (fun x : Nat × Value => [(0, none, .slice D d.length dcap), (1, none, .slice (some ad) l.length bcap), (2, none, .int .i64 most), (3, none, .int .u8 x0), (4, none, .int .u8 y0), (11, none, .bool true), (12, none, rv), (13, none, .int .i64 (i : Int)), (14, none, .pointer (some ⟨g4, 0, none⟩)), (15, none, .int .i64 ((x.1 : Int) - 1))])
      (fun x W' => x.1 ≤ e.needs.length ∧ Below W.heap.size W W' ∧ Blk W' g4 43 [.int .i64 e.office, .int .i64 e.low, .int .i64 e.high, x.2] ∧ (∃ ys : List Int, ys = (e.needs.drop x.1).reverse ∧ OwnS W' 3 1 x.2 ys.length (ys.map (Value.int .i64))) ∧ ∀ g, x.2.ownBlock = some g → g4 < g) (fun x => x.1) (e.needs.length, .slice none 0 0) [0, 1, 2, 3, 4, 11, 12, 13, 14, 15]
      ⟨Nat.le_refl _, hW5, hB5', ⟨[], by simp, OwnS.nil _ _ _⟩, fun g hg => by simp [Value.ownBlock] at hg⟩ rfl ?_
    rintro ⟨m, xv⟩ W6 ⟨hm, hW6, hBk6, ⟨ys, hys, how⟩, hob⟩
    dsimp only at hm hBk6 hys how hob
    have hyl : ys.length = e.needs.length - m := by rw [hys]; simp
    have hs6 := hW6.size
    have hg46 := hBk6.lt
    refine CW.seq (CW.seq (CW.region ?_))
    refine TW.move rfl rfl rfl ct ?_
    refine TW.geq rfl rfl rfl ct rfl ct ?_
    refine TW.nil (KW.pick [0, 1, 2, 3, 4, 11, 12, 13, 14, 15, 55] [(0, _, _), (1, _, _), (2, _, _), (3, _, _), (4, _, _), (11, _, _), (12, _, _), (13, _, _), (14, _, _), (15, _, _), (55, _, _)] rfl (KW.then_ ?_))
    refine CW.condP rfl (fun hlt2 => ?_) (fun hge2 => ?_)
    · obtain ⟨n, rfl⟩ : ∃ n, m = n + 1 := ⟨m - 1, by omega⟩
      rw [show (((n + 1 : Nat) : Int) - 1) = (n : Int) by omega]
      obtain ⟨x, hx, hxm⟩ := getx (l := e.needs) (k := n) (by omega)
      have hn6 := hneeds.below hW6
      obtain ⟨cd, rfl⟩ := hn6.addr (by omega)
      obtain ⟨A6, cap6, rfl, _⟩ := how.form
      refine CW.skip (KW.then_ (CW.seq (CW.block ?_)))
      refine CW.drawR mixed fun W7 hb7 => ?_
      refine RW.draw .weak 11 (by kernel_rfl) (by kernel_rfl) rfl rfl hb7 ?_
      refine DW.fieldAddr rfl rfl fo43_3 rfl ct ?_
      refine DW.load rfl rfl one24 rfl ct (fun _ => hBk6.fld rfl) ?_
      refine DW.move rfl rfl rfl ct ?_
      refine DW.move rfl rfl rfl ct ?_
      refine DW.indexAddr rfl rfl Try.underlying23 sz43 rfl ct rfl ct (fun _ => by (try dsimp only); omega) ?_
      refine DW.fieldAddr rfl rfl fo43_3 rfl ct ?_
      refine DW.load rfl rfl one24 rfl ct (fun _ => cellsW W6 hW6 3 _ rfl) ?_
      refine DW.move rfl rfl rfl ct ?_
      refine DW.indexAddr rfl rfl Try.underlying24 sz3 rfl ct rfl ct (fun _ => by (try dsimp only); omega) ?_
      refine DW.load rfl rfl one3 rfl ct (fun _ => hn6.getI hx) ?_
      refine DW.buildSlice 3 _ rfl rfl rfl eo24 (DArgs.cons rfl ct DArgs.nil) rfl rfl rfl rfl rfl ?_
      refine DW.nil (DW.finX [0, 1, 2, 3, 4, 11, 12, 13, 14, 15, 59] [(0, _, _), (1, _, _), (2, _, _), (3, _, _), (4, _, _), (11, _, _), (12, _, _), (13, _, _), (14, _, _), (15, _, _), (59, _, _)] rfl [68] rfl fun vs w8 hb8 hs8 => KW.rk' ?_)
      obtain ⟨v68, rfl, h68⟩ := Sats.one hs8
      obtain ⟨g8, rfl, hB8⟩ := h68
      have how8 := how.below hb8
      have hW8 := hW6.step hb8
      refine RW.one (by kernel_rfl) (by kernel_rfl) rfl ?_
      refine TW.append [.int .i64 x] rfl rfl go24 rfl how8 rfl rfl (fun j v hj => ⟨⟨g8, 0, none⟩, rfl, hB8.fld hj⟩) (fun v hv => by simp at hv; subst hv; rfl) (by omega) (by omega) ?_
      rintro ov' w9 o9 hg9 hn9
      refine TW.nil (KW.pick [0, 1, 2, 3, 4, 11, 12, 13, 14, 15, 69] [(0, _, _), (1, _, _), (2, _, _), (3, _, _), (4, _, _), (11, _, _), (12, _, _), (13, _, _), (14, _, _), (15, _, _), (69, _, _)] rfl (KW.rk ?_))
      refine RW.one (by kernel_rfl) (by kernel_rfl) rfl ?_
      refine TW.fieldAddr rfl rfl fo43_3 rfl ct ?_
      refine TW.nil (KW.pick [0, 1, 2, 3, 4, 11, 12, 13, 14, 15, 69, 70] [(0, _, _), (1, _, _), (2, _, _), (3, _, _), (4, _, _), (11, _, _), (12, _, _), (13, _, _), (14, _, _), (15, _, _), (69, _, _), (70, _, _)] rfl (KW.rk ?_))
      refine RW.one (by kernel_rfl) (by kernel_rfl) rfl ?_
      have hBk8 := hBk6.next hb8
      have hlt8 := hBk8.lt
      have hBk9 : Blk w9 g4 43 [.int .i64 e.office, .int .i64 e.low, .int .i64 e.high, .slice A6 ys.length cap6] := (hg9.block g4 hBk8.lt (fun e => absurd (hob g4 e.symm) (Nat.lt_irrefl _))).trans hBk8
      have hob9 : ∀ g, ov'.ownBlock = some g → g4 < g := fun g hg => by
        rcases hn9 with h | h
        · exact hob g (by rw [← h]; exact hg)
        · rw [h] at hg; cases hg; exact hlt8
      have hW9 : Below W.heap.size W w9 := hW8.grown hg9 hW8.size (fun q hq => by have := hob q hq; omega)
      refine TW.storeFld rfl sz24 rfl rfl hBk9 (by show 3 < 4; decide) (by obtain ⟨A9, c9, rfl, _⟩ := o9.form; rfl) ?_
      rintro w10 hB10 hbut10 hsz10
      refine TW.nil (KW.pick [0, 1, 2, 3, 4, 11, 12, 13, 14, 15] [(0, _, _), (1, _, _), (2, _, _), (3, _, _), (4, _, _), (11, _, _), (12, _, _), (13, _, _), (14, _, _), (15, _, _)] rfl (KW.rk ?_))
      refine RW.end rfl (KW.pick [0, 1, 2, 3, 4, 11, 12, 13, 14, 15] [(0, _, _), (1, _, _), (2, _, _), (3, _, _), (4, _, _), (11, _, _), (12, _, _), (13, _, _), (14, _, _), (15, _, _)] rfl (KW.blockN (KW.then_ ?_)))
      refine CW.region ?_
      refine TW.move rfl rfl rfl ct ?_
      refine TW.sub rfl rfl rfl ct rfl ct (fun _ => by (try dsimp only); omega) ?_
      refine TW.assign rfl rfl rfl ct ?_
      refine TW.nil (KW.pick [0, 1, 2, 3, 4, 11, 12, 13, 14, 15] [(0, _, _), (1, _, _), (2, _, _), (3, _, _), (4, _, _), (11, _, _), (12, _, _), (13, _, _), (14, _, _), (15, _, _)] rfl ?_)
      have hW10 : Below W.heap.size W w10 := hW9.grown hbut10 hW9.size (fun q hq => by cases hq; omega)
      refine KW.round (n, ov') [0, 1, 2, 3, 4, 11, 12, 13, 14, 15] rfl ⟨by show n ≤ e.needs.length; omega, hW10, hB10, ⟨ys ++ [x], ?_, ?_⟩, hob9⟩ (by show n < n + 1; omega)
      · obtain ⟨hnl, hxe⟩ := List.getElem?_eq_some_iff.1 hx
        show ys ++ [x] = (e.needs.drop n).reverse
        rw [List.drop_eq_getElem_cons hnl, List.reverse_cons, ← hys, hxe]
      · have := o9.kept (w' := w10) (fun g hg => hbut10.block g (o9.lt hg) (fun e => by cases e; exact absurd (hob9 _ hg) (Nat.lt_irrefl _)))
        simpa using this
    · have hm0 : m = 0 := by omega
      subst hm0
      have hyse : ys = e.needs.reverse := by rw [hys]; simp
      refine CW.exit (KW.thenX (KW.thenX (KW.blockX (KW.then_ (CW.region ?_)))))
      refine TW.move rfl rfl rfl ct ?_
      refine TW.loadS _ rfl rfl Try.underlying43 sz43 rfl ct (fun _ => (fun _ _ h => hBk6.fld h)) rfl ?_
      refine TW.buildSlice 43 _ rfl rfl rfl eo23 (Args.cons rfl ct Args.nil) rfl rfl rfl rfl rfl ?_
      rintro g7 w7 f7
      have hW7 : Below W.heap.size W w7 := hW6.step f7.below
      have hR7 := hR.step hW7
      have hrow : ∀ q, rv.ownBlock = some q → q < W.heap.size := fun q hq => hR.1.lt hq
      have how7 := how.below f7.below
      have hIe : ∀ x ∈ e.needs, I64 x := hneeds.allI
      have hn7 : SL intT (RowF w7 rv) w7 xv (revE e).needs := by
        show SL intT (RowF w7 rv) w7 xv e.needs.reverse
        rw [← hyse]
        refine OwnS.toInts how7 (fun x hx => hIe x (by rw [hyse] at hx; simpa using hx)) (fun g hg => ⟨how7.lt hg, fun e => ?_⟩) (by omega)
        have h1 := hrow g e
        have h2 := hob g hg
        omega
      have hfew : ps.length ≤ 8 := by
        have h1 : ps.length = (backS (l.drop (i + 1))).length := by rw [← hmap]; simp
        have h2 : (backS (l.drop (i + 1))).length = l.length - (i + 1) := by simp [backS]
        omega
      obtain ⟨X7, xc7, rfl, _⟩ := how7.form
      refine TW.append [.int .i64 e.office, .int .i64 e.low, .int .i64 e.high, .slice X7 ys.length xc7] rfl rfl go23 rfl hR7.1 rfl rfl (fun j v hj => ⟨⟨g7, 0, none⟩, rfl, f7.blk.fld hj⟩) (fun v hv => by simp at hv; rcases hv with rfl | rfl | rfl | rfl <;> rfl) (by omega) (by omega) ?_
      rintro rv' w8 hO8 hg8 hnew8
      refine TW.assign rfl rfl rfl ct ?_
      refine TW.nil (KW.pick [0, 1, 2, 3, 4, 11, 12, 13, 14, 15] [(0, _, _), (1, _, _), (2, _, _), (3, _, _), (4, _, _), (11, _, _), (12, _, _), (13, _, _), (14, _, _), (15, _, _)] rfl (KW.blockN (KW.then_ ?_)))
      refine CW.region ?_
      refine TW.move rfl rfl rfl ct ?_
      refine TW.sub rfl rfl rfl ct rfl ct (fun _ => by (try dsimp only); omega) ?_
      refine TW.assign rfl rfl rfl ct ?_
      refine TW.nil (KW.pick [0, 1, 2, 3, 4, 11, 12, 13, 14, 15] [(0, _, _), (1, _, _), (2, _, _), (3, _, _), (4, _, _), (11, _, _), (12, _, _), (13, _, _), (14, _, _), (15, _, _)] rfl ?_)
      have hBW7 : Below w2.heap.size w2 w7 := hB.step hW7
      have hown : ∀ q, rv.ownBlock = some q → w2.heap.size ≤ q := hR.2.2
      have hR8 : RowL evT w8 43 w2.heap.size rv' (ps ++ [([.int .i64 e.office, .int .i64 e.low, .int .i64 e.high, .slice X7 ys.length xc7], revE e)]) := hR7.app hO8 hg8 hnew8 ⟨_, rfl, i1, i2, i3, hn7⟩ hBW7.size
      rw [show (i : Int) - 1 = ((i : Nat) : Int) - 1 from rfl]
      refine KW.round (i, rv', ps ++ [([.int .i64 e.office, .int .i64 e.low, .int .i64 e.high, .slice X7 ys.length xc7], revE e)]) [0, 1, 2, 3, 4, 11, 12, 13] rfl ⟨by show i ≤ l.length; omega, hBW7.grown hg8 hBW7.size hown, hR8, ?_⟩ (by show i < i + 1; omega)
      show List.map Prod.snd (ps ++ [_]) = backS (l.drop i)
      obtain ⟨_, hee⟩ := List.getElem?_eq_some_iff.1 he
      rw [List.map_append, hmap, List.drop_eq_getElem_cons hil, hee]
      simp [backS]
  · have hj0 : j = 0 := by omega
    subst hj0
    have hback : SE W rv (backS l) := by
      have := hR.sl (by decide)
      rw [hmap, List.drop_zero] at this
      exact this
    have hnd := fine_needs hf
    have hndb : ∀ e ∈ backS l, e.needs.length ≤ 1000 := fun e he => by
      obtain ⟨y, hy, rfl⟩ := mem_back.1 he
      simpa [revE] using hnd y hy
    have hdW := sd_step hd2 hB
    have hlW := se_step hl2 hB
    refine CW.exit (KW.thenX (KW.thenX (KW.blockX (KW.then_ (CW.seq (CW.region ?_))))))
    refine TW.move rfl rfl rfl ct ?_
    refine TW.move rfl rfl rfl ct ?_
    refine TW.move rfl rfl rfl ct ?_
    refine TW.call0 (cap := []) rfl rfl en12 rfl (Args.cons rfl ct (Args.cons rfl ct (Args.cons rfl ct Args.nil))) (worlds_c hdW hlW hnd) ?_
    rintro y w20 ⟨c20, wv, rfl, hw20⟩
    refine TW.move rfl rfl rfl ct ?_
    refine TW.extract rfl rfl rfl rfl ct ?_
    refine TW.extract rfl rfl rfl rfl ct ?_
    refine TW.assign rfl rfl rfl ct ?_
    refine TW.assign rfl rfl rfl ct ?_
    refine TW.nil (KW.pick [0, 1, 2, 3, 4, 11, 12, 13, 16, 17] [(0, _, _), (1, _, _), (2, _, _), (3, _, _), (4, _, _), (11, _, _), (12, _, _), (13, _, _), (16, _, _), (17, _, _)] rfl (KW.then_ ?_))
    refine CW.seq (CW.region ?_)
    refine TW.move rfl rfl rfl ct ?_
    refine TW.move rfl rfl rfl ct ?_
    refine TW.move rfl rfl rfl ct ?_
    refine TW.call0 (cap := []) rfl rfl en12 rfl (Args.cons rfl ct (Args.cons rfl ct (Args.cons rfl ct Args.nil))) (worlds_c (sd_step hdW c20) (se_step hback c20) hndb) ?_
    rintro y w21 ⟨c21, vv, rfl, hv21⟩
    rw [hf.wok.back_err]
    rw [hf.wok.back_eq] at hv21
    have hw21 := hw20.below c21
    refine TW.move rfl rfl rfl ct ?_
    refine TW.extract rfl rfl rfl rfl ct ?_
    refine TW.extract rfl rfl rfl rfl ct ?_
    refine TW.assign rfl rfl rfl ct ?_
    refine TW.assign rfl rfl rfl ct ?_
    refine TW.nil (KW.pick [0, 1, 2, 3, 4, 11, 12, 13, 16, 17, 18, 19] [(0, _, _), (1, _, _), (2, _, _), (3, _, _), (4, _, _), (11, _, _), (12, _, _), (13, _, _), (16, _, _), (17, _, _), (18, _, _), (19, _, _)] rfl (KW.then_ ?_))
    refine CW.seq (CW.seq (CW.region ?_))
    refine TW.move rfl rfl rfl ct ?_
    refine TW.move rfl rfl rfl ct ?_
    refine TW.neq rfl rfl rfl ct rfl ct ?_
    refine TW.move rfl rfl rfl ct ?_
    refine TW.move rfl rfl rfl ct ?_
    refine TW.move rfl rfl rfl ct ?_
    refine TW.callF (cap := []) rfl rfl en14 rfl ct (Args.cons rfl id (Args.cons rfl id Args.nil)) (fun _ => rsame_c hw21 hv21) ?_
    rintro w22 c22
    refine TW.not rfl rfl rfl id ?_
    refine TW.pickOr rfl rfl rfl ct rfl pOr0 ?_
    refine TW.nil (KW.pick [0, 1, 2, 3, 4, 11, 12, 13, 16, 17, 18, 19, 97] [(0, _, _), (1, _, _), (2, _, _), (3, _, _), (4, _, _), (11, _, _), (12, _, _), (13, _, _), (16, _, _), (17, _, _), (18, _, _), (19, _, _), (97, _, _)] rfl (KW.then_ ?_))
    refine CW.cond rfl (fun hno => ?_) (fun hyes => ?_)
    · exfalso
      simp at hno
    have hW22 := ((hB.step c20).step c21).step c22
    have b22 := b2.step hW22
    have hd22 := sd_step hd2 hW22
    have hl22 := se_step hl2 hW22
    refine CW.skip (KW.then_ (CW.seq (CW.seq (CW.region ?_))))
    refine TW.move rfl rfl rfl ct ?_
    refine TW.lenSlice rfl rfl Try.underlying22 rfl ct ?_
    refine TW.eql rfl rfl rfl ct rfl ct ?_
    refine TW.nil (KW.pick [0, 1, 2, 3, 4, 11, 12, 13, 16, 17, 18, 19, 100] [(0, _, _), (1, _, _), (2, _, _), (3, _, _), (4, _, _), (11, _, _), (12, _, _), (13, _, _), (16, _, _), (17, _, _), (18, _, _), (19, _, _), (100, _, _)] rfl (KW.then_ ?_))
    refine CW.condP rfl (fun hz => ?_) (fun hnz => ?_)
    · refine CW.seq (CW.region ?_)
      refine TW.move rfl rfl rfl ct ?_
      refine TW.assign rfl rfl rfl ct ?_
      refine TW.nil (KW.pick [0, 1, 2, 3, 4, 10, 11, 12, 13, 16, 17, 18, 19] [(0, _, _), (1, _, _), (2, _, _), (3, _, _), (4, _, _), (10, _, _), (11, _, _), (12, _, _), (13, _, _), (16, _, _), (17, _, _), (18, _, _), (19, _, _)] rfl (KW.then_ ?_))
      refine CW.ret (KW.thenR ?_)
      refine ret1 Try.results8 rfl (⟨b22, rfl⟩)
    have hd0 : 0 < d.length := by omega
    have hdw := hf.wf.wd
    have hd12 := hdw.few
    have hwx : IntKind.i64.wrap x0 = x0 := wrap_fits (by omega)
    have hwy : IntKind.i64.wrap y0 = y0 := wrap_fits (by omega)
    obtain ⟨i, hi⟩ : ∃ i : Nat, IntKind.i64.wrap x0 % (d.length : Int) = i := ⟨(IntKind.i64.wrap x0 % (d.length : Int)).toNat, by
      have := Int.emod_nonneg (IntKind.i64.wrap x0) (b := (d.length : Int)) (by omega)
      omega⟩
    obtain ⟨k, hk⟩ : ∃ k : Nat, IntKind.i64.wrap y0 % (d.length : Int) = k := ⟨(IntKind.i64.wrap y0 % (d.length : Int)).toNat, by
      have := Int.emod_nonneg (IntKind.i64.wrap y0) (b := (d.length : Int)) (by omega)
      omega⟩
    have hil : i < d.length := by
      have := Int.emod_lt_of_pos (IntKind.i64.wrap x0) (b := (d.length : Int)) (by omega)
      omega
    have hkl : k < d.length := by
      have := Int.emod_lt_of_pos (IntKind.i64.wrap y0) (b := (d.length : Int)) (by omega)
      omega
    refine CW.skip (KW.then_ (CW.seq (CW.region ?_)))
    refine TW.move rfl rfl rfl ct ?_
    refine TW.conv rfl rfl rfl Try.underlying3 rfl ct ?_
    refine TW.move rfl rfl rfl ct ?_
    refine TW.lenSlice rfl rfl Try.underlying22 rfl ct ?_
    refine TW.rem rfl rfl rfl ct rfl ct (fun _ => by rw [hwx]; exact ⟨hx0, by omega, by omega⟩) ?_
    refine TW.assign rfl rfl rfl ct ?_
    refine TW.nil (KW.pick [0, 1, 2, 3, 4, 11, 12, 13, 16, 17, 18, 19, 20] [(0, _, _), (1, _, _), (2, _, _), (3, _, _), (4, _, _), (11, _, _), (12, _, _), (13, _, _), (16, _, _), (17, _, _), (18, _, _), (19, _, _), (20, _, _)] rfl (KW.then_ ?_))
    refine CW.seq (CW.region ?_)
    refine TW.move rfl rfl rfl ct ?_
    refine TW.conv rfl rfl rfl Try.underlying3 rfl ct ?_
    refine TW.move rfl rfl rfl ct ?_
    refine TW.lenSlice rfl rfl Try.underlying22 rfl ct ?_
    refine TW.rem rfl rfl rfl ct rfl ct (fun _ => by rw [hwy]; exact ⟨hy0, by omega, by omega⟩) ?_
    refine TW.assign rfl rfl rfl ct ?_
    refine TW.nil (KW.pick [0, 1, 2, 3, 4, 11, 12, 13, 16, 17, 18, 19, 20, 21] [(0, _, _), (1, _, _), (2, _, _), (3, _, _), (4, _, _), (11, _, _), (12, _, _), (13, _, _), (16, _, _), (17, _, _), (18, _, _), (19, _, _), (20, _, _), (21, _, _)] rfl (KW.then_ ?_))
    refine CW.seq (CW.region ?_)
    rw [hi, hk]
    refine TW.buildSlice0 24 rfl rfl eo22 ?_
    rintro g23 w23 f23
    have b23 := b22.step f23.below
    have hd23 := sd_step hd22 f23.below
    have hl23 := se_step hl22 f23.below
    have hw23 := (hw21.below c22).below f23.below
    refine TW.assign rfl rfl rfl ct ?_
    refine TW.nil (KW.pick [0, 1, 2, 3, 4, 11, 12, 13, 16, 17, 18, 19, 20, 21, 22] [(0, _, _), (1, _, _), (2, _, _), (3, _, _), (4, _, _), (11, _, _), (12, _, _), (13, _, _), (16, _, _), (17, _, _), (18, _, _), (19, _, _), (20, _, _), (21, _, _), (22, _, _)] rfl (KW.then_ ?_))
    refine CW.seq (CW.seq (CW.region ?_))
    refine TW.assign rfl rfl rfl ct ?_
    refine TW.nil (KW.pick [0, 1, 2, 3, 4, 11, 12, 13, 16, 17, 18, 19, 20, 21, 22, 23] [(0, _, _), (1, _, _), (2, _, _), (3, _, _), (4, _, _), (11, _, _), (12, _, _), (13, _, _), (16, _, _), (17, _, _), (18, _, _), (19, _, _), (20, _, _), (21, _, _), (22, _, _), (23, _, _)] rfl (KW.then_ ?_))
    refine CW.block ?_
    have hg23 := f23.at_
    obtain ⟨ad, rfl⟩ := hd23.addr hd0
    refine CW.loopS (fun x : Nat × Value × List (Value × List Int) => [(0, none, .slice (some ad) d.length dcap), (1, none, .slice B l.length bcap), (2, none, .int .i64 most), (11, none, .bool true), (16, none, wv), (20, none, .int .i64 (i : Int)), (21, none, .int .i64 (k : Int)), (22, none, x.2.1), (23, none, .int .i64 (x.1 : Int))])
      (fun x W => x.1 ≤ d.length ∧ Below w22.heap.size w22 W ∧ Tab W w22.heap.size x.2.1 x.2.2 ∧ x.2.2.map (·.2) = d.take x.1) (fun x => d.length - x.1) (0, .slice (some ⟨g23, 0, none⟩) 0 0, []) [0, 1, 2, 11, 16, 20, 21, 22, 23] ⟨Nat.zero_le _, f23.below, Tab.nil f23.blk (by omega), rfl⟩ rfl ?_
    rintro ⟨m, tv, rs⟩ W ⟨hm, hB24, hT, hmp⟩
    dsimp only at hm hB24 hT hmp
    have hrl : rs.length = m := by have := congrArg List.length hmp; simp at this; omega
    refine CW.seq (CW.seq (CW.region ?_))
    refine TW.move rfl rfl rfl ct ?_
    refine TW.move rfl rfl rfl ct ?_
    refine TW.lenSlice rfl rfl Try.underlying22 rfl ct ?_
    refine TW.lss rfl rfl rfl ct rfl ct ?_
    refine TW.nil (KW.pick [0, 1, 2, 11, 16, 20, 21, 22, 23, 116] [(0, _, _), (1, _, _), (2, _, _), (11, _, _), (16, _, _), (20, _, _), (21, _, _), (22, _, _), (23, _, _), (116, _, _)] rfl (KW.then_ ?_))
    refine CW.condP rfl (fun hlt => ?_) (fun hge => ?_)
    · obtain ⟨r, hr⟩ : ∃ r, d[m]? = some r := ⟨d[m]'(by omega), List.getElem?_eq_getElem (by omega)⟩
      have hrlen : r.length = d.length := hdw.row m r hr
      refine CW.skip (KW.then_ (CW.seq (CW.block (CW.region ?_))))
      refine TW.move rfl rfl rfl ct ?_
      refine TW.buildSlice0 3 rfl rfl eo24 ?_
      rintro g24 w24 f24
      have hg24 := f24.at_
      have hs24 := f24.size
      have hB25 := hB24.step f24.below
      have hs25 := hB24.size
      have hdW := hd22.below hB25
      obtain ⟨rv0, hcell, hrow⟩ := hdW.row hr
      obtain ⟨R, rcap, rfl, _⟩ := hrow.form
      have hIr : ∀ x ∈ r, I64 x := hrow.allI
      have hT24 := hT.step f24.below
      refine TW.move rfl rfl rfl ct ?_
      refine TW.move rfl rfl rfl ct ?_
      refine TW.indexAddr rfl rfl Try.underlying22 sz24 rfl ct rfl ct (fun _ => by (try dsimp only); omega) ?_
      refine TW.load rfl rfl one24 rfl ct (fun _ => hcell) ?_
      have hnews : ∀ (j : Nat) (u : Value), (r.map (Value.int .i64))[j]? = some u → ∃ ad' : Addr, R = some ad' ∧ w24.cell? (ad'.add j) = some u := by
        intro j u hu
        simp only [List.getElem?_map] at hu
        obtain ⟨y, hy, rfl⟩ := Option.map_eq_some_iff.1 hu
        obtain ⟨ad', h1, h2, _⟩ := hrow.int hy
        exact ⟨ad', h1, by rw [Nat.mul_one] at h2; exact h2⟩
      refine TW.append (r.map (Value.int .i64)) rfl rfl go24 rfl (OwnS.of_blk f24.blk (n := 0) rfl (by omega)) rfl (by simp) hnews (ints_one _) (by omega) (by omega) ?_
      rintro rv' w25 o25 hg25 hn25
      have hs25' := hg25.size
      have hown25 : ∀ g, rv'.ownBlock = some g → W.heap.size ≤ g := fun g hg => by
        rcases hn25 with h | h
        · rw [h] at hg; simp [Value.ownBlock] at hg; omega
        · rw [h] at hg; cases hg; omega
      have hW25 : Below W.heap.size W w25 := f24.below.grown hg25 f24.below.size (fun q hq => by simp [Value.ownBlock] at hq; omega)
      have hT25 := hT.step hW25
      have o25' : OwnS w25 3 1 rv' r.length (r.map (Value.int .i64)) := by simpa using o25
      obtain ⟨R', rcap', rfl, _⟩ := o25'.form
      refine TW.buildSlice 24 _ rfl rfl rfl eo22 (Args.cons rfl ct Args.nil) rfl rfl rfl rfl rfl ?_
      rintro g26 w26 f26
      have hT26 := hT25.step f26.below
      refine TW.append [.slice R' r.length rcap'] rfl rfl go22 rfl hT26.own rfl rfl (fun j v hj => ⟨⟨g26, 0, none⟩, rfl, f26.blk.fld hj⟩) (fun v hv => by simp at hv; subst hv; rfl) (by omega) (by omega) ?_
      rintro tv' w27 o27 hg27 hn27
      refine TW.assign rfl rfl rfl ct ?_
      refine TW.nil (KW.pick [0, 1, 2, 11, 16, 20, 21, 22, 23] [(0, _, _), (1, _, _), (2, _, _), (11, _, _), (16, _, _), (20, _, _), (21, _, _), (22, _, _), (23, _, _)] rfl (KW.blockN (KW.then_ ?_)))
      refine CW.region ?_
      refine TW.move rfl rfl rfl ct ?_
      refine TW.add rfl rfl rfl ct rfl ct (fun _ => by (try dsimp only); omega) ?_
      refine TW.assign rfl rfl rfl ct ?_
      refine TW.nil (KW.pick [0, 1, 2, 11, 16, 20, 21, 22, 23] [(0, _, _), (1, _, _), (2, _, _), (11, _, _), (16, _, _), (20, _, _), (21, _, _), (22, _, _), (23, _, _)] rfl ?_)
      have hW26 := hW25.step f26.below
      have hB26 := hB24.step hW26
      have hT27 : Tab w27 w22.heap.size tv' (rs ++ [(.slice R' r.length rcap', r)]) := by
        refine hT26.app o27 hg27 hn27 hB26.size (o25'.below f26.below) hIr (fun g hg => ⟨by have := hown25 g hg; omega, fun e => ?_⟩) (fun p hp g hg e => ?_)
        · have h1 := hT.own.lt e
          have h2 := hown25 g hg
          omega
        · have h1 := (hT.row p hp).1.lt hg
          have h2 := hown25 g e
          omega
      refine KW.round (m + 1, tv', rs ++ [(.slice R' r.length rcap', r)]) [0, 1, 2, 11, 16, 20, 21, 22, 23] rfl ⟨by show m + 1 ≤ d.length; omega, hB26.grown hg27 hB26.size hT.lb, hT27, ?_⟩ (by show d.length - (m + 1) < d.length - m; omega)
      show List.map Prod.snd (rs ++ [_]) = d.take (m + 1)
      rw [List.map_append, hmp, List.take_add_one, hr]
      rfl
    have hme : m = d.length := by omega
    subst hme
    rw [List.take_length] at hmp
    have hrs : ∀ p ∈ rs, p.2.length = d.length := fun p hp => by
      have : p.2 ∈ d := by rw [← hmp]; exact List.mem_map_of_mem hp
      obtain ⟨j, hj⟩ := List.mem_iff_getElem?.1 this
      exact hdw.row j _ hj
    refine CW.exit (KW.thenX (KW.thenX (KW.blockX (KW.then_ (CW.seq (CW.seq (CW.region ?_)))))))
    refine TW.move rfl rfl rfl ct ?_
    refine TW.move rfl rfl rfl ct ?_
    refine TW.neq rfl rfl rfl ct rfl ct ?_
    refine TW.nil (KW.pick [0, 1, 2, 11, 16, 20, 21, 22, 23, 130] [(0, _, _), (1, _, _), (2, _, _), (11, _, _), (16, _, _), (20, _, _), (21, _, _), (22, _, _), (23, _, _), (130, _, _)] rfl (KW.then_ ?_))
    refine CW.condP rfl (fun hik => ?_) (fun hke => ?_)
    · have hne : i ≠ k := fun e => hik (by rw [e])
      have hrsi : ∃ p, rs[i]? = some p := ⟨rs[i]'(by omega), List.getElem?_eq_getElem (by omega)⟩
      obtain ⟨⟨rv, r⟩, hri⟩ := hrsi
      have hrlen := hrs _ (List.mem_of_getElem? hri)
      have hdi : d[i]? = some r := by rw [← hmp, List.getElem?_map, hri]; rfl
      obtain ⟨ho1, hI1, hob1⟩ := hT.row _ (List.mem_of_getElem? hri)
      dsimp only at ho1 hI1 hob1 hrlen
      obtain ⟨TA, tcap, rfl, _⟩ := hT.own.form
      obtain ⟨tg, rfl⟩ := hT.own.addr (by simp; omega)
      have hcel : W.cell? (Addr.add ⟨tg, 0, none⟩ ((i : Int).toNat * 1)) = some rv := by
        rw [Nat.mul_one]
        exact hT.own.cell1 (by simp [hri])
      obtain ⟨RA, rcap, rfl, _⟩ := ho1.form
      obtain ⟨rg, rfl⟩ := ho1.addr (by simp; omega)
      refine CW.region ?_
      refine TW.move rfl rfl rfl ct ?_
      refine TW.move rfl rfl rfl ct ?_
      refine TW.indexAddr rfl rfl Try.underlying22 sz24 rfl ct rfl ct (fun _ => by (try dsimp only); omega) ?_
      refine TW.load rfl rfl one24 rfl ct (fun _ => hcel) ?_
      refine TW.move rfl rfl rfl ct ?_
      refine TW.indexAddr rfl rfl Try.underlying24 sz3 rfl ct rfl ct (fun _ => by (try dsimp only); omega) ?_
      refine TW.storeRow1 rfl sz3 rfl rfl ho1 (by simp; omega) rfl ?_
      rintro WX oX hbutX hszX
      have hTX : Tab WX w22.heap.size (.slice (some ⟨tg, 0, none⟩) rs.length tcap) (rs.set i (.slice (some ⟨rg, 0, none⟩) r.length rcap, r.set k (-1))) := by
        refine hT.set hri rfl hbutX ?_ (fun x hx => ?_)
        · rw [List.length_set, List.map_set]
          have e : (k : Int).toNat * 1 = k := by omega
          rw [e] at oX
          exact oX
        · rcases List.mem_or_eq_of_mem_set hx with h | h
          · exact hI1 x h
          · rw [h]; exact ⟨by decide, by decide⟩
      have hBX : Below w22.heap.size w22 WX := hB24.grown hbutX hB24.size (fun q hq => by cases hq; exact (hob1 _ rfl).1)
      have hSD : SD WX (.slice (some ⟨tg, 0, none⟩) rs.length tcap) (cutD d i k) := by
        have h := hTX.sd (by simp; omega) (fun p hp => by
          rcases List.mem_or_eq_of_mem_set hp with h | h
          · have := hrs p h; omega
          · rw [h]; simp; omega)
        have e : (rs.set i (.slice (some ⟨rg, 0, none⟩) r.length rcap, r.set k (-1))).map (·.2) = cutD d i k := by
          rw [List.map_set, hmp]
          unfold cutD
          rw [if_neg hne, List.getD_eq_getElem?_getD, hdi]
          rfl
        rw [e] at h
        exact h
      refine TW.nil (KW.pick [0, 1, 2, 11, 16, 20, 21, 22, 23] [(0, _, _), (1, _, _), (2, _, _), (11, _, _), (16, _, _), (20, _, _), (21, _, _), (22, _, _), (23, _, _)] rfl (KW.then_ ?_))
      refine CW.seq (CW.seq (CW.region ?_))
      refine TW.move rfl rfl rfl ct ?_
      refine TW.move rfl rfl rfl ct ?_
      have hnd := fine_needs hf
      have hlW := se_step hl22 hBX
      have hwW : SD WX wv (worldsS d l most) := sd_step ((hw21.below c22).now (sliceT_now intT_now)) hBX
      refine TW.call0 (cap := []) rfl rfl en25 rfl (Args.cons rfl ct (Args.cons rfl ct Args.nil)) (rvalid28_c hSD hlW) ?_
      rintro y w30 ⟨c30, rfl⟩
      refine TW.not rfl rfl rfl ct ?_
      refine TW.nil (KW.pick [0, 1, 2, 11, 16, 20, 21, 22, 23, 140] [(0, _, _), (1, _, _), (2, _, _), (11, _, _), (16, _, _), (20, _, _), (21, _, _), (22, _, _), (23, _, _), (140, _, _)] rfl (KW.then_ ?_))
      refine CW.cond rfl (fun hnv => ?_) (fun hv => ?_)
      · refine CW.seq (CW.region ?_)
        refine TW.move rfl rfl rfl ct ?_
        refine TW.assign rfl rfl rfl ct ?_
        refine TW.nil (KW.pick [0, 1, 2, 10, 11, 16, 20, 21, 22, 23] [(0, _, _), (1, _, _), (2, _, _), (10, _, _), (11, _, _), (16, _, _), (20, _, _), (21, _, _), (22, _, _), (23, _, _)] rfl (KW.then_ ?_))
        refine CW.ret (KW.thenR ?_)
        refine ret1 Try.results8 rfl (⟨(b22.step hBX).step c30, rfl⟩)
      have hwf : WfP (cutD d i k) l := dec_iff.1 (by simpa using hv)
      refine CW.skip (KW.then_ (CW.seq (CW.region ?_)))
      refine TW.move rfl rfl rfl ct ?_
      refine TW.move rfl rfl rfl ct ?_
      refine TW.move rfl rfl rfl ct ?_
      refine TW.call0 (cap := []) rfl rfl en12 rfl (Args.cons rfl ct (Args.cons rfl ct (Args.cons rfl ct Args.nil))) (worlds_c (sd_step hSD c30) (se_step hlW c30) hnd) ?_
      rintro y w31 ⟨c31, uv, rfl, hu31⟩
      have hw31 := (hwW.below c30).below c31
      obtain ⟨us, hus⟩ : ∃ us, us = worldsS (cutD d i k) l most := ⟨_, rfl⟩
      have herr := (hf.wok.cut hwf).err
      have hmem := fun b => hf.wok.cut_mem hwf (b := b)
      rw [← hus] at hu31 herr hmem
      rw [herr]
      obtain ⟨U, ucap, rfl, _⟩ := hu31.form
      have hmax := hu31.len.2.2
      have b31 := ((b22.step hBX).step c30).step c31
      refine TW.move rfl rfl rfl ct ?_
      refine TW.extract rfl rfl rfl rfl ct ?_
      refine TW.extract rfl rfl rfl rfl ct ?_
      refine TW.assign rfl rfl rfl ct ?_
      refine TW.assign rfl rfl rfl ct ?_
      refine TW.nil (KW.pick [0, 1, 2, 11, 16, 20, 21, 22, 23, 24, 25] [(0, _, _), (1, _, _), (2, _, _), (11, _, _), (16, _, _), (20, _, _), (21, _, _), (22, _, _), (23, _, _), (24, _, _), (25, _, _)] rfl (KW.then_ ?_))
      refine CW.seq (CW.seq (CW.region ?_))
      refine TW.assign rfl rfl rfl ct ?_
      refine TW.nil (KW.pick [0, 1, 2, 11, 16, 20, 21, 22, 23, 24, 25, 26] [(0, _, _), (1, _, _), (2, _, _), (11, _, _), (16, _, _), (20, _, _), (21, _, _), (22, _, _), (23, _, _), (24, _, _), (25, _, _), (26, _, _)] rfl (KW.then_ ?_))
      refine CW.block ?_
      refine CW.loopS (fun k : Nat => [(11, none, .bool true), (16, none, wv), (24, none, .slice U us.length ucap), (25, none, .int .i64 (if us = [] then 280 else 0)), (26, none, .int .i64 (k : Int))])
        (fun k W => k ≤ us.length ∧ Below w31.heap.size w31 W) (fun k => us.length - k) 0 [11, 16, 24, 25, 26] ⟨by omega, Below.refl _ _⟩ rfl ?_
      rintro q WQ ⟨hq, hWQ⟩
      refine CW.seq (CW.seq (CW.region ?_))
      refine TW.move rfl rfl rfl ct ?_
      refine TW.move rfl rfl rfl ct ?_
      refine TW.lenSlice rfl rfl Try.underlying22 rfl ct ?_
      refine TW.lss rfl rfl rfl ct rfl ct ?_
      refine TW.nil (KW.pick [11, 16, 24, 25, 26, 152] [(11, _, _), (16, _, _), (24, _, _), (25, _, _), (26, _, _), (152, _, _)] rfl (KW.then_ ?_))
      refine CW.condP rfl (fun hlt => ?_) (fun hge => ?_)
      · obtain ⟨x, hx, hxm⟩ := getx (l := us) (k := q) (by omega)
        obtain ⟨ud, rfl⟩ := hu31.addr (by omega)
        obtain ⟨xv, hcell, hrow⟩ := (hu31.below hWQ).row hx
        refine CW.skip (KW.then_ (CW.seq (CW.block (CW.seq (CW.region ?_)))))
        refine TW.move rfl rfl rfl ct ?_
        refine TW.move rfl rfl rfl ct ?_
        refine TW.move rfl rfl rfl ct ?_
        refine TW.indexAddr rfl rfl Try.underlying22 sz24 rfl ct rfl ct (fun _ => by (try dsimp only); omega) ?_
        refine TW.load rfl rfl one24 rfl ct (fun _ => hcell) ?_
        refine TW.call0 (cap := []) rfl rfl en23 rfl (Args.cons rfl ct (Args.cons rfl ct Args.nil)) (rsome_c (hw31.below hWQ) hrow) ?_
        rintro y w32 ⟨c32, rfl⟩
        have hE : ∃ b ∈ worldsS d l most, ∀ z ∈ x, z ∈ b := ⟨x, hmem x hxm, fun z hz => hz⟩
        rw [decide_eq_true hE]
        refine TW.not rfl rfl rfl ct ?_
        refine TW.nil (KW.pick [11, 16, 24, 25, 26, 161] [(11, _, _), (16, _, _), (24, _, _), (25, _, _), (26, _, _), (161, _, _)] rfl (KW.then_ ?_))
        refine CW.cond rfl (fun hno => ?_) (fun hyes => ?_)
        · exact absurd hno (by simp)
        · refine CW.skip (KW.blockN (KW.then_ (CW.region ?_)))
          refine TW.move rfl rfl rfl ct ?_
          refine TW.add rfl rfl rfl ct rfl ct (fun _ => by (try dsimp only); omega) ?_
          refine TW.assign rfl rfl rfl ct ?_
          refine TW.nil (KW.pick [11, 16, 24, 25, 26] [(11, _, _), (16, _, _), (24, _, _), (25, _, _), (26, _, _)] rfl ?_)
          refine KW.round (q + 1) [11, 16, 24, 25, 26] rfl ⟨by omega, hWQ.step c32⟩ (by omega)
      · refine CW.exit (KW.thenX (KW.thenX (KW.blockX (KW.then_ (CW.seq (CW.region ?_))))))
        refine TW.move rfl rfl rfl ct ?_
        refine TW.move rfl rfl rfl ct ?_
        refine TW.move rfl rfl rfl ct ?_
        refine TW.eql rfl rfl rfl id rfl ct ?_
        refine TW.move rfl rfl rfl id ?_
        refine TW.move rfl rfl rfl ct ?_
        refine TW.eql rfl rfl rfl id rfl ct ?_
        refine TW.pickOr rfl rfl rfl id rfl pOr1 ?_
        refine TW.pickAnd rfl rfl rfl ct rfl pAnd0 ?_
        refine TW.assign rfl rfl rfl ct ?_
        refine TW.nil (KW.pick [10, 11, 16, 24, 25, 26] [(10, _, _), (11, _, _), (16, _, _), (24, _, _), (25, _, _), (26, _, _)] rfl (KW.then_ ?_))
        refine CW.ret ?_
        refine ret1 Try.results8 rfl (⟨b31.step hWQ, ?_⟩)
        by_cases hue : us = [] <;> simp [hue]
    · have hke' : i = k := by omega
      have hSD : SD W tv (cutD d i k) := by
        have h := hT.sd (by omega) (fun p hp => by have := hrs p hp; omega)
        rw [hmp] at h
        unfold cutD
        rw [if_pos hke']
        exact h
      obtain ⟨WX, hWX⟩ : ∃ WX, WX = W := ⟨_, rfl⟩
      rw [← hWX] at hSD hB24
      rw [← hWX]
      have hBX := hB24
      refine CW.skip (KW.then_ (CW.seq (CW.seq (CW.region ?_))))
      refine TW.move rfl rfl rfl ct ?_
      refine TW.move rfl rfl rfl ct ?_
      have hnd := fine_needs hf
      have hlW := se_step hl22 hBX
      have hwW : SD WX wv (worldsS d l most) := sd_step ((hw21.below c22).now (sliceT_now intT_now)) hBX
      refine TW.call0 (cap := []) rfl rfl en25 rfl (Args.cons rfl ct (Args.cons rfl ct Args.nil)) (rvalid28_c hSD hlW) ?_
      rintro y w30 ⟨c30, rfl⟩
      refine TW.not rfl rfl rfl ct ?_
      refine TW.nil (KW.pick [0, 1, 2, 11, 16, 20, 21, 22, 23, 140] [(0, _, _), (1, _, _), (2, _, _), (11, _, _), (16, _, _), (20, _, _), (21, _, _), (22, _, _), (23, _, _), (140, _, _)] rfl (KW.then_ ?_))
      refine CW.cond rfl (fun hnv => ?_) (fun hv => ?_)
      · refine CW.seq (CW.region ?_)
        refine TW.move rfl rfl rfl ct ?_
        refine TW.assign rfl rfl rfl ct ?_
        refine TW.nil (KW.pick [0, 1, 2, 10, 11, 16, 20, 21, 22, 23] [(0, _, _), (1, _, _), (2, _, _), (10, _, _), (11, _, _), (16, _, _), (20, _, _), (21, _, _), (22, _, _), (23, _, _)] rfl (KW.then_ ?_))
        refine CW.ret (KW.thenR ?_)
        refine ret1 Try.results8 rfl (⟨(b22.step hBX).step c30, rfl⟩)
      have hwf : WfP (cutD d i k) l := dec_iff.1 (by simpa using hv)
      refine CW.skip (KW.then_ (CW.seq (CW.region ?_)))
      refine TW.move rfl rfl rfl ct ?_
      refine TW.move rfl rfl rfl ct ?_
      refine TW.move rfl rfl rfl ct ?_
      refine TW.call0 (cap := []) rfl rfl en12 rfl (Args.cons rfl ct (Args.cons rfl ct (Args.cons rfl ct Args.nil))) (worlds_c (sd_step hSD c30) (se_step hlW c30) hnd) ?_
      rintro y w31 ⟨c31, uv, rfl, hu31⟩
      have hw31 := (hwW.below c30).below c31
      obtain ⟨us, hus⟩ : ∃ us, us = worldsS (cutD d i k) l most := ⟨_, rfl⟩
      have herr := (hf.wok.cut hwf).err
      have hmem := fun b => hf.wok.cut_mem hwf (b := b)
      rw [← hus] at hu31 herr hmem
      rw [herr]
      obtain ⟨U, ucap, rfl, _⟩ := hu31.form
      have hmax := hu31.len.2.2
      have b31 := ((b22.step hBX).step c30).step c31
      refine TW.move rfl rfl rfl ct ?_
      refine TW.extract rfl rfl rfl rfl ct ?_
      refine TW.extract rfl rfl rfl rfl ct ?_
      refine TW.assign rfl rfl rfl ct ?_
      refine TW.assign rfl rfl rfl ct ?_
      refine TW.nil (KW.pick [0, 1, 2, 11, 16, 20, 21, 22, 23, 24, 25] [(0, _, _), (1, _, _), (2, _, _), (11, _, _), (16, _, _), (20, _, _), (21, _, _), (22, _, _), (23, _, _), (24, _, _), (25, _, _)] rfl (KW.then_ ?_))
      refine CW.seq (CW.seq (CW.region ?_))
      refine TW.assign rfl rfl rfl ct ?_
      refine TW.nil (KW.pick [0, 1, 2, 11, 16, 20, 21, 22, 23, 24, 25, 26] [(0, _, _), (1, _, _), (2, _, _), (11, _, _), (16, _, _), (20, _, _), (21, _, _), (22, _, _), (23, _, _), (24, _, _), (25, _, _), (26, _, _)] rfl (KW.then_ ?_))
      refine CW.block ?_
      refine CW.loopS (fun k : Nat => [(11, none, .bool true), (16, none, wv), (24, none, .slice U us.length ucap), (25, none, .int .i64 (if us = [] then 280 else 0)), (26, none, .int .i64 (k : Int))])
        (fun k W => k ≤ us.length ∧ Below w31.heap.size w31 W) (fun k => us.length - k) 0 [11, 16, 24, 25, 26] ⟨by omega, Below.refl _ _⟩ rfl ?_
      rintro q WQ ⟨hq, hWQ⟩
      refine CW.seq (CW.seq (CW.region ?_))
      refine TW.move rfl rfl rfl ct ?_
      refine TW.move rfl rfl rfl ct ?_
      refine TW.lenSlice rfl rfl Try.underlying22 rfl ct ?_
      refine TW.lss rfl rfl rfl ct rfl ct ?_
      refine TW.nil (KW.pick [11, 16, 24, 25, 26, 152] [(11, _, _), (16, _, _), (24, _, _), (25, _, _), (26, _, _), (152, _, _)] rfl (KW.then_ ?_))
      refine CW.condP rfl (fun hlt => ?_) (fun hge => ?_)
      · obtain ⟨x, hx, hxm⟩ := getx (l := us) (k := q) (by omega)
        obtain ⟨ud, rfl⟩ := hu31.addr (by omega)
        obtain ⟨xv, hcell, hrow⟩ := (hu31.below hWQ).row hx
        refine CW.skip (KW.then_ (CW.seq (CW.block (CW.seq (CW.region ?_)))))
        refine TW.move rfl rfl rfl ct ?_
        refine TW.move rfl rfl rfl ct ?_
        refine TW.move rfl rfl rfl ct ?_
        refine TW.indexAddr rfl rfl Try.underlying22 sz24 rfl ct rfl ct (fun _ => by (try dsimp only); omega) ?_
        refine TW.load rfl rfl one24 rfl ct (fun _ => hcell) ?_
        refine TW.call0 (cap := []) rfl rfl en23 rfl (Args.cons rfl ct (Args.cons rfl ct Args.nil)) (rsome_c (hw31.below hWQ) hrow) ?_
        rintro y w32 ⟨c32, rfl⟩
        have hE : ∃ b ∈ worldsS d l most, ∀ z ∈ x, z ∈ b := ⟨x, hmem x hxm, fun z hz => hz⟩
        rw [decide_eq_true hE]
        refine TW.not rfl rfl rfl ct ?_
        refine TW.nil (KW.pick [11, 16, 24, 25, 26, 161] [(11, _, _), (16, _, _), (24, _, _), (25, _, _), (26, _, _), (161, _, _)] rfl (KW.then_ ?_))
        refine CW.cond rfl (fun hno => ?_) (fun hyes => ?_)
        · exact absurd hno (by simp)
        · refine CW.skip (KW.blockN (KW.then_ (CW.region ?_)))
          refine TW.move rfl rfl rfl ct ?_
          refine TW.add rfl rfl rfl ct rfl ct (fun _ => by (try dsimp only); omega) ?_
          refine TW.assign rfl rfl rfl ct ?_
          refine TW.nil (KW.pick [11, 16, 24, 25, 26] [(11, _, _), (16, _, _), (24, _, _), (25, _, _), (26, _, _)] rfl ?_)
          refine KW.round (q + 1) [11, 16, 24, 25, 26] rfl ⟨by omega, hWQ.step c32⟩ (by omega)
      · refine CW.exit (KW.thenX (KW.thenX (KW.blockX (KW.then_ (CW.seq (CW.region ?_))))))
        refine TW.move rfl rfl rfl ct ?_
        refine TW.move rfl rfl rfl ct ?_
        refine TW.move rfl rfl rfl ct ?_
        refine TW.eql rfl rfl rfl id rfl ct ?_
        refine TW.move rfl rfl rfl id ?_
        refine TW.move rfl rfl rfl ct ?_
        refine TW.eql rfl rfl rfl id rfl ct ?_
        refine TW.pickOr rfl rfl rfl id rfl pOr1 ?_
        refine TW.pickAnd rfl rfl rfl ct rfl pAnd0 ?_
        refine TW.assign rfl rfl rfl ct ?_
        refine TW.nil (KW.pick [10, 11, 16, 24, 25, 26] [(10, _, _), (11, _, _), (16, _, _), (24, _, _), (25, _, _), (26, _, _)] rfl (KW.then_ ?_))
        refine CW.ret ?_
        refine ret1 Try.results8 rfl (⟨b31.step hWQ, ?_⟩)
        by_cases hue : us = [] <;> simp [hue]
end Go.Proofs.Ytmdjkgkgpkaliaa
