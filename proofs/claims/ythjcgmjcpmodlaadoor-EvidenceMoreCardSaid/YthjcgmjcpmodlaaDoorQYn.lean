import Derived.Test.YthjcgmjcpmodlaaDoorQK
set_option linter.unusedSimpArgs false
set_option linter.unusedVariables false
namespace Go.Proofs.YthjcgmjcpmodlaaDoor
open Go.PF Go.RowKit Go.Ord Go.Sort Go.Proofs

theorem rcT_one : Ty.One rcT := fun _ _ _ _ ⟨v, h, _, _, _, _, _, A, cap, hv, _⟩ u hu => by
  rw [h] at hu
  simp at hu
  rcases hu with rfl | rfl | rfl | rfl | rfl | rfl <;> first | rfl | (rw [hv]; rfl)
theorem rc_many {w0 w : World} {F : Nat → Prop} {v xv : Value} {ps1 : List (List Value × Rc)} {r : List Rc} {x : Rc} {n : Nat} (hb : Below w0.heap.size w0 w) (r1 : ∀ p ∈ ps1, rcT.rep F w0 p.1 p.2) (p1 : ps1.map (·.2) = r) (hok : RcOK F w0 xv x) (hn : n = r.length)
    (h : OwnS w 35 6 v (0 + n + 1) ([] ++ ps1.flatMap (·.1) ++ rcV x xv) ∧ ∀ g, v.ownBlock = some g → w0.heap.size ≤ g) (hs : n ≤ 1000000000000000000) : SR w v (r ++ [x]) := by
  subst hn
  have hlen1 : ps1.length = r.length := by have := congrArg List.length p1; simpa using this
  have h1 := OwnS.toSLn (T := rcT) (by decide) (n := 0 + r.length + 1) (ps := ps1 ++ [(rcV x xv, x)]) hb (fun q hq => (List.mem_append.1 hq).elim (r1 q) (fun h => by rw [List.mem_singleton] at h; subst h; exact ⟨_, rfl, hok.i1, hok.i2, hok.i3, hok.i4, hok.lb, hok.ct⟩)) (by
    rw [List.flatMap_append]
    have h18 := h.1
    rw [List.nil_append] at h18
    rw [← hlen1, Nat.add_comm 0] at h18 ⊢
    simpa [rcT, Nat.zero_add] using h18) (by simp; omega) (by simp; omega)
  rw [List.map_append, p1] at h1
  exact h1.now rcT_now

set_option maxRecDepth 20000 in
set_option maxHeartbeats 1000000 in
theorem more_law {w : World} {u v xv : Value} {l : List Sc} {r : List Rc} {x : Rc} {F : Nat → Prop} (lab : ByteArray) (hl : SS w u l) (hr : SR w v r) (hx : RcOK F w xv x) (hbig : r.length * 72 ≤ 140737488351232) (ht : Tabs w) :
    Gives Tryd.prog 5 #[u, v, .agg (rcV x xv).toArray, .string lab] w fun y w' => Below w.heap.size w w' ∧ y = .bool true := by
  obtain ⟨A, cap, rfl, _⟩ := hr.form
  obtain ⟨B, bcap, rfl, _⟩ := hl.form
  obtain ⟨X, xcap, rfl, _⟩ := hx.ct.form
  have hrmax := hr.len.2.2
  have hx := (⟨hx.i1, hx.i2, hx.i3, hx.i4, hx.lb, hx.ct.now strT_now⟩ : RcOK (fun k => k < w.heap.size) w (.slice X x.cont.length xcap) x)
  refine gives_of (vs := [.slice B l.length bcap, .slice A r.length cap, .agg (rcV x (.slice X x.cont.length xcap)).toArray, .string lab]) [(0, none, _), (1, none, _), (2, none, _), (3, none, _)] Tryd.func5 rfl Tryd.ntmps5 rfl rfl ?_
  refine CW.seq (CW.region ?_)
  refine TW.box rfl rfl rfl rfl ?_
  rintro g0 w0 f0
  refine TW.assign rfl rfl rfl ct ?_
  refine TW.nil (KW.pick [0, 1, 2, 3, 6, 8] [(0, _, _), (1, _, _), (2, _, _), (3, _, _), (6, _, _), (8, _, _)] rfl (KW.then_ ?_))
  refine CW.seq (CW.region ?_)
  have ht0 := ht.below f0.below
  refine TW.call0 (cap := []) rfl rfl en7 rfl Args.nil (head_c ht0) ?_
  rintro y w1 ⟨c1, rfl⟩
  have b1 := f0.below.step c1
  have hl1 := ss_step hl b1
  have hr1 := sr_step hr b1
  have hx1 := hx.step b1
  have hB1 := f0.blk.next c1
  obtain ⟨ps1, p1, r1, n1, a1⟩ := hr1.flat (T := rcT) (by decide)
  refine TW.assign rfl rfl rfl ct ?_
  refine TW.nil (KW.pick [0, 1, 2, 3, 6, 8, 9] [(0, _, _), (1, _, _), (2, _, _), (3, _, _), (6, _, _), (8, _, _), (9, _, _)] rfl (KW.then_ ?_))
  refine CW.seq (CW.drawO mixed (by kernel_rfl) ?_)
  refine OW.buildSlice0 35 rfl rfl eo23 ?_
  refine DW.move rfl rfl rfl ct ?_
  refine OW.append (m := r.length) (A := A) (ps1.flatMap (·.1)) rfl rfl go23 rfl (by kernel_rfl) rfl ct a1 n1 (one_flat rcT_one r1) (by omega) (by omega) ?_
  refine DW.loadS _ rfl rfl Tryd.underlying35 sz35 rfl ct (fun _ => (fun _ _ hv => hB1.fld hv)) rfl ?_
  refine OW.buildSlice 35 _ rfl rfl rfl eo23 (DArgs.cons rfl ct DArgs.nil) rfl rfl rfl rfl rfl ?_
  refine OW.appendR (rcV x (.slice X x.cont.length xcap)) rfl rfl go23 rfl (by kernel_rfl) rfl ct (fun u hu => by
    simp [rcV] at hu
    rcases hu with rfl | rfl | rfl | rfl | rfl | rfl <;> rfl) (by omega) (by omega) rfl ?_
  refine OW.assign rfl rfl rfl ct (rowE_strong _ _ _ _ _) (by kernel_rfl) ?_
  refine DW.nil (DW.finX [0, 1, 2, 3, 6, 8, 9] [(0, _, _), (1, _, _), (2, _, _), (3, _, _), (6, _, _), (8, _, _), (9, _, _)] rfl [10] rfl fun vs w2 c2 hs2 => KW.then_ ?_)
  obtain ⟨v10, rfl, h10⟩ := Sats.one hs2
  refine CW.seq (CW.seq (CW.region ?_))
  refine TW.move rfl rfl rfl ct ?_
  refine TW.move rfl rfl rfl ct ?_
  have hm2 : SR w2 v10 (r ++ [x]) := rc_many c2 r1 p1 hx1 rfl h10 (by omega)
  obtain ⟨M, mcap, rfl, _⟩ := hm2.form
  have b2 := b1.step c2
  have hl2 := ss_step hl1 c2
  have hr2 := sr_step hr1 c2
  have hx2 := hx1.step c2
  have hB2 := hB1.next c2
  have ht2 := ht.below b2
  refine TW.call0 (cap := []) rfl rfl en8 rfl (Args.cons rfl ct (Args.cons rfl ct Args.nil)) (rfew_c hl2 hm2) ?_
  rintro y w3 ⟨c3, b, rfl, hfew⟩
  have b3 := b2.step c3
  have hB3 := hB2.next c3
  refine TW.not rfl rfl rfl ct ?_
  refine TW.nil (KW.pick [0, 1, 2, 3, 6, 8, 9, 10, 27] [(0, _, _), (1, _, _), (2, _, _), (3, _, _), (6, _, _), (8, _, _), (9, _, _), (10, _, _), (27, _, _)] rfl (KW.then_ ?_))
  refine CW.cond rfl (fun hbad => ?_) (fun hgood => ?_)
  · refine CW.seq (CW.region ?_)
    refine TW.move rfl rfl rfl ct ?_
    refine TW.assign rfl rfl rfl ct ?_
    refine TW.nil (KW.pick [0, 1, 2, 3, 6, 8, 9, 10] [(0, _, _), (1, _, _), (2, _, _), (3, _, _), (6, _, _), (8, _, _), (9, _, _), (10, _, _)] rfl (KW.then_ ?_))
    refine CW.ret (KW.thenR ?_)
    refine ret1 Tryd.results5 rfl (⟨b3, rfl⟩)
  have hb : b = true := by cases b with | true => rfl | false => simp at hgood
  subst hb
  obtain ⟨hl30, hm30⟩ := hfew rfl
  have hr30 : r.length ≤ 29 := by simp at hm30; omega
  have hl3 := ss_step hl2 c3
  have hr3 := sr_step hr2 c3
  have hm3 := sr_step hm2 c3
  have hx3 := hx2.step c3
  refine CW.skip (KW.then_ (CW.seq (CW.region ?_)))
  refine TW.move rfl rfl rfl ct ?_
  refine TW.move rfl rfl rfl ct ?_
  refine TW.move rfl rfl rfl ct ?_
  refine TW.call0 (cap := []) rfl rfl en9 rfl (Args.cons rfl ct (Args.cons rfl ct (Args.cons rfl ct Args.nil))) (events_c hl3 hm3 (by omega) (ht2.below c3)) ?_
  rintro v4 w4 ⟨c4, h4⟩
  obtain ⟨E4, ec4, rfl, _⟩ := h4.form
  have b4 := b3.step c4
  have hB4 := hB3.next c4
  refine TW.assign rfl rfl rfl ct ?_
  refine TW.nil (KW.pick [0, 1, 2, 3, 6, 8, 9, 10, 11] [(0, _, _), (1, _, _), (2, _, _), (3, _, _), (6, _, _), (8, _, _), (9, _, _), (10, _, _), (11, _, _)] rfl (KW.then_ ?_))
  refine CW.seq (CW.seq (CW.region ?_))
  refine TW.move rfl rfl rfl ct ?_
  refine TW.lenSlice rfl rfl Tryd.underlying26 rfl ct ?_
  refine TW.geq rfl rfl rfl ct rfl ct ?_
  refine TW.nil (KW.pick [0, 1, 2, 3, 6, 8, 9, 10, 11, 35] [(0, _, _), (1, _, _), (2, _, _), (3, _, _), (6, _, _), (8, _, _), (9, _, _), (10, _, _), (11, _, _), (35, _, _)] rfl (KW.then_ ?_))
  refine CW.condP rfl (fun hfull => ?_) (fun hsome => ?_)
  · refine CW.seq (CW.region ?_)
    refine TW.move rfl rfl rfl ct ?_
    refine TW.assign rfl rfl rfl ct ?_
    refine TW.nil (KW.pick [0, 1, 2, 3, 6, 8, 9, 10, 11] [(0, _, _), (1, _, _), (2, _, _), (3, _, _), (6, _, _), (8, _, _), (9, _, _), (10, _, _), (11, _, _)] rfl (KW.then_ ?_))
    refine CW.ret (KW.thenR ?_)
    refine ret1 Tryd.results5 rfl (⟨b4, rfl⟩)
  have hlt14 : (evsOf l (r ++ [x]) lab).length < 14 := by omega
  have hevs := evs_all hlt14
  have hr4 := sr_step hr3 c4
  have hl4 := ss_step hl3 c4
  have hx4 := hx3.step c4
  refine CW.skip (KW.then_ (CW.seq (CW.region ?_)))
  refine TW.assign rfl rfl rfl ct ?_
  refine TW.nil (KW.pick [0, 1, 2, 3, 6, 8, 9, 10, 11, 12] [(0, _, _), (1, _, _), (2, _, _), (3, _, _), (6, _, _), (8, _, _), (9, _, _), (10, _, _), (11, _, _), (12, _, _)] rfl (KW.then_ ?_))
  refine CW.seq (CW.seq (CW.region ?_))
  refine TW.assign rfl rfl rfl ct ?_
  refine TW.nil (KW.pick [0, 1, 2, 3, 6, 8, 9, 10, 11, 12, 13] [(0, _, _), (1, _, _), (2, _, _), (3, _, _), (6, _, _), (8, _, _), (9, _, _), (10, _, _), (11, _, _), (12, _, _), (13, _, _)] rfl (KW.then_ ?_))
  refine CW.block ?_
  refine CW.loopS (fun z : Nat × Value × List (List Value × Ev) => [(0, none, .slice B l.length bcap), (1, none, .slice A r.length cap), (3, none, .string lab), (6, none, .pointer (some ⟨g0, 0, none⟩)), (9, none, .bool true), (11, none, .slice E4 (evsOf l (r ++ [x]) lab).length ec4), (12, none, z.2.1), (13, none, .int .i64 (z.1 : Int))])
    (fun z W => z.1 ≤ (evsOf l (r ++ [x]) lab).length ∧ Below w4.heap.size w4 W ∧ RowL evT W 31 w4.heap.size z.2.1 z.2.2 ∧ z.2.2.map (·.2) = ((evsOf l (r ++ [x]) lab).take z.1).filter (fun e => !decide ((r.length : Int) ∈ e.needs))) (fun z => (evsOf l (r ++ [x]) lab).length - z.1) (0, .slice none 0 0, []) [0, 1, 3, 6, 9, 11, 12, 13]
    ⟨Nat.zero_le _, Below.refl _ _, RowL.nil _ _ _ _, by simp⟩ rfl ?_
  rintro ⟨i, ov, ps⟩ W ⟨hi, hB, hR, hmap⟩
  dsimp only at hi hB hR hmap
  have hpl : ps.length ≤ i := by
    have h1 := congrArg List.length hmap
    rw [List.length_map] at h1
    have h2 := List.length_filter_le (fun e : Ev => !decide ((r.length : Int) ∈ e.needs)) ((evsOf l (r ++ [x]) lab).take i)
    rw [← h1, List.length_take] at h2
    omega
  have hEW := se_step h4 hB
  refine CW.seq (CW.seq (CW.region ?_))
  refine TW.move rfl rfl rfl ct ?_
  refine TW.move rfl rfl rfl ct ?_
  refine TW.lenSlice rfl rfl Tryd.underlying26 rfl ct ?_
  refine TW.lss rfl rfl rfl ct rfl ct ?_
  refine TW.nil (KW.pick [0, 1, 3, 6, 9, 11, 12, 13, 40] [(0, _, _), (1, _, _), (3, _, _), (6, _, _), (9, _, _), (11, _, _), (12, _, _), (13, _, _), (40, _, _)] rfl (KW.then_ ?_))
  refine CW.condP rfl (fun hlt => ?_) (fun hge => ?_)
  · obtain ⟨e, he, hem⟩ := getx (l := evsOf l (r ++ [x]) lab) (k := i) (by omega)
    obtain ⟨ad, rfl⟩ := hEW.addr (by omega)
    obtain ⟨N1, nc, hcells, hok⟩ := SE.ok h4 (ad := ad) he
    have hcl : ∀ {X : World}, Below w4.heap.size w4 X → ∀ j u, (evV e (.slice N1 e.needs.length nc))[j]? = some u → X.cell? ((ad.add ((i : Int).toNat * 4)).add j) = some u := fun hb j u hj => (hb.cell (block_lt_of_cell (hcells j u hj))).trans (hcells j u hj)
    refine CW.skip (KW.then_ (CW.seq (CW.block (CW.seq (CW.region ?_)))))
    refine TW.move rfl rfl rfl ct ?_
    refine TW.move rfl rfl rfl ct ?_
    refine TW.indexAddr rfl rfl Tryd.underlying26 sz31 rfl ct rfl ct (fun _ => by (try dsimp only); omega) ?_
    refine TW.loadS _ rfl rfl Tryd.underlying31 sz31 rfl ct (fun _ => (hcl hB)) rfl ?_
    refine TW.move rfl rfl rfl ct ?_
    refine TW.lenSlice rfl rfl Tryd.underlying23 rfl ct ?_
    refine TW.call0 (cap := []) rfl rfl en15 rfl (Args.cons rfl ct (Args.cons rfl ct Args.nil)) (needs_c (hok.below hB)) ?_
    rintro y5 w5 ⟨c5, rfl⟩
    have hB5 := hB.step c5
    have hR5 := hR.step c5
    have htk : (evsOf l (r ++ [x]) lab).take (i + 1) = (evsOf l (r ++ [x]) lab).take i ++ [e] := by rw [List.take_add_one, he]; rfl
    refine TW.not rfl rfl rfl ct ?_
    refine TW.nil (KW.pick [0, 1, 3, 6, 9, 11, 12, 13, 50] [(0, _, _), (1, _, _), (3, _, _), (6, _, _), (9, _, _), (11, _, _), (12, _, _), (13, _, _), (50, _, _)] rfl (KW.then_ ?_))
    refine CW.cond rfl (fun hnot => ?_) (fun hneed => ?_)
    · have hnn : (!decide ((r.length : Int) ∈ e.needs)) = true := hnot
      refine CW.region ?_
      refine TW.move rfl rfl rfl ct ?_
      refine TW.move rfl rfl rfl ct ?_
      refine TW.move rfl rfl rfl ct ?_
      refine TW.indexAddr rfl rfl Tryd.underlying26 sz31 rfl ct rfl ct (fun _ => by (try dsimp only); omega) ?_
      refine TW.loadS _ rfl rfl Tryd.underlying31 sz31 rfl ct (fun _ => (hcl hB5)) rfl ?_
      refine TW.buildSlice 31 _ rfl rfl rfl eo26 (Args.cons rfl ct Args.nil) rfl rfl rfl rfl rfl ?_
      rintro g6 w6 f6
      have hR6 := hR5.step f6.below
      have hB6 := hB5.step f6.below
      have hok6 := hok.below hB6
      have hrn : SL intT (RowF w6 ov) w6 (.slice N1 e.needs.length nc) e.needs := hok6.nd.wider fun k hk => ⟨by have := hB6.size; omega, fun e2 => by have := hR.2.2 k e2; omega⟩
      refine TW.append (evV e (.slice N1 e.needs.length nc)) rfl rfl go26 rfl hR6.1 rfl rfl (fun j u hj => ⟨_, rfl, f6.blk.fld hj⟩) (fun u hu => by simp [evV] at hu; rcases hu with rfl | rfl | rfl | rfl <;> rfl) (by omega) (by omega) ?_
      rintro ov' w7 hO7 hg7 hn7
      refine TW.assign rfl rfl rfl ct ?_
      refine TW.nil (KW.pick [0, 1, 3, 6, 9, 11, 12, 13] [(0, _, _), (1, _, _), (3, _, _), (6, _, _), (9, _, _), (11, _, _), (12, _, _), (13, _, _)] rfl (KW.blockN (KW.then_ ?_)))
      refine CW.region ?_
      refine TW.move rfl rfl rfl ct ?_
      refine TW.add rfl rfl rfl ct rfl ct (fun _ => by (try dsimp only); omega) ?_
      refine TW.assign rfl rfl rfl ct ?_
      refine TW.nil (KW.pick [0, 1, 3, 6, 9, 11, 12, 13] [(0, _, _), (1, _, _), (3, _, _), (6, _, _), (9, _, _), (11, _, _), (12, _, _), (13, _, _)] rfl ?_)
      have hR7 : RowL evT w7 31 w4.heap.size ov' (ps ++ [(evV e (.slice N1 e.needs.length nc), e)]) := hR6.app hO7 hg7 hn7 ⟨_, rfl, hok.i1, hok.i2, hok.i3, hrn⟩ hB6.size
      refine KW.round (i + 1, ov', ps ++ [(evV e (.slice N1 e.needs.length nc), e)]) [0, 1, 3, 6, 9, 11, 12, 13] rfl ⟨by show i + 1 ≤ _; omega, hB6.grown hg7 hB6.size hR.2.2, hR7, ?_⟩ (by show (evsOf l (r ++ [x]) lab).length - (i + 1) < (evsOf l (r ++ [x]) lab).length - i; omega)
      show List.map Prod.snd (ps ++ [_]) = ((evsOf l (r ++ [x]) lab).take (i + 1)).filter _
      rw [List.map_append, hmap, htk, List.filter_append]
      simp only [List.map_cons, List.map_nil]
      rw [List.filter_cons_of_pos (by exact hnn), List.filter_nil]
    · have hnn : (!decide ((r.length : Int) ∈ e.needs)) = false := hneed
      refine CW.skip (KW.blockN (KW.then_ (CW.region ?_)))
      refine TW.move rfl rfl rfl ct ?_
      refine TW.add rfl rfl rfl ct rfl ct (fun _ => by (try dsimp only); omega) ?_
      refine TW.assign rfl rfl rfl ct ?_
      refine TW.nil (KW.pick [0, 1, 3, 6, 9, 11, 12, 13] [(0, _, _), (1, _, _), (3, _, _), (6, _, _), (9, _, _), (11, _, _), (12, _, _), (13, _, _)] rfl ?_)
      refine KW.round (i + 1, ov, ps) [0, 1, 3, 6, 9, 11, 12, 13] rfl ⟨by show i + 1 ≤ _; omega, hB5, hR5, ?_⟩ (by show (evsOf l (r ++ [x]) lab).length - (i + 1) < (evsOf l (r ++ [x]) lab).length - i; omega)
      show ps.map (·.2) = ((evsOf l (r ++ [x]) lab).take (i + 1)).filter _
      rw [hmap, htk, List.filter_append, List.filter_cons_of_neg (by rw [hnn]; simp), List.filter_nil, List.append_nil]
  have hie : i = (evsOf l (r ++ [x]) lab).length := by omega
  subst hie
  rw [List.take_length] at hmap
  have hrest := hR.sl (by decide)
  have hfil : (evsOf l (r ++ [x]) lab).filter (fun e => !decide ((r.length : Int) ∈ e.needs)) = evsOf l r lab := by
    have h1 : (evsOf l (r ++ [x]) lab).filter (fun e => !decide ((r.length : Int) ∈ e.needs)) = canon (folL l r lab) := canon_of ((evs_srt _ _ _).filter _) fun e => by
      rw [List.mem_filter, hevs, mem_canon, mem_folL, mem_folL]
      exact Iff.trans (by simp) (fol_more (y := x))
    have h2 : (canon (folL l r lab)).length < 14 := by
      rw [← h1]
      exact Nat.lt_of_le_of_lt (List.length_filter_le _ _) hlt14
    rw [h1]
    exact (List.take_of_length_le (by omega)).symm
  have hpe : ps.map (·.2) = evsOf l r lab := hmap.trans hfil
  have hplen : ps.length = (evsOf l r lab).length := by rw [← hpe, List.length_map]
  rw [hpe] at hrest
  obtain ⟨O1, oc1, hov⟩ := hR.form
  subst hov
  rw [hplen] at hrest ⊢
  have hlW := ss_step hl4 hB
  have hrW := sr_step hr4 hB
  refine CW.exit (KW.thenX (KW.thenX (KW.blockX (KW.then_ (CW.seq (CW.seq (CW.region ?_)))))))
  refine TW.move rfl rfl rfl ct ?_
  refine TW.move rfl rfl rfl ct ?_
  refine TW.move rfl rfl rfl ct ?_
  refine TW.move rfl rfl rfl ct ?_
  refine TW.call0 (cap := []) rfl rfl en9 rfl (Args.cons rfl ct (Args.cons rfl ct (Args.cons rfl ct Args.nil))) (events_c hlW hrW (by omega) ((ht2.below c3).below (c4.step hB))) ?_
  rintro v8 w8 ⟨c8, h8⟩
  refine TW.call0 (cap := []) rfl rfl en12 rfl (Args.cons rfl ct (Args.cons rfl ct Args.nil)) (rsame_c (se_step hrest c8) h8 (evs_needs (by omega)) (evs_needs (by omega))) ?_
  rintro v9 w9 ⟨c9, rfl⟩
  rw [dec_pos rfl]
  have c49 := (hB.step c8).step c9
  have b9 := b4.step c49
  have hB9 := hB4.next c49
  have hr9 := sr_step hr4 c49
  have hx9 := hx4.step c49
  refine TW.not rfl rfl rfl ct ?_
  refine TW.nil (KW.pick [0, 1, 3, 6, 9, 11, 12, 13, 64] [(0, _, _), (1, _, _), (3, _, _), (6, _, _), (9, _, _), (11, _, _), (12, _, _), (13, _, _), (64, _, _)] rfl (KW.then_ ?_))
  refine CW.cond rfl (fun hb1 => ?_) (fun hb2 => ?_)
  · exact absurd hb1 (by simp)
  refine CW.skip (KW.then_ (CW.seq (CW.region ?_)))
  refine TW.fieldAddr rfl rfl fo35_4 rfl ct ?_
  refine TW.load rfl rfl one9 rfl ct (fun _ => hB9.fld rfl) ?_
  refine TW.move rfl rfl rfl ct ?_
  refine TW.eqlS rfl rfl rfl ct rfl ct ?_
  refine TW.assign rfl rfl rfl ct ?_
  refine TW.nil (KW.pick [0, 1, 3, 6, 9, 11, 12, 13, 14] [(0, _, _), (1, _, _), (3, _, _), (6, _, _), (9, _, _), (11, _, _), (12, _, _), (13, _, _), (14, _, _)] rfl (KW.then_ ?_))
  refine CW.seq (CW.seq (CW.region ?_))
  refine TW.assign rfl rfl rfl ct ?_
  refine TW.nil (KW.pick [0, 1, 3, 6, 9, 11, 12, 13, 14, 15] [(0, _, _), (1, _, _), (3, _, _), (6, _, _), (9, _, _), (11, _, _), (12, _, _), (13, _, _), (14, _, _), (15, _, _)] rfl (KW.then_ ?_))
  refine CW.block ?_
  rw [beqL]
  have hct9 := hx9.ct
  have hxl := hct9.len.2.2
  refine CW.loopS (fun z : Nat × Bool => [(0, none, .slice B l.length bcap), (1, none, .slice A r.length cap), (3, none, .string lab), (6, none, .pointer (some ⟨g0, 0, none⟩)), (9, none, .bool true), (11, none, .slice E4 (evsOf l (r ++ [x]) lab).length ec4), (12, none, .slice O1 (evsOf l r lab).length oc1), (14, none, .bool z.2), (15, none, .int .i64 (z.1 : Int))])
    (fun z W' => z.1 ≤ x.cont.length ∧ W' = w9 ∧ (z.2 = true ↔ x.label = lab ∨ lab ∈ x.cont.take z.1)) (fun z => x.cont.length - z.1) (0, decide (x.label = lab)) [0, 1, 3, 6, 9, 11, 12, 14, 15]
    ⟨Nat.zero_le _, rfl, by simp⟩ rfl ?_
  rintro ⟨j, q⟩ W9 ⟨hj, rfl, hq⟩
  dsimp only at hj hq
  refine CW.seq (CW.seq (CW.region ?_))
  refine TW.move rfl rfl rfl ct ?_
  refine TW.fieldAddr rfl rfl fo35_5 rfl ct ?_
  refine TW.load rfl rfl one33 rfl ct (fun _ => hB9.fld rfl) ?_
  refine TW.lenSlice rfl rfl Tryd.underlying33 rfl ct ?_
  refine TW.lss rfl rfl rfl ct rfl ct ?_
  refine TW.nil (KW.pick [0, 1, 3, 6, 9, 11, 12, 14, 15, 73] [(0, _, _), (1, _, _), (3, _, _), (6, _, _), (9, _, _), (11, _, _), (12, _, _), (14, _, _), (15, _, _), (73, _, _)] rfl (KW.then_ ?_))
  refine CW.condP rfl (fun hlt1 => ?_) (fun hge1 => ?_)
  · obtain ⟨c, hc, hcm⟩ := getx (l := x.cont) (k := j) (by omega)
    obtain ⟨xd, rfl⟩ := hct9.addr (by omega)
    refine CW.skip (KW.then_ (CW.seq (CW.block (CW.region ?_))))
    refine TW.move rfl rfl rfl ct ?_
    refine TW.move rfl rfl rfl ct ?_
    refine TW.fieldAddr rfl rfl fo35_5 rfl ct ?_
    refine TW.load rfl rfl one33 rfl id (fun _ => hB9.fld rfl) ?_
    refine TW.move rfl rfl rfl ct ?_
    refine TW.indexAddr rfl rfl Tryd.underlying33 sz9 rfl id rfl id (fun h => by (try dsimp only); first | omega | (simp [Cnd] at h; omega)) ?_
    refine TW.load rfl rfl one9 rfl id (fun _ => hct9.getT hc) ?_
    refine TW.move rfl rfl rfl ct ?_
    refine TW.eqlS rfl rfl rfl id rfl id ?_
    refine TW.pickOr rfl rfl rfl ct rfl pOr0 ?_
    refine TW.assign rfl rfl rfl ct ?_
    refine TW.nil (KW.pick [0, 1, 3, 6, 9, 11, 12, 14, 15] [(0, _, _), (1, _, _), (3, _, _), (6, _, _), (9, _, _), (11, _, _), (12, _, _), (14, _, _), (15, _, _)] rfl (KW.blockN (KW.then_ ?_)))
    refine CW.region ?_
    refine TW.move rfl rfl rfl ct ?_
    refine TW.add rfl rfl rfl ct rfl ct (fun _ => by (try dsimp only); omega) ?_
    refine TW.assign rfl rfl rfl ct ?_
    refine TW.nil (KW.pick [0, 1, 3, 6, 9, 11, 12, 14, 15] [(0, _, _), (1, _, _), (3, _, _), (6, _, _), (9, _, _), (11, _, _), (12, _, _), (14, _, _), (15, _, _)] rfl ?_)
    rw [beqL]
    refine KW.round (j + 1, q || decide (c = lab)) [0, 1, 3, 6, 9, 11, 12, 14, 15] ?_ ⟨by show j + 1 ≤ x.cont.length; omega, rfl, ?_⟩ (by show x.cont.length - (j + 1) < x.cont.length - j; omega)
    · cases q <;> rfl
    · show (q || decide (c = lab)) = true ↔ _ ∨ lab ∈ x.cont.take (j + 1)
      rw [List.take_add_one, hc, Bool.or_eq_true, hq, decide_eq_true_eq, List.mem_append]
      simp only [Option.toList_some, List.mem_singleton, or_assoc]
      exact ⟨fun h => h.imp id fun h => h.imp id Eq.symm, fun h => h.imp id fun h => h.imp id Eq.symm⟩
  have hje : j = x.cont.length := by omega
  subst hje
  rw [List.take_length] at hq
  refine CW.exit (KW.thenX (KW.thenX (KW.blockX (KW.then_ (CW.seq (CW.seq (CW.region ?_)))))))
  refine TW.assign rfl rfl rfl ct ?_
  refine TW.nil (KW.pick [0, 1, 3, 6, 9, 11, 12, 14, 15, 16] [(0, _, _), (1, _, _), (3, _, _), (6, _, _), (9, _, _), (11, _, _), (12, _, _), (14, _, _), (15, _, _), (16, _, _)] rfl (KW.then_ ?_))
  refine CW.block ?_
  refine CW.loopS (fun z : Nat × Bool => [(0, none, .slice B l.length bcap), (1, none, .slice A r.length cap), (3, none, .string lab), (6, none, .pointer (some ⟨g0, 0, none⟩)), (9, none, .bool true), (11, none, .slice E4 (evsOf l (r ++ [x]) lab).length ec4), (12, none, .slice O1 (evsOf l r lab).length oc1), (14, none, .bool z.2), (16, none, .int .i64 (z.1 : Int))])
    (fun z W' => z.1 ≤ r.length ∧ W' = W9 ∧ (z.2 = true ↔ (x.label = lab ∨ lab ∈ x.cont) ∨ ∃ y ∈ r.take z.1, y.kind = 2)) (fun z => r.length - z.1) (0, q) [0, 1, 3, 6, 9, 11, 12, 14, 16]
    ⟨Nat.zero_le _, rfl, by rw [hq]; simp⟩ rfl ?_
  rintro ⟨k, q2⟩ W9 ⟨hk, rfl, hq2⟩
  dsimp only at hk hq2
  refine CW.seq (CW.seq (CW.region ?_))
  refine TW.move rfl rfl rfl ct ?_
  refine TW.move rfl rfl rfl ct ?_
  refine TW.lenSlice rfl rfl Tryd.underlying23 rfl ct ?_
  refine TW.lss rfl rfl rfl ct rfl ct ?_
  refine TW.nil (KW.pick [0, 1, 3, 6, 9, 11, 12, 14, 16, 89] [(0, _, _), (1, _, _), (3, _, _), (6, _, _), (9, _, _), (11, _, _), (12, _, _), (14, _, _), (16, _, _), (89, _, _)] rfl (KW.then_ ?_))
  refine CW.condP rfl (fun hlt2 => ?_) (fun hge2 => ?_)
  · obtain ⟨y, hy, hym⟩ := getx (l := r) (k := k) (by omega)
    obtain ⟨yd, rfl⟩ := hr9.addr (by omega)
    obtain ⟨yv, hyc, hyok⟩ := SR.get hr9 hy
    refine CW.skip (KW.then_ (CW.seq (CW.block (CW.region ?_))))
    refine TW.move rfl rfl rfl ct ?_
    refine TW.move rfl rfl rfl ct ?_
    refine TW.move rfl rfl rfl ct ?_
    refine TW.move rfl rfl rfl ct ?_
    refine TW.indexAddr rfl rfl Tryd.underlying23 sz35 rfl id rfl id (fun h => by (try dsimp only); first | omega | (simp [Cnd] at h; omega)) ?_
    refine TW.fieldAddr rfl rfl fo35_2 rfl id ?_
    refine TW.load rfl rfl one3 rfl id (fun _ => hyc 2 _ rfl) ?_
    refine TW.eql rfl rfl rfl id rfl ct ?_
    refine TW.pickOr rfl rfl rfl ct rfl pOr0 ?_
    refine TW.assign rfl rfl rfl ct ?_
    refine TW.nil (KW.pick [0, 1, 3, 6, 9, 11, 12, 14, 16] [(0, _, _), (1, _, _), (3, _, _), (6, _, _), (9, _, _), (11, _, _), (12, _, _), (14, _, _), (16, _, _)] rfl (KW.blockN (KW.then_ ?_)))
    refine CW.region ?_
    refine TW.move rfl rfl rfl ct ?_
    refine TW.add rfl rfl rfl ct rfl ct (fun _ => by (try dsimp only); omega) ?_
    refine TW.assign rfl rfl rfl ct ?_
    refine TW.nil (KW.pick [0, 1, 3, 6, 9, 11, 12, 14, 16] [(0, _, _), (1, _, _), (3, _, _), (6, _, _), (9, _, _), (11, _, _), (12, _, _), (14, _, _), (16, _, _)] rfl ?_)
    refine KW.round (k + 1, q2 || decide (y.kind = 2)) [0, 1, 3, 6, 9, 11, 12, 14, 16] ?_ ⟨by show k + 1 ≤ r.length; omega, rfl, ?_⟩ (by show r.length - (k + 1) < r.length - k; omega)
    · cases q2 <;> rfl
    · show (q2 || decide (y.kind = 2)) = true ↔ _ ∨ ∃ z ∈ r.take (k + 1), z.kind = 2
      rw [List.take_add_one, hy, Bool.or_eq_true, hq2, decide_eq_true_eq]
      simp only [Option.toList_some, List.mem_append, List.mem_singleton]
      constructor
      · rintro ((h | ⟨z, h1, h2⟩) | h)
        · exact .inl h
        · exact .inr ⟨z, .inl h1, h2⟩
        · exact .inr ⟨y, .inr rfl, h⟩
      · rintro (h | ⟨z, h1 | rfl, h2⟩)
        · exact .inl (.inl h)
        · exact .inl (.inr ⟨z, h1, h2⟩)
        · exact .inr h2
  have hke : k = r.length := by omega
  subst hke
  rw [List.take_length] at hq2
  refine CW.exit (KW.thenX (KW.thenX (KW.blockX (KW.then_ (CW.seq (CW.region ?_))))))
  refine TW.move rfl rfl rfl ct ?_
  refine TW.move rfl rfl rfl ct ?_
  refine TW.move rfl rfl rfl ct ?_
  refine TW.move rfl rfl rfl id ?_
  refine TW.move rfl rfl rfl ct ?_
  refine TW.lenSlice rfl rfl Tryd.underlying26 rfl id ?_
  refine TW.move rfl rfl rfl ct ?_
  refine TW.lenSlice rfl rfl Tryd.underlying26 rfl id ?_
  refine TW.eql rfl rfl rfl id rfl id ?_
  refine TW.pickOr rfl rfl rfl id rfl pOr1 ?_
  refine TW.pickAnd rfl rfl rfl ct rfl pAnd0 ?_
  refine TW.assign rfl rfl rfl ct ?_
  refine TW.nil (KW.pick [0, 1, 3, 6, 8, 9, 11, 12, 14, 16] [(0, _, _), (1, _, _), (3, _, _), (6, _, _), (8, _, _), (9, _, _), (11, _, _), (12, _, _), (14, _, _), (16, _, _)] rfl (KW.then_ ?_))
  refine CW.ret ?_
  refine ret1 Tryd.results5 rfl (⟨b9, ?_⟩)
  cases q2 with
  | true => rfl
  | false =>
    have hn : ¬ ((x.label = lab ∨ lab ∈ x.cont) ∨ ∃ y ∈ r, y.kind = 2) := fun h => Bool.noConfusion (hq2.2 h)
    have hall : (evsOf l (r ++ [x]) lab).filter (fun e => !decide ((r.length : Int) ∈ e.needs)) = evsOf l (r ++ [x]) lab := List.filter_eq_self.2 fun e he => by
      have := fol_other (mem_evs he) (fun h => hn (.inl (.inl h))) (fun h => hn (.inl (.inr h))) (fun z hz h => hn (.inr ⟨z, hz, h⟩))
      rw [decide_eq_false this]
      rfl
    rw [← hfil, hall]
    simp
end Go.Proofs.YthjcgmjcpmodlaaDoor
