import Derived.Test.YthjcgmjcpmodlaaDoorQK
set_option linter.unusedSimpArgs false
set_option linter.unusedVariables false
namespace Go.Proofs.YthjcgmjcpmodlaaDoor
open Go.PF Go.RowKit Go.Ord Go.Sort Go.Proofs

theorem rev_inj (n : Nat) {a b : Ev} (h : revEv n a = revEv n b) : a = b := by rw [← revEv_revEv n a, ← revEv_revEv n b, h]
theorem fol_back (l : List Sc) (r : List Rc) (lab : ByteArray) : canon (folL l r.reverse lab) = canon ((canon (folL l r lab)).map (revEv r.length)) := canon_ext fun e => by
  rw [mem_folL, fol_rev, List.mem_map]
  constructor
  · rintro ⟨f, hf, rfl⟩
    exact ⟨f, mem_canon.2 (mem_folL.2 hf), rfl⟩
  · rintro ⟨f, hf, rfl⟩
    exact ⟨f, mem_folL.1 (mem_canon.1 hf), rfl⟩
theorem back_len (l : List Sc) (r : List Rc) (lab : ByteArray) : (canon (folL l r.reverse lab)).length = (canon (folL l r lab)).length := by
  rw [fol_back, canon_len, List.length_map]
  rw [List.nodup_iff_pairwise_ne, List.pairwise_map]
  exact (List.nodup_iff_pairwise_ne.1 (canon_nodup _)).imp fun h e => h (rev_inj _ e)

set_option maxRecDepth 20000 in
set_option maxHeartbeats 1000000 in
theorem order_law {w : World} {u v : Value} {l : List Sc} {r : List Rc} (lab : ByteArray) (hl : SS w u l) (hr : SR w v r) (ht : Tabs w) :
    Gives Tryd.prog 4 #[u, v, .string lab] w fun y w' => Below w.heap.size w w' ∧ y = .bool true := by
  obtain ⟨A, cap, rfl, _⟩ := hr.form
  obtain ⟨B, bcap, rfl, _⟩ := hl.form
  refine gives_of (vs := [.slice B l.length bcap, .slice A r.length cap, .string lab]) [(0, none, _), (1, none, _), (2, none, _)] Tryd.func4 rfl Tryd.ntmps4 rfl rfl ?_
  refine CW.seq (CW.region ?_)
  refine TW.assign rfl rfl rfl ct ?_
  refine TW.nil (KW.pick [0, 1, 2, 6] [(0, _, _), (1, _, _), (2, _, _), (6, _, _)] rfl (KW.then_ ?_))
  refine CW.seq (CW.region ?_)
  refine TW.call0 (cap := []) rfl rfl en7 rfl Args.nil (head_c ht) ?_
  rintro y w1 ⟨b1, rfl⟩
  have hl1 := ss_step hl b1
  have hr1 := sr_step hr b1
  refine TW.assign rfl rfl rfl ct ?_
  refine TW.nil (KW.pick [0, 1, 2, 6, 7] [(0, _, _), (1, _, _), (2, _, _), (6, _, _), (7, _, _)] rfl (KW.then_ ?_))
  refine CW.seq (CW.seq (CW.region ?_))
  refine TW.move rfl rfl rfl ct ?_
  refine TW.move rfl rfl rfl ct ?_
  refine TW.call0 (cap := []) rfl rfl en8 rfl (Args.cons rfl ct (Args.cons rfl ct Args.nil)) (rfew_c hl1 hr1) ?_
  rintro y w3 ⟨c3, b, rfl, hfew⟩
  have b3 := b1.step c3
  refine TW.not rfl rfl rfl ct ?_
  refine TW.nil (KW.pick [0, 1, 2, 6, 7, 16] [(0, _, _), (1, _, _), (2, _, _), (6, _, _), (7, _, _), (16, _, _)] rfl (KW.then_ ?_))
  refine CW.cond rfl (fun hbad => ?_) (fun hgood => ?_)
  · refine CW.seq (CW.region ?_)
    refine TW.move rfl rfl rfl ct ?_
    refine TW.assign rfl rfl rfl ct ?_
    refine TW.nil (KW.pick [0, 1, 2, 6, 7] [(0, _, _), (1, _, _), (2, _, _), (6, _, _), (7, _, _)] rfl (KW.then_ ?_))
    refine CW.ret (KW.thenR ?_)
    refine ret1 Tryd.results4 rfl (⟨b3, rfl⟩)
  have hb : b = true := by cases b with | true => rfl | false => simp at hgood
  subst hb
  obtain ⟨hl30, hr30⟩ := hfew rfl
  have hl3 := ss_step hl1 c3
  have hr3 := sr_step hr1 c3
  have ht3 := ht.below b3
  refine CW.skip (KW.then_ (CW.seq (CW.region ?_)))
  refine TW.assign rfl rfl rfl ct ?_
  refine TW.nil (KW.pick [0, 1, 2, 6, 7, 8] [(0, _, _), (1, _, _), (2, _, _), (6, _, _), (7, _, _), (8, _, _)] rfl (KW.then_ ?_))
  refine CW.seq (CW.seq (CW.region ?_))
  refine TW.move rfl rfl rfl ct ?_
  refine TW.lenSlice rfl rfl Tryd.underlying23 rfl ct ?_
  refine TW.sub rfl rfl rfl ct rfl ct (fun _ => by (try dsimp only); omega) ?_
  refine TW.assign rfl rfl rfl ct ?_
  refine TW.nil (KW.pick [0, 1, 2, 6, 7, 8, 9] [(0, _, _), (1, _, _), (2, _, _), (6, _, _), (7, _, _), (8, _, _), (9, _, _)] rfl (KW.then_ ?_))
  refine CW.block ?_
  refine CW.loopS (fun z : Nat × Value × List (List Value × Rc) => [(0, none, .slice B l.length bcap), (1, none, .slice A r.length cap), (2, none, .string lab), (7, none, .bool true), (8, none, z.2.1), (9, none, .int .i64 ((z.1 : Int) - 1))])
    (fun z W => z.1 ≤ r.length ∧ Below w3.heap.size w3 W ∧ RowL rcT W 35 w3.heap.size z.2.1 z.2.2 ∧ z.2.2.map (·.2) = (r.drop z.1).reverse) (fun z => z.1) (r.length, .slice none 0 0, []) [0, 1, 2, 7, 8, 9]
    ⟨Nat.le_refl _, Below.refl _ _, RowL.nil _ _ _ _, by simp⟩ rfl ?_
  rintro ⟨i, ov, ps⟩ W ⟨hi, hB, hR, hmap⟩
  dsimp only at hi hB hR hmap
  have hpl : ps.length = r.length - i := by
    have h1 := congrArg List.length hmap
    simpa using h1
  have hrW := sr_step hr3 hB
  refine CW.seq (CW.seq (CW.region ?_))
  refine TW.move rfl rfl rfl ct ?_
  refine TW.geq rfl rfl rfl ct rfl ct ?_
  refine TW.nil (KW.pick [0, 1, 2, 7, 8, 9, 22] [(0, _, _), (1, _, _), (2, _, _), (7, _, _), (8, _, _), (9, _, _), (22, _, _)] rfl (KW.then_ ?_))
  refine CW.condP rfl (fun hlt => ?_) (fun hge => ?_)
  · have hi0 : 0 < i := by simp at hlt; omega
    obtain ⟨x, hx, hxm⟩ := getx (l := r) (k := i - 1) (by omega)
    obtain ⟨ad, rfl⟩ := hrW.addr (by omega)
    obtain ⟨xv, hcells, hok⟩ := SR.get hr3 (ad := ad) hx
    obtain ⟨X, xcap, rfl, _⟩ := hok.ct.form
    have hi1 : ((i - 1 : Nat) : Int) = (i : Int) - 1 := by omega
    rw [hi1] at hcells
    have hcl : ∀ j u, (rcV x (.slice X x.cont.length xcap))[j]? = some u → W.cell? ((ad.add (((i : Int) - 1).toNat * 6)).add j) = some u := fun j u hj => (hB.cell (block_lt_of_cell (hcells j u hj))).trans (hcells j u hj)
    refine CW.skip (KW.then_ (CW.seq (CW.block (CW.region ?_))))
    refine TW.move rfl rfl rfl ct ?_
    refine TW.move rfl rfl rfl ct ?_
    refine TW.move rfl rfl rfl ct ?_
    refine TW.indexAddr rfl rfl Tryd.underlying23 sz35 rfl ct rfl ct (fun _ => by (try dsimp only); omega) ?_
    refine TW.loadS _ rfl rfl Tryd.underlying35 sz35 rfl ct (fun _ => hcl) rfl ?_
    refine TW.buildSlice 35 _ rfl rfl rfl eo23 (Args.cons rfl ct Args.nil) rfl rfl rfl rfl rfl ?_
    rintro g6 w6 f6
    have hR6 := hR.step f6.below
    have hB6 := hB.step f6.below
    have hok6 := hok.below hB6
    have hrn : SL strT (RowF w6 ov) w6 (.slice X x.cont.length xcap) x.cont := hok6.ct.wider fun k hk => ⟨by have := hB6.size; omega, fun e2 => by have := hR.2.2 k e2; omega⟩
    refine TW.append (rcV x (.slice X x.cont.length xcap)) rfl rfl go23 rfl hR6.1 rfl rfl (fun j u hj => ⟨_, rfl, f6.blk.fld hj⟩) (fun u hu => by simp [rcV] at hu; rcases hu with rfl | rfl | rfl | rfl | rfl | rfl <;> rfl) (by omega) (by omega) ?_
    rintro ov' w7 hO7 hg7 hn7
    refine TW.assign rfl rfl rfl ct ?_
    refine TW.nil (KW.pick [0, 1, 2, 7, 8, 9] [(0, _, _), (1, _, _), (2, _, _), (7, _, _), (8, _, _), (9, _, _)] rfl (KW.blockN (KW.then_ ?_)))
    refine CW.region ?_
    refine TW.move rfl rfl rfl ct ?_
    refine TW.sub rfl rfl rfl ct rfl ct (fun _ => by (try dsimp only); omega) ?_
    refine TW.assign rfl rfl rfl ct ?_
    refine TW.nil (KW.pick [0, 1, 2, 7, 8, 9] [(0, _, _), (1, _, _), (2, _, _), (7, _, _), (8, _, _), (9, _, _)] rfl ?_)
    have hR7 : RowL rcT w7 35 w3.heap.size ov' (ps ++ [(rcV x (.slice X x.cont.length xcap), x)]) := hR6.app hO7 hg7 hn7 ⟨_, rfl, hok.i1, hok.i2, hok.i3, hok.i4, hok.lb, hrn⟩ hB6.size
    refine KW.round (i - 1, ov', ps ++ [(rcV x (.slice X x.cont.length xcap), x)]) [0, 1, 2, 7, 8, 9] ?_ ⟨by show i - 1 ≤ _; omega, hB6.grown hg7 hB6.size hR.2.2, hR7, ?_⟩ (by show i - 1 < i; omega)
    · show _ = some [(0, none, _), (1, none, _), (2, none, _), (7, none, _), (8, none, _), (9, none, Value.int .i64 (((i - 1 : Nat) : Int) - 1))]
      rw [hi1]
      rfl
    · show List.map Prod.snd (ps ++ [_]) = (r.drop (i - 1)).reverse
      obtain ⟨h3, h4⟩ := List.getElem?_eq_some_iff.1 hx
      rw [List.map_append, hmap, List.drop_eq_getElem_cons h3, h4, show i - 1 + 1 = i by omega]
      simp
  have hi0 : i = 0 := by simp at hge; omega
  subst hi0
  rw [List.drop_zero] at hmap
  have hback := hR.sl (by decide)
  rw [hmap] at hback
  have hlW := ss_step hl3 hB
  refine CW.exit (KW.thenX (KW.thenX (KW.blockX (KW.then_ (CW.seq (CW.region ?_))))))
  refine TW.move rfl rfl rfl ct ?_
  refine TW.move rfl rfl rfl ct ?_
  refine TW.move rfl rfl rfl ct ?_
  refine TW.call0 (cap := []) rfl rfl en9 rfl (Args.cons rfl ct (Args.cons rfl ct (Args.cons rfl ct Args.nil))) (events_c hlW hrW (by omega) (ht3.below hB)) ?_
  rintro v8 w8 ⟨c8, h8⟩
  obtain ⟨E8, ec8, rfl, _⟩ := h8.form
  refine TW.assign rfl rfl rfl ct ?_
  refine TW.nil (KW.pick [0, 1, 2, 7, 8, 9, 10] [(0, _, _), (1, _, _), (2, _, _), (7, _, _), (8, _, _), (9, _, _), (10, _, _)] rfl (KW.then_ ?_))
  refine CW.seq (CW.region ?_)
  refine TW.move rfl rfl rfl ct ?_
  refine TW.move rfl rfl rfl ct ?_
  refine TW.move rfl rfl rfl ct ?_
  refine TW.call0 (cap := []) rfl rfl en9 rfl (Args.cons rfl ct (Args.cons rfl ct (Args.cons rfl ct Args.nil))) (events_c (ss_step hlW c8) (sr_step hback c8) (by simp; omega) ((ht3.below hB).below c8)) ?_
  rintro v9 w9 ⟨c9, h9⟩
  obtain ⟨E9, ec9, rfl, _⟩ := h9.form
  have c39 := (hB.step c8).step c9
  have b9 := b3.step c39
  have hlen : (evsOf l r.reverse lab).length = (evsOf l r lab).length := by
    unfold evsOf
    rw [List.length_take, List.length_take, back_len]
  by_cases h14 : (evsOf l r lab).length < 14
  · have h14' : ((evsOf l r lab).length : Int) < 14 := by omega
    refine TW.assign rfl rfl rfl ct ?_
    refine TW.nil (KW.pick [0, 1, 2, 7, 8, 9, 10, 11] [(0, _, _), (1, _, _), (2, _, _), (7, _, _), (8, _, _), (9, _, _), (10, _, _), (11, _, _)] rfl (KW.then_ ?_))
    refine CW.seq (CW.region ?_)
    refine TW.move rfl rfl rfl ct ?_
    refine TW.move rfl rfl rfl ct ?_
    refine TW.known rfl (by simp [Cnd, hlen, h14']) ?_
    refine TW.move rfl rfl rfl ct ?_
    refine TW.known rfl (by simp [Cnd, hlen, h14']) ?_
    refine TW.lenSlice rfl rfl Tryd.underlying26 rfl ct ?_
    refine TW.known rfl (by simp [Cnd, hlen, h14']) ?_
    refine TW.move rfl rfl rfl ct ?_
    refine TW.known rfl (by simp [Cnd, hlen, h14']) ?_
    refine TW.lenSlice rfl rfl Tryd.underlying26 rfl ct ?_
    refine TW.known rfl (by simp [Cnd, hlen, h14']) ?_
    refine TW.eql rfl rfl rfl ct rfl ct ?_
    refine TW.pickAnd rfl rfl rfl ct rfl pT ?_
    refine TW.move rfl rfl rfl ct ?_
    refine TW.known rfl (by simp [Cnd, hlen, h14']) ?_
    refine TW.move rfl rfl rfl ct ?_
    refine TW.known rfl (by simp [Cnd, hlen, h14']) ?_
    refine TW.lenSlice rfl rfl Tryd.underlying26 rfl ct ?_
    refine TW.known rfl (by simp [Cnd, hlen, h14']) ?_
    refine TW.geq rfl rfl rfl ct rfl ct ?_
    refine TW.known rfl (by simp [Cnd, hlen, h14']) ?_
    refine TW.move rfl rfl rfl ct ?_
    refine TW.known rfl (by simp [Cnd, hlen, h14']) ?_
    refine TW.move rfl rfl rfl ct ?_
    refine TW.known rfl (by simp [Cnd, hlen, h14']) ?_
    refine TW.move rfl rfl rfl ct ?_
    refine TW.known rfl (by simp [Cnd, hlen, h14']) ?_
    refine TW.move rfl rfl rfl ct ?_
    refine TW.known rfl (by simp [Cnd, hlen, h14']) ?_
    refine TW.lenSlice rfl rfl Tryd.underlying23 rfl ct ?_
    refine TW.known rfl (by simp [Cnd, hlen, h14']) ?_
    have hall := evs_all h14
    have hall2 := evs_all (l := l) (r := r.reverse) (lab := lab) (by omega)
    have hfd : ∀ e ∈ evsOf l r lab, (∀ k ∈ e.needs, 0 ≤ k ∧ k < (r.length : Int)) ∧ e.needs.length ≤ 1000 := fun e he => ⟨fun k hk => by
      obtain ⟨j, y, rfl, hj, _⟩ := (mem_evs he).facts.2.1 k hk
      have := (List.getElem?_eq_some_iff.1 hj).1
      omega, evs_needs (by omega) e he⟩
    refine TW.call0 (cap := []) rfl rfl en14 rfl (Args.cons rfl ct (Args.cons rfl ct Args.nil)) (renum_c (se_step h8 c9) (by omega) (by omega) hfd) ?_
    rintro v10 w10 ⟨c10, h10⟩
    refine TW.known rfl (by simp [Cnd, hlen, h14']) ?_
    have heq : evsOf l r.reverse lab = canon ((evsOf l r lab).map (revEv r.length)) := by rw [hall2, hall, fol_back]
    rw [← heq] at h10
    refine TW.call0 (cap := []) rfl rfl en12 rfl (Args.cons rfl ct (Args.cons rfl ct Args.nil)) (rsame_c (se_step h9 c10) h10 (evs_needs (by omega)) (evs_needs (by omega))) ?_
    rintro v11 w11 ⟨c11, rfl⟩
    rw [dec_pos rfl]
    refine TW.known rfl (by simp [Cnd, hlen, h14']) ?_
    refine TW.pickOr rfl rfl rfl ct rfl pT ?_
    refine TW.pickAnd rfl rfl rfl ct rfl pT ?_
    refine TW.assign rfl rfl rfl ct ?_
    refine TW.nil (KW.pick [0, 1, 2, 6, 7, 8, 9, 10, 11] [(0, _, _), (1, _, _), (2, _, _), (6, _, _), (7, _, _), (8, _, _), (9, _, _), (10, _, _), (11, _, _)] rfl (KW.then_ ?_))
    refine CW.ret ?_
    refine ret1 Tryd.results4 rfl (⟨(b9.step c10).step c11, by simp [hlen]⟩)
  · have h14' : ¬ ((evsOf l r lab).length : Int) < 14 := by omega
    refine TW.assign rfl rfl rfl ct ?_
    refine TW.nil (KW.pick [0, 1, 2, 7, 8, 9, 10, 11] [(0, _, _), (1, _, _), (2, _, _), (7, _, _), (8, _, _), (9, _, _), (10, _, _), (11, _, _)] rfl (KW.then_ ?_))
    refine CW.seq (CW.region ?_)
    refine TW.move rfl rfl rfl ct ?_
    refine TW.move rfl rfl rfl ct ?_
    refine TW.known rfl (by simp [Cnd, hlen]) ?_
    refine TW.move rfl rfl rfl ct ?_
    refine TW.known rfl (by simp [Cnd, hlen]) ?_
    refine TW.lenSlice rfl rfl Tryd.underlying26 rfl ct ?_
    refine TW.known rfl (by simp [Cnd, hlen]) ?_
    refine TW.move rfl rfl rfl ct ?_
    refine TW.known rfl (by simp [Cnd, hlen]) ?_
    refine TW.lenSlice rfl rfl Tryd.underlying26 rfl ct ?_
    refine TW.known rfl (by simp [Cnd, hlen]) ?_
    refine TW.eql rfl rfl rfl ct rfl ct ?_
    refine TW.pickAnd rfl rfl rfl ct rfl pT ?_
    refine TW.move rfl rfl rfl ct ?_
    refine TW.known rfl (by simp [Cnd, hlen]) ?_
    refine TW.move rfl rfl rfl ct ?_
    refine TW.known rfl (by simp [Cnd, hlen]) ?_
    refine TW.lenSlice rfl rfl Tryd.underlying26 rfl ct ?_
    refine TW.known rfl (by simp [Cnd, hlen]) ?_
    refine TW.geq rfl rfl rfl ct rfl ct ?_
    refine TW.known rfl (by simp [Cnd, hlen]) ?_
    refine TW.move rfl rfl rfl ct ?_
    refine TW.dead (.bool false) rfl (by simp [Cnd, hlen]; omega) rfl ?_
    refine TW.dead (.bool false) rfl (by simp [Cnd, hlen]; omega) rfl ?_
    refine TW.dead (.bool false) rfl (by simp [Cnd, hlen]; omega) rfl ?_
    refine TW.dead (.bool false) rfl (by simp [Cnd, hlen]; omega) rfl ?_
    refine TW.dead (.bool false) rfl (by simp [Cnd, hlen]; omega) rfl ?_
    refine TW.dead (.bool false) rfl (by simp [Cnd, hlen]; omega) rfl ?_
    refine TW.known rfl (by simp [Cnd, hlen]) ?_
    refine TW.pickOr rfl rfl rfl ct rfl pOr0 ?_
    refine TW.pickAnd rfl rfl rfl ct rfl pT ?_
    refine TW.assign rfl rfl rfl ct ?_
    refine TW.nil (KW.pick [0, 1, 2, 6, 7, 8, 9, 10, 11] [(0, _, _), (1, _, _), (2, _, _), (6, _, _), (7, _, _), (8, _, _), (9, _, _), (10, _, _), (11, _, _)] rfl (KW.then_ ?_))
    refine CW.ret ?_
    refine ret1 Tryd.results4 rfl (⟨b9, by simp [hlen]; omega⟩)
end Go.Proofs.YthjcgmjcpmodlaaDoor
