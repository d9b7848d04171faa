import Derived.Test.YthjcgmjcpmodlaaDoorQK
set_option linter.unusedSimpArgs false
set_option linter.unusedVariables false
namespace Go.Proofs.YthjcgmjcpmodlaaDoor
open Go.PF Go.RowKit Go.Ord Go.Sort Go.Proofs

theorem SL.dropE {α : Type} {T : Ty α} {F : Nat → Prop} {w : World} {A : Option Addr} {n c : Nat} {l : List α} (h : SL T F w (.slice A n c) l) {i : Nat} (hi : i ≤ l.length) : SL T F w (.slice (if c = i then A else A.map (·.add (i * T.n))) (n - i) (c - i)) (l.drop i) := by
  obtain ⟨A', c', hv, h1, h2, h3⟩ := h
  simp only [Value.slice.injEq] at hv
  obtain ⟨rfl, rfl, rfl⟩ := hv
  refine ⟨_, _, by rw [List.length_drop], by rw [List.length_drop]; omega, by rw [List.length_drop]; omega, fun j x hx => ?_⟩
  rw [List.getElem?_drop] at hx
  have hlt := (List.getElem?_eq_some_iff.1 hx).1
  obtain ⟨ad, cs, rfl, hF, hc, hr⟩ := h3 (i + j) x hx
  rw [if_neg (by omega)]
  refine ⟨ad.add (i * T.n), cs, rfl, by rw [add_block]; exact hF, fun k u hu => ?_, hr⟩
  have := hc k u hu
  rw [add_add ad (i * T.n) (j * T.n), ← Nat.add_mul]
  exact this

set_option maxRecDepth 20000 in
set_option maxHeartbeats 2000000 in
theorem events_law {w : World} {u v : Value} {l : List Sc} {r : List Rc} (lab : ByteArray) (hl : SS w u l) (hr : SR w v r) (ht : Tabs w) :
    Gives Tryd.prog 3 #[u, v, .string lab] w fun y w' => Below w.heap.size w w' ∧ y = .bool true := by
  obtain ⟨A, cap, rfl, _⟩ := hr.form
  obtain ⟨B, bcap, rfl, _⟩ := hl.form
  refine gives_of (vs := [.slice B l.length bcap, .slice A r.length cap, .string lab]) [(0, none, _), (1, none, _), (2, none, _)] Tryd.func3 rfl Tryd.ntmps3 rfl rfl ?_
  refine CW.seq (CW.region ?_)
  refine TW.assign rfl rfl rfl ct ?_
  refine TW.nil (KW.pick [0, 1, 2, 6] [(0, _, _), (1, _, _), (2, _, _), (6, _, _)] rfl (KW.then_ ?_))
  refine CW.seq (CW.region ?_)
  refine TW.call0 (cap := []) rfl rfl en7 rfl Args.nil (head_c ht) ?_
  rintro y w1 ⟨b1, rfl⟩
  have hl1 := ss_step hl b1
  have hr1 := sr_step hr b1
  refine TW.assign rfl rfl rfl ct ?_
  refine TW.nil (KW.pick [0, 1, 2, 6, 7] [(0, _, _), (1, _, _), (2, _, _), (6, _, _), (7, _, _)] rfl (KW.then_ ?_))
  refine CW.seq (CW.seq (CW.region ?_))
  refine TW.move rfl rfl rfl ct ?_
  refine TW.move rfl rfl rfl ct ?_
  refine TW.call0 (cap := []) rfl rfl en8 rfl (Args.cons rfl ct (Args.cons rfl ct Args.nil)) (rfew_c hl1 hr1) ?_
  rintro y w3 ⟨c3, b, rfl, hfew⟩
  have b3 := b1.step c3
  refine TW.not rfl rfl rfl ct ?_
  refine TW.nil (KW.pick [0, 1, 2, 6, 7, 17] [(0, _, _), (1, _, _), (2, _, _), (6, _, _), (7, _, _), (17, _, _)] rfl (KW.then_ ?_))
  refine CW.cond rfl (fun hbad => ?_) (fun hgood => ?_)
  · refine CW.seq (CW.region ?_)
    refine TW.move rfl rfl rfl ct ?_
    refine TW.assign rfl rfl rfl ct ?_
    refine TW.nil (KW.pick [0, 1, 2, 6, 7] [(0, _, _), (1, _, _), (2, _, _), (6, _, _), (7, _, _)] rfl (KW.then_ ?_))
    refine CW.ret (KW.thenR ?_)
    refine ret1 Tryd.results3 rfl (⟨b3, rfl⟩)
  have hb : b = true := by cases b with | true => rfl | false => simp at hgood
  subst hb
  obtain ⟨hl30, hr30⟩ := hfew rfl
  refine CW.skip (KW.then_ (CW.seq (CW.region ?_)))
  refine TW.move rfl rfl rfl ct ?_
  refine TW.move rfl rfl rfl ct ?_
  refine TW.move rfl rfl rfl ct ?_
  refine TW.call0 (cap := []) rfl rfl en9 rfl (Args.cons rfl ct (Args.cons rfl ct (Args.cons rfl ct Args.nil))) (events_c (ss_step hl1 c3) (sr_step hr1 c3) (by omega) (ht.below b3)) ?_
  rintro v4 w4 ⟨c4, h4⟩
  obtain ⟨E4, ec4, rfl, hec4⟩ := h4.form
  refine TW.assign rfl rfl rfl ct ?_
  refine TW.nil (KW.pick [0, 1, 2, 6, 7, 8] [(0, _, _), (1, _, _), (2, _, _), (6, _, _), (7, _, _), (8, _, _)] rfl (KW.then_ ?_))
  refine CW.seq (CW.seq (CW.region ?_))
  refine TW.assign rfl rfl rfl ct ?_
  refine TW.nil (KW.pick [0, 1, 2, 6, 7, 8, 9] [(0, _, _), (1, _, _), (2, _, _), (6, _, _), (7, _, _), (8, _, _), (9, _, _)] rfl (KW.then_ ?_))
  refine CW.block ?_
  obtain ⟨ev, hev⟩ : ∃ z, z = evsOf l r lab := ⟨_, rfl⟩
  have hel := evs_len l r lab
  have hfol : ∀ e ∈ evsOf l r lab, Fol l r lab e := fun e => mem_evs
  have hsrt := evs_srt l r lab
  rw [← hev] at h4 hel hfol hsrt hec4 ⊢
  have hnd : ∀ e ∈ ev, e.needs.length ≤ 1000000 := fun e he => by have := (hfol e he).len.2; omega
  have b4 := b3.step c4
  have hl4 := ss_step (ss_step hl1 c3) c4
  have hr4 := sr_step (sr_step hr1 c3) c4
  refine CW.loopS (fun i : Nat => [(0, none, .slice B l.length bcap), (1, none, .slice A r.length cap), (2, none, .string lab), (7, none, .bool true), (8, none, .slice E4 ev.length ec4), (9, none, .int .i64 (i : Int))])
    (fun i W => i ≤ ev.length ∧ Below w4.heap.size w4 W) (fun i => ev.length - i) 0 [0, 1, 2, 7, 8, 9] ⟨Nat.zero_le _, Below.refl _ _⟩ rfl ?_
  rintro i W ⟨hi, hB⟩
  have h4W := se_step h4 hB
  refine CW.seq (CW.seq (CW.region ?_))
  refine TW.move rfl rfl rfl ct ?_
  refine TW.move rfl rfl rfl ct ?_
  refine TW.lenSlice rfl rfl Tryd.underlying26 rfl ct ?_
  refine TW.lss rfl rfl rfl ct rfl ct ?_
  refine TW.nil (KW.pick [0, 1, 2, 7, 8, 9, 26] [(0, _, _), (1, _, _), (2, _, _), (7, _, _), (8, _, _), (9, _, _), (26, _, _)] rfl (KW.then_ ?_))
  refine CW.condP rfl (fun hlt => ?_) (fun hge => ?_)
  · obtain ⟨e, he, hem⟩ := getx (l := ev) (k := i) (by omega)
    obtain ⟨ad, rfl⟩ := h4W.addr (by omega)
    obtain ⟨N1, nc, hcells, hok⟩ := SE.ok h4 (ad := ad) he
    have hcl : ∀ {X : World}, Below w4.heap.size w4 X → ∀ j u, (evV e (.slice N1 e.needs.length nc))[j]? = some u → X.cell? ((ad.add ((i : Int).toNat * 4)).add j) = some u := fun hb j u hj => (hb.cell (block_lt_of_cell (hcells j u hj))).trans (hcells j u hj)
    have hfe := (hfol e hem).facts
    have hlen := (hfol e hem).len
    have hokW := hok.below hB
    have e1 : decide ((e.needs.length : Int) < 1) = false := decide_eq_false (by omega)
    have e2 : decide (4 < (e.needs.length : Int)) = false := decide_eq_false (by omega)
    refine CW.skip (KW.then_ (CW.seq (CW.block (CW.seq (CW.seq ?_)))))
    refine CW.joinP (fun _ : Unit => [(0, none, .slice B l.length bcap), (1, none, .slice A r.length cap), (2, none, .string lab), (7, none, .bool true), (8, none, .slice (some ad) ev.length ec4), (9, none, .int .i64 (i : Int)), (61, none, .bool false)])
      (fun _ W' => Below w4.heap.size w4 W') (fun hj => ?_) (fun _ W2 hJ => ?_)
    · skip
      by_cases h0 : i = 0
      · subst h0
        refine CW.draw mixed (by kernel_rfl) ?_
        refine DW.move rfl rfl rfl ct ?_
        refine DW.gtr rfl rfl rfl ct rfl ct ?_
        refine DW.move rfl rfl rfl ct ?_
        refine DW.dead (.bool false) rfl (by simp [Cnd]) rfl rfl ?_
        refine DW.dead (.bool false) rfl (by simp [Cnd]) rfl rfl ?_
        refine DW.dead (.bool false) rfl (by simp [Cnd]) rfl rfl ?_
        refine DW.dead (.bool false) rfl (by simp [Cnd]) rfl rfl ?_
        refine DW.dead (.bool false) rfl (by simp [Cnd]) rfl rfl ?_
        refine DW.dead (.bool false) rfl (by simp [Cnd]) rfl rfl ?_
        refine DW.dead (.bool false) rfl (by simp [Cnd]) rfl rfl ?_
        refine DW.dead (.bool false) rfl (by simp [Cnd]) rfl rfl ?_
        refine DW.dead (.bool false) rfl (by simp [Cnd]) rfl rfl ?_
        refine DW.dead (.bool false) rfl (by simp [Cnd]) rfl rfl ?_
        refine DW.dead (.bool false) rfl (by simp [Cnd]) rfl rfl ?_
        refine DW.pickAnd rfl rfl rfl ct rfl pAnd0 ?_
        refine DW.move rfl rfl rfl ct ?_
        refine DW.move rfl rfl rfl ct ?_
        refine DW.move rfl rfl rfl ct ?_
        refine DW.indexAddr rfl rfl Tryd.underlying26 sz31 rfl id rfl id (fun h => by (try dsimp only); first | omega | (simp [Cnd] at h; omega)) ?_
        refine DW.fieldAddr rfl rfl fo31_3 rfl id ?_
        refine DW.load rfl rfl one29 rfl id (fun _ => (hcl hB 3 _ rfl)) ?_
        refine DW.lenSlice rfl rfl Tryd.underlying29 rfl id ?_
        refine DW.lss rfl rfl rfl id rfl ct ?_
        refine DW.pickOr rfl rfl rfl ct rfl pOr0 ?_
        refine DW.move rfl rfl rfl ct ?_
        refine DW.move rfl rfl rfl ct ?_
        refine DW.move rfl rfl rfl ct ?_
        refine DW.indexAddr rfl rfl Tryd.underlying26 sz31 rfl id rfl id (fun h => by (try dsimp only); first | omega | (simp [Cnd] at h; omega)) ?_
        refine DW.fieldAddr rfl rfl fo31_3 rfl id ?_
        refine DW.load rfl rfl one29 rfl id (fun _ => (hcl hB 3 _ rfl)) ?_
        refine DW.lenSlice rfl rfl Tryd.underlying29 rfl id ?_
        refine DW.gtr rfl rfl rfl id rfl ct ?_
        refine DW.pickOr rfl rfl rfl ct rfl pOr0 ?_
        refine DW.nil (DW.fin [0, 1, 2, 7, 8, 9, 61] [(0, _, _), (1, _, _), (2, _, _), (7, _, _), (8, _, _), (9, _, _), (61, _, _)] rfl (fun w5 b5 => KW.then_ ?_))
        exact CW.pick [0, 1, 2, 7, 8, 9, 61] _ (by rw [e1, e2, Bool.and_false]; rfl) (hj () _ (hB.step b5))
      · obtain ⟨f, hf, hfm⟩ := getx (l := ev) (k := i - 1) (by omega)
        obtain ⟨N2, nc2, hfcells, hfok⟩ := SE.ok h4 (ad := ad) hf
        have hi1 : ((i - 1 : Nat) : Int) = (i : Int) - 1 := by omega
        rw [hi1] at hfcells
        have hfcl : ∀ {X : World}, Below w4.heap.size w4 X → ∀ j u, (evV f (.slice N2 f.needs.length nc2))[j]? = some u → X.cell? ((ad.add (((i : Int) - 1).toNat * 4)).add j) = some u := fun hb j u hj => (hb.cell (block_lt_of_cell (hfcells j u hj))).trans (hfcells j u hj)
        have hcmp : cmpE f e < 0 := by
          have h1 := List.pairwise_iff_getElem.1 hsrt (i - 1) i (by omega) (by omega) (by omega)
          obtain ⟨h3, h4⟩ := List.getElem?_eq_some_iff.1 he
          obtain ⟨h5, h6⟩ := List.getElem?_eq_some_iff.1 hf
          rw [h4, h6] at h1
          exact h1
        refine CW.draw mixed (by kernel_rfl) ?_
        refine DW.move rfl rfl rfl ct ?_
        refine DW.gtr rfl rfl rfl ct rfl ct ?_
        refine DW.move rfl rfl rfl ct ?_
        refine DW.move rfl rfl rfl ct ?_
        refine DW.move rfl rfl rfl ct ?_
        refine DW.sub rfl rfl rfl id rfl ct (fun h => by (try dsimp only); first | omega | (simp [Cnd] at h; omega)) ?_
        refine DW.indexAddr rfl rfl Tryd.underlying26 sz31 rfl id rfl id (fun h => by (try dsimp only); first | omega | (simp [Cnd] at h; omega)) ?_
        refine DW.loadS _ rfl rfl Tryd.underlying31 sz31 rfl id (fun _ => (fun j v hj => hfcl hB j v hj)) rfl ?_
        refine DW.move rfl rfl rfl ct ?_
        refine DW.move rfl rfl rfl ct ?_
        refine DW.indexAddr rfl rfl Tryd.underlying26 sz31 rfl id rfl id (fun h => by (try dsimp only); first | omega | (simp [Cnd] at h; omega)) ?_
        refine DW.loadS _ rfl rfl Tryd.underlying31 sz31 rfl id (fun _ => (fun j v hj => hcl hB j v hj)) rfl ?_
        refine DW.call (.ex (.int .i64 (cmpE f e))) trivial rfl rfl en10 rfl ct (DArgs.cons rfl id (DArgs.cons rfl id DArgs.nil)) (fun _ w' hb' => (rcmp_c ((hfok.below hB).below hb') (hokW.below hb') (hnd f hfm) (hnd e hem)).mono fun u w'' h => h) ?_
        refine DW.geq rfl rfl rfl id rfl ct ?_
        refine DW.pickAnd rfl rfl rfl ct rfl pAnd0 ?_
        refine DW.move rfl rfl rfl ct ?_
        refine DW.move rfl rfl rfl ct ?_
        refine DW.move rfl rfl rfl ct ?_
        refine DW.indexAddr rfl rfl Tryd.underlying26 sz31 rfl id rfl id (fun h => by (try dsimp only); first | omega | (simp [Cnd] at h; omega)) ?_
        refine DW.fieldAddr rfl rfl fo31_3 rfl id ?_
        refine DW.load rfl rfl one29 rfl id (fun _ => (hcl hB 3 _ rfl)) ?_
        refine DW.lenSlice rfl rfl Tryd.underlying29 rfl id ?_
        refine DW.lss rfl rfl rfl id rfl ct ?_
        refine DW.pickOr rfl rfl rfl ct rfl pOr0 ?_
        refine DW.move rfl rfl rfl ct ?_
        refine DW.move rfl rfl rfl ct ?_
        refine DW.move rfl rfl rfl ct ?_
        refine DW.indexAddr rfl rfl Tryd.underlying26 sz31 rfl id rfl id (fun h => by (try dsimp only); first | omega | (simp [Cnd] at h; omega)) ?_
        refine DW.fieldAddr rfl rfl fo31_3 rfl id ?_
        refine DW.load rfl rfl one29 rfl id (fun _ => (hcl hB 3 _ rfl)) ?_
        refine DW.lenSlice rfl rfl Tryd.underlying29 rfl id ?_
        refine DW.gtr rfl rfl rfl id rfl ct ?_
        refine DW.pickOr rfl rfl rfl ct rfl pOr0 ?_
        refine DW.nil (DW.fin [0, 1, 2, 7, 8, 9, 61] [(0, _, _), (1, _, _), (2, _, _), (7, _, _), (8, _, _), (9, _, _), (61, _, _)] rfl (fun w5 b5 => KW.then_ ?_))
        exact CW.pick [0, 1, 2, 7, 8, 9, 61] _ (by rw [e1, e2, decide_eq_false (show ¬ 0 ≤ cmpE f e by omega), Bool.and_false]; rfl) (hj () _ (hB.step b5))
    · have hl2 := ss_step hl4 hJ
      have hr2 := sr_step hr4 hJ
      refine CW.cond rfl (fun h1 => ?_) (fun h2 => ?_)
      · cases h1
      refine CW.skip (KW.then_ (CW.seq (CW.region ?_)))
      refine TW.assign rfl rfl rfl ct ?_
      refine TW.nil (KW.pick [0, 1, 2, 7, 8, 9, 10] [(0, _, _), (1, _, _), (2, _, _), (7, _, _), (8, _, _), (9, _, _), (10, _, _)] rfl (KW.then_ ?_))
      refine CW.seq (CW.seq (CW.region ?_))
      refine TW.assign rfl rfl rfl ct ?_
      refine TW.nil (KW.pick [0, 1, 2, 7, 8, 9, 10, 11] [(0, _, _), (1, _, _), (2, _, _), (7, _, _), (8, _, _), (9, _, _), (10, _, _), (11, _, _)] rfl (KW.then_ ?_))
      refine CW.block ?_
      refine CW.loopS (fun z : Nat × Bool => [(0, none, .slice B l.length bcap), (1, none, .slice A r.length cap), (2, none, .string lab), (7, none, .bool true), (8, none, .slice (some ad) ev.length ec4), (9, none, .int .i64 (i : Int)), (10, none, .bool z.2), (11, none, .int .i64 (z.1 : Int))])
        (fun z W' => z.1 ≤ e.needs.length ∧ Below w4.heap.size w4 W' ∧ ((∃ n ∈ e.needs.take z.1, ∃ (j : Nat) (x : Rc), n = (j : Int) ∧ r[j]? = some x ∧ e = evOf l x e.needs) → z.2 = true)) (fun z => e.needs.length - z.1) (0, false) [0, 1, 2, 7, 8, 9, 10, 11]
        ⟨Nat.zero_le _, hJ, fun ⟨n, hn, _⟩ => by simp at hn⟩ rfl ?_
      rintro ⟨k, q⟩ W5 ⟨hk, hB5, hq⟩
      dsimp only at hk hB5 hq
      refine CW.seq (CW.seq (CW.region ?_))
      refine TW.move rfl rfl rfl ct ?_
      refine TW.move rfl rfl rfl ct ?_
      refine TW.move rfl rfl rfl ct ?_
      refine TW.indexAddr rfl rfl Tryd.underlying26 sz31 rfl ct rfl ct (fun _ => by (try dsimp only); omega) ?_
      refine TW.fieldAddr rfl rfl fo31_3 rfl ct ?_
      refine TW.load rfl rfl one29 rfl ct (fun _ => hcl hB5 3 _ rfl) ?_
      refine TW.lenSlice rfl rfl Tryd.underlying29 rfl ct ?_
      refine TW.lss rfl rfl rfl ct rfl ct ?_
      refine TW.nil (KW.pick [0, 1, 2, 7, 8, 9, 10, 11, 69] [(0, _, _), (1, _, _), (2, _, _), (7, _, _), (8, _, _), (9, _, _), (10, _, _), (11, _, _), (69, _, _)] rfl (KW.then_ ?_))
      refine CW.condP rfl (fun hlt2 => ?_) (fun hge2 => ?_)
      · obtain ⟨n, hn, hnm⟩ := getx (l := e.needs) (k := k) (by omega)
        obtain ⟨j, x, rfl, hx, hval⟩ := hfe.2.1 n hnm
        obtain ⟨nd, rfl⟩ := hok.nd.addr (by omega)
        have hjl := (List.getElem?_eq_some_iff.1 hx).1
        have hr5 := sr_step hr4 hB5
        have hl5 := ss_step hl4 hB5
        obtain ⟨rd, rfl⟩ := hr5.addr (by omega)
        obtain ⟨xv, hxc, hxok⟩ := SR.get hr5 hx
        refine CW.skip (KW.then_ (CW.seq (CW.block (CW.seq (CW.region ?_)))))
        refine TW.move rfl rfl rfl ct ?_
        refine TW.move rfl rfl rfl ct ?_
        refine TW.indexAddr rfl rfl Tryd.underlying26 sz31 rfl ct rfl ct (fun _ => by (try dsimp only); omega) ?_
        refine TW.fieldAddr rfl rfl fo31_3 rfl ct ?_
        refine TW.load rfl rfl one29 rfl ct (fun _ => (hcl hB5 3 _ rfl)) ?_
        refine TW.move rfl rfl rfl ct ?_
        refine TW.indexAddr rfl rfl Tryd.underlying29 sz3 rfl ct rfl ct (fun _ => by (try dsimp only); omega) ?_
        refine TW.load rfl rfl one3 rfl ct (fun _ => (hok.below hB5).nd.getI hn) ?_
        refine TW.assign rfl rfl rfl ct ?_
        refine TW.nil (KW.pick [0, 1, 2, 7, 8, 9, 10, 11, 12] [(0, _, _), (1, _, _), (2, _, _), (7, _, _), (8, _, _), (9, _, _), (10, _, _), (11, _, _), (12, _, _)] rfl (KW.then_ ?_))
        refine CW.seq (CW.seq (CW.region ?_))
        refine TW.move rfl rfl rfl ct ?_
        refine TW.lss rfl rfl rfl ct rfl ct ?_
        refine TW.move rfl rfl rfl ct ?_
        refine TW.move rfl rfl rfl ct ?_
        refine TW.move rfl rfl rfl ct ?_
        refine TW.lenSlice rfl rfl Tryd.underlying23 rfl id ?_
        refine TW.geq rfl rfl rfl id rfl id ?_
        refine TW.pickOr rfl rfl rfl ct rfl pOr0 ?_
        refine TW.move rfl rfl rfl ct ?_
        refine TW.move rfl rfl rfl ct ?_
        refine TW.move rfl rfl rfl ct ?_
        refine TW.move rfl rfl rfl ct ?_
        refine TW.indexAddr rfl rfl Tryd.underlying23 sz35 rfl id rfl id (fun h => by (try dsimp only); first | omega | (simp [Cnd] at h; omega)) ?_
        refine TW.known rfl (by simp [Cnd]; try omega) ?_
        refine TW.loadS _ rfl rfl Tryd.underlying35 sz35 rfl (by simp_all [Cnd]) (fun _ => hxc) rfl ?_
        refine TW.known rfl (by simp [Cnd]; try omega) ?_
        refine TW.call0 (cap := []) rfl rfl en11 rfl (Args.cons rfl (by simp_all [Cnd]) (Args.cons rfl ct Args.nil)) (valid_c hl5 hxok) ?_
        rintro y6 w6 ⟨c6, rfl⟩
        rw [dec_pos hval]
        have hB6 := hB5.step c6
        have hnI := (hok.below hB6).nd
        have hprev : 0 < k → ∃ p, e.needs[k - 1]? = some p ∧ p < (j : Int) := fun hk0 => by
          obtain ⟨p, hp, _⟩ := getx (l := e.needs) (k := k - 1) (by omega)
          refine ⟨p, hp, ?_⟩
          obtain ⟨h3, h4⟩ := List.getElem?_eq_some_iff.1 hp
          obtain ⟨h5, h6⟩ := List.getElem?_eq_some_iff.1 hn
          have := List.pairwise_iff_getElem.1 hfe.1 (k - 1) k h3 h5 (by omega)
          omega
        have hld : 0 < k → w6.cell? (nd.add (((k : Int) - 1).toNat * 1)) = some (.int .i64 (e.needs.getD (k - 1) 0)) := fun hk0 => by
          obtain ⟨p, hp, _⟩ := hprev hk0
          have := hnI.getI hp
          rw [show ((k - 1 : Nat) : Int) = (k : Int) - 1 by omega] at this
          rw [show p = e.needs.getD (k - 1) 0 by rw [List.getD_eq_getElem?_getD, hp]; rfl] at this
          exact this
        refine TW.known rfl (by simp [Cnd]; try omega) ?_
        refine TW.not rfl rfl rfl ct ?_
        refine TW.pickOr rfl rfl rfl ct rfl pT ?_
        refine TW.move rfl rfl rfl ct ?_
        refine TW.known rfl (by simp [Cnd]; try omega) ?_
        refine TW.move rfl rfl rfl ct ?_
        refine TW.known rfl (by simp [Cnd]; try omega) ?_
        refine TW.gtr rfl rfl rfl ct rfl ct ?_
        refine TW.known rfl (by simp [Cnd]; try omega) ?_
        refine TW.move rfl rfl rfl ct ?_
        refine TW.move rfl rfl rfl ct ?_
        refine TW.move rfl rfl rfl ct ?_
        refine TW.indexAddr rfl rfl Tryd.underlying26 sz31 rfl id rfl id (fun h => by (try dsimp only); first | omega | (simp [Cnd] at h; omega)) ?_
        refine TW.fieldAddr rfl rfl fo31_3 rfl id ?_
        refine TW.load rfl rfl one29 rfl id (fun _ => hcl hB6 3 _ rfl) ?_
        refine TW.move rfl rfl rfl ct ?_
        refine TW.sub rfl rfl rfl id rfl ct (fun h => by (try dsimp only); first | omega | (simp [Cnd] at h; omega)) ?_
        refine TW.indexAddr rfl rfl Tryd.underlying29 sz3 rfl id rfl id (fun h => by (try dsimp only); first | omega | (simp [Cnd] at h; omega)) ?_
        refine TW.load rfl rfl one3 rfl id (fun hG => hld (by simp [Cnd] at hG; omega)) ?_
        refine TW.move rfl rfl rfl ct ?_
        refine TW.geq rfl rfl rfl id rfl id ?_
        refine TW.known rfl (by simp [Cnd]; try omega) ?_
        refine TW.pickAnd rfl rfl rfl ct rfl pAnd0 ?_
        refine TW.pickOr rfl rfl rfl ct rfl pT ?_
        refine TW.nil (KW.pick [0, 1, 2, 7, 8, 9, 10, 11, 12, 113] [(0, _, _), (1, _, _), (2, _, _), (7, _, _), (8, _, _), (9, _, _), (10, _, _), (11, _, _), (12, _, _), (113, _, _)] rfl (KW.then_ ?_))
        refine CW.cond rfl (fun h1 => ?_) (fun h2 => ?_)
        · exfalso
          simp at h1
          rcases h1 with h1 | ⟨h1, h2⟩
          · omega
          · obtain ⟨p, hp, hlt⟩ := hprev h1
            rw [hp] at h2
            simp at h2
            omega
        have hgood : ∀ p : Bool, (q = true → p = true) → (e = evOf l x e.needs → p = true) → ((∃ n ∈ e.needs.take (k + 1), ∃ (j : Nat) (x : Rc), n = (j : Int) ∧ r[j]? = some x ∧ e = evOf l x e.needs) → p = true) := fun p p1 p2 ⟨n, hn', j', x', g1, g2, g3⟩ => by
          rw [List.take_add_one, hn] at hn'
          rcases List.mem_append.1 hn' with h | h
          · exact p1 (hq ⟨n, h, j', x', g1, g2, g3⟩)
          · simp at h
            have : j' = j := by omega
            subst this
            rw [hx] at g2
            cases g2
            exact p2 g3
        refine CW.skip (KW.then_ ?_)
        cases q with
        | true =>
          skip
          refine CW.draw mixed (by kernel_rfl) ?_
          refine DW.move rfl rfl rfl ct ?_
          refine DW.move rfl rfl rfl ct ?_
          refine DW.dead (.bool false) rfl (by simp [Cnd]) rfl rfl ?_
          refine DW.dead (.bool false) rfl (by simp [Cnd]) rfl rfl ?_
          refine DW.dead (.bool false) rfl (by simp [Cnd]) rfl rfl ?_
          refine DW.dead (.bool false) rfl (by simp [Cnd]) rfl rfl ?_
          refine DW.dead (.bool false) rfl (by simp [Cnd]) rfl rfl ?_
          refine DW.dead (.bool false) rfl (by simp [Cnd]) rfl rfl ?_
          refine DW.dead (.bool false) rfl (by simp [Cnd]) rfl rfl ?_
          refine DW.dead (.bool false) rfl (by simp [Cnd]) rfl rfl ?_
          refine DW.dead (.bool false) rfl (by simp [Cnd]) rfl rfl ?_
          refine DW.dead (.bool false) rfl (by simp [Cnd]) rfl rfl ?_
          refine DW.dead (.bool false) rfl (by simp [Cnd]) rfl rfl ?_
          refine DW.dead (.bool false) rfl (by simp [Cnd]) rfl rfl ?_
          refine DW.dead (.bool false) rfl (by simp [Cnd]) rfl rfl ?_
          refine DW.dead (.bool false) rfl (by simp [Cnd]) rfl rfl ?_
          refine DW.dead (.bool false) rfl (by simp [Cnd]) rfl rfl ?_
          refine DW.dead (.bool false) rfl (by simp [Cnd]) rfl rfl ?_
          refine DW.dead (.bool false) rfl (by simp [Cnd]) rfl rfl ?_
          refine DW.dead (.bool false) rfl (by simp [Cnd]) rfl rfl ?_
          refine DW.pickOr rfl rfl rfl ct rfl pOr0 ?_
          refine DW.assign rfl rfl rfl ct ?_
          refine DW.nil (DW.fin [0, 1, 2, 7, 8, 9, 10, 11, 12] [(0, _, _), (1, _, _), (2, _, _), (7, _, _), (8, _, _), (9, _, _), (10, _, _), (11, _, _), (12, _, _)] rfl (fun w7 b7 => KW.blockN (KW.then_ ?_)))
          refine CW.region ?_
          refine TW.move rfl rfl rfl ct ?_
          refine TW.add rfl rfl rfl ct rfl ct (fun _ => by (try dsimp only); omega) ?_
          refine TW.assign rfl rfl rfl ct ?_
          refine TW.nil (KW.pick [0, 1, 2, 7, 8, 9, 10, 11, 12] [(0, _, _), (1, _, _), (2, _, _), (7, _, _), (8, _, _), (9, _, _), (10, _, _), (11, _, _), (12, _, _)] rfl ?_)
          refine KW.round (k + 1, true) [0, 1, 2, 7, 8, 9, 10, 11] rfl ⟨by show k + 1 ≤ e.needs.length; omega, hB6.step b7, hgood true (fun _ => rfl) (fun _ => rfl)⟩ (by show e.needs.length - (k + 1) < e.needs.length - k; omega)
        | false =>
          skip
          have hx6 := hxok.below c6
          have hxc6 : ∀ j' u, (rcV x xv)[j']? = some u → w6.cell? ((rd.add ((j : Int).toNat * 6)).add j') = some u := fun j' u hj => (c6.cell (block_lt_of_cell (hxc j' u hj))).trans (hxc j' u hj)
          have hl6 := ss_step hl5 c6
          obtain ⟨XC, xxc, hxv, _⟩ := hx6.ct.form
          subst hxv
          refine CW.draw mixed (by kernel_rfl) ?_
          refine DW.move rfl rfl rfl ct ?_
          refine DW.move rfl rfl rfl ct ?_
          refine DW.move rfl rfl rfl ct ?_
          refine DW.move rfl rfl rfl ct ?_
          refine DW.move rfl rfl rfl ct ?_
          refine DW.indexAddr rfl rfl Tryd.underlying23 sz35 rfl id rfl id (fun h => by (try dsimp only); first | omega | (simp [Cnd] at h; omega)) ?_
          refine DW.loadS _ rfl rfl Tryd.underlying35 sz35 rfl id (fun _ => hxc6) rfl ?_
          refine DW.move rfl rfl rfl ct ?_
          refine DW.move rfl rfl rfl ct ?_
          refine DW.indexAddr rfl rfl Tryd.underlying26 sz31 rfl id rfl id (fun h => by (try dsimp only); first | omega | (simp [Cnd] at h; omega)) ?_
          refine DW.fieldAddr rfl rfl fo31_3 rfl id ?_
          refine DW.load rfl rfl one29 rfl id (fun _ => hcl hB6 3 _ rfl) ?_
          refine DW.call (.ex (.agg (evV (evOf l x e.needs) (.slice (some nd) e.needs.length nc)).toArray)) trivial rfl rfl en13 rfl ct (DArgs.cons rfl id (DArgs.cons rfl id (DArgs.cons rfl id DArgs.nil))) (fun _ w' hb' => (rof_c (hl6.below hb') (hx6.below hb') hval (hnI.below hb')).mono fun u w'' h => h) ?_
          refine DW.buildSlice 31 _ rfl rfl rfl eo26 (DArgs.cons rfl id DArgs.nil) rfl rfl rfl rfl rfl ?_
          refine DW.move rfl rfl rfl ct ?_
          refine DW.move rfl rfl rfl ct ?_
          refine DW.move rfl rfl rfl ct ?_
          refine DW.add rfl rfl rfl id rfl ct (fun h => by (try dsimp only); first | omega | (simp [Cnd] at h; omega)) ?_
          refine DW.sliceLH rfl rfl Tryd.underlying26 sz31 rfl id rfl id rfl id (fun h => by (try dsimp only); first | omega | (simp [Cnd] at h; omega)) ?_
          have hev6 := se_step h4 hB6
          have hsub : ∀ {w' : World}, Below w6.heap.size w6 w' → SL evT (fun k => k < w6.heap.size) w' (.slice (if ec4 = i then some ad else (some ad).map (fun a : Addr => a.add (i * 4))) (i + 1 - i) (ec4 - i)) [e] := fun hb => by
            have h1 := SL.dropE (SL.takeS (hev6.below hb) (i := i + 1) (by omega)) (i := i) (by simp; omega)
            have h2 : (ev.take (i + 1)).drop i = [e] := by
              rw [List.take_add_one, he]
              rw [List.drop_append_of_le_length (by simp; omega), List.drop_of_length_le (by simp; omega)]
              rfl
            rw [h2] at h1
            exact h1
          refine DW.callP (.ex (.bool (dec ([evOf l x e.needs] = [e])))) (trivial) rfl rfl en12 rfl ct (PArgs.cons rfl id (PArgs.cons rfl id PArgs.nil)) (fun _ w' hb' vs hs => ?_) ?_
          · obtain ⟨x1, x2, rfl, h1, h2⟩ := Sats.two hs
            have h2 : x2 = _ := h2
            subst h2
            obtain ⟨g9, rfl, hB9⟩ := h1
            have hn9 := (hnI.now intT_now).below hb'
            obtain ⟨hsc, hsok⟩ := hval.sc
            have hq8 : I64 (evOf l x e.needs).office := by
              have hsl := (List.getElem?_eq_some_iff.1 hsc).1
              obtain ⟨sd, hsd⟩ := hl5.addr (by omega)
              rw [hsd] at hl5
              exact (SS.get hl5 hsc).2.2.1
            have hv2 := hval.comp.t1
            have hv3 := hval.comp.t2
            have hv4 := hsok.e1
            have hv5 := hsok.e2
            have h1s : SE w' (.slice (some ⟨g9, 0, none⟩) 1 1) [evOf l x e.needs] := litP (T := evT) (by decide) [(evV (evOf l x e.needs) (.slice (some nd) e.needs.length nc), evOf l x e.needs)] hB9 rfl (fun p hp => by
              simp only [List.mem_cons, List.not_mem_nil, or_false] at hp
              subst hp
              exact ⟨_, rfl, hq8, ⟨by show (-9223372036854775808 : Int) ≤ x.time - _; omega, by show x.time - _ ≤ (9223372036854775807 : Int); omega⟩, ⟨by show (-9223372036854775808 : Int) ≤ x.time + _; omega, by show x.time + _ ≤ (9223372036854775807 : Int); omega⟩, hn9.wider fun k hk => Nat.lt_of_lt_of_le hk hb'.size⟩) (by simp)
            exact (rsame_c h1s (hsub hb') (fun f hf => by simp at hf; subst hf; exact hnd e hem) (fun f hf => by simp at hf; subst hf; exact hnd f hem)).mono fun u w'' h => h
          refine DW.pickOr rfl rfl rfl ct rfl pOr0 ?_
          refine DW.assign rfl rfl rfl ct ?_
          refine DW.nil (DW.fin [0, 1, 2, 7, 8, 9, 10, 11, 12] [(0, _, _), (1, _, _), (2, _, _), (7, _, _), (8, _, _), (9, _, _), (10, _, _), (11, _, _), (12, _, _)] rfl (fun w7 b7 => KW.blockN (KW.then_ ?_)))
          refine CW.region ?_
          refine TW.move rfl rfl rfl ct ?_
          refine TW.add rfl rfl rfl ct rfl ct (fun _ => by (try dsimp only); omega) ?_
          refine TW.assign rfl rfl rfl ct ?_
          refine TW.nil (KW.pick [0, 1, 2, 7, 8, 9, 10, 11, 12] [(0, _, _), (1, _, _), (2, _, _), (7, _, _), (8, _, _), (9, _, _), (10, _, _), (11, _, _), (12, _, _)] rfl ?_)
          refine KW.round (k + 1, false || dec ([evOf l x e.needs] = [e])) [0, 1, 2, 7, 8, 9, 10, 11] rfl ⟨by show k + 1 ≤ e.needs.length; omega, hB6.step b7, hgood _ (fun h => by cases h) (fun h => by rw [dec_pos (by rw [← h])]; rfl)⟩ (by show e.needs.length - (k + 1) < e.needs.length - k; omega)
      · have hke : k = e.needs.length := by omega
        subst hke
        rw [List.take_length] at hq
        have hqt : q = true := hq (by
          obtain ⟨j, x, h1, h2, h3⟩ := hfe.2.2.1
          exact ⟨_, h1, j, x, rfl, h2, h3⟩)
        subst hqt
        refine CW.exit (KW.thenX (KW.thenX (KW.blockX (KW.then_ (CW.seq (CW.region ?_))))))
        refine TW.move rfl rfl rfl ct ?_
        refine TW.not rfl rfl rfl ct ?_
        refine TW.move rfl rfl rfl ct ?_
        refine TW.known rfl (by simp [Cnd]) ?_
        refine TW.move rfl rfl rfl ct ?_
        refine TW.known rfl (by simp [Cnd]) ?_
        refine TW.move rfl rfl rfl ct ?_
        refine TW.known rfl (by simp [Cnd]) ?_
        refine TW.indexAddr rfl rfl Tryd.underlying26 sz31 rfl ct rfl ct (fun _ => by (try dsimp only); omega) ?_
        refine TW.known rfl (by simp [Cnd]) ?_
        refine TW.fieldAddr rfl rfl fo31_3 rfl ct ?_
        refine TW.known rfl (by simp [Cnd]) ?_
        refine TW.load rfl rfl one29 rfl ct (fun _ => hcl hB5 3 _ rfl) ?_
        refine TW.known rfl (by simp [Cnd]) ?_
        refine TW.lenSlice rfl rfl Tryd.underlying29 rfl ct ?_
        refine TW.known rfl (by simp [Cnd]) ?_
        refine TW.eql rfl rfl rfl ct rfl ct ?_
        refine TW.known rfl (by simp [Cnd]) ?_
        refine TW.move rfl rfl rfl ct ?_
        refine TW.move rfl rfl rfl ct ?_
        refine TW.move rfl rfl rfl ct ?_
        refine TW.move rfl rfl rfl ct ?_
        refine TW.indexAddr rfl rfl Tryd.underlying26 sz31 rfl id rfl id (fun h => by (try dsimp only); first | omega | (simp [Cnd] at h; omega)) ?_
        refine TW.fieldAddr rfl rfl fo31_3 rfl id ?_
        have hr5 := sr_step hr4 hB5
        have hnI := (hok.below hB5).nd
        by_cases h1 : e.needs.length = 1
        · obtain ⟨n, hn⟩ := List.length_eq_one_iff.1 h1
          obtain ⟨j, x, hnj, hx, hor⟩ := hfe.2.2.2 n hn
          subst hnj
          have hn0 : e.needs[0]? = some (j : Int) := by rw [hn]; rfl
          obtain ⟨nd, rfl⟩ := hok.nd.addr (by omega)
          have hjl := (List.getElem?_eq_some_iff.1 hx).1
          obtain ⟨rd, rfl⟩ := hr5.addr (by omega)
          obtain ⟨xv, hxc, hxok⟩ := SR.get hr5 hx
          have hlen1 : decide ((e.needs.length : Int) = 1) = true := decide_eq_true (by omega)
          have hg0 := hnI.getI hn0
          by_cases hlb : x.label = lab
          · skip
            refine TW.known rfl (by simp [Cnd, h1]) ?_
            refine TW.load rfl rfl one29 rfl (by simp_all [Cnd]) (fun _ => hcl hB5 3 _ rfl) ?_
            refine TW.known rfl (by simp [Cnd, h1]) ?_
            refine TW.indexAddr rfl rfl Tryd.underlying29 sz3 rfl ct rfl ct (fun _ => by (try dsimp only); omega) ?_
            refine TW.known rfl (by simp [Cnd, h1]) ?_
            refine TW.load rfl rfl one3 rfl ct (fun _ => hg0) ?_
            refine TW.known rfl (by simp [Cnd, h1]) ?_
            refine TW.indexAddr rfl rfl Tryd.underlying23 sz35 rfl (by simp_all [Cnd]) rfl ct (fun _ => by (try dsimp only); omega) ?_
            refine TW.known rfl (by simp [Cnd, h1]) ?_
            refine TW.fieldAddr rfl rfl fo35_4 rfl ct ?_
            refine TW.known rfl (by simp [Cnd, h1]) ?_
            refine TW.load rfl rfl one9 rfl ct (fun _ => hxc 4 _ rfl) ?_
            refine TW.known rfl (by simp [Cnd, h1]) ?_
            refine TW.move rfl rfl rfl ct ?_
            refine TW.known rfl (by simp [Cnd, h1]) ?_
            refine TW.neqS rfl rfl rfl ct rfl ct ?_
            refine TW.known rfl (by simp [Cnd, h1]) ?_
            refine TW.pickAnd rfl rfl rfl ct rfl pT ?_
            refine TW.known rfl (by simp [Cnd, h1]) ?_
            refine TW.move rfl rfl rfl ct ?_
            refine TW.dead (.bool false) rfl (by simp [Cnd, beqL, hlb]) rfl ?_
            refine TW.dead (.bool false) rfl (by simp [Cnd, beqL, hlb]) rfl ?_
            refine TW.dead (.bool false) rfl (by simp [Cnd, beqL, hlb]) rfl ?_
            refine TW.dead (.bool false) rfl (by simp [Cnd, beqL, hlb]) rfl ?_
            refine TW.dead (.bool false) rfl (by simp [Cnd, beqL, hlb]) rfl ?_
            refine TW.dead (.bool false) rfl (by simp [Cnd, beqL, hlb]) rfl ?_
            refine TW.dead (.bool false) rfl (by simp [Cnd, beqL, hlb]) rfl ?_
            refine TW.dead (.bool false) rfl (by simp [Cnd, beqL, hlb]) rfl ?_
            refine TW.dead (.bool false) rfl (by simp [Cnd, beqL, hlb]) rfl ?_
            refine TW.dead (.bool false) rfl (by simp [Cnd, beqL, hlb]) rfl ?_
            refine TW.dead (.bool false) rfl (by simp [Cnd, beqL, hlb]) rfl ?_
            refine TW.dead (.bool false) rfl (by simp [Cnd, beqL, hlb]) rfl ?_
            refine TW.known rfl (by simp [Cnd, h1]) ?_
            refine TW.pickAnd rfl rfl rfl ct rfl pAnd0 ?_
            refine TW.pickOr rfl rfl rfl ct rfl pT ?_
            refine TW.nil (KW.pick [0, 1, 2, 7, 8, 9, 10, 11, 174] [(0, _, _), (1, _, _), (2, _, _), (7, _, _), (8, _, _), (9, _, _), (10, _, _), (11, _, _), (174, _, _)] rfl (KW.then_ ?_))
            refine CW.cond rfl (fun g1 => ?_) (fun g2 => ?_)
            · exfalso
              simp at g1
            refine CW.skip (KW.blockN (KW.then_ (CW.region ?_)))
            refine TW.move rfl rfl rfl ct ?_
            refine TW.add rfl rfl rfl ct rfl ct (fun _ => by (try dsimp only); omega) ?_
            refine TW.assign rfl rfl rfl ct ?_
            refine TW.nil (KW.pick [0, 1, 2, 7, 8, 9, 10, 11] [(0, _, _), (1, _, _), (2, _, _), (7, _, _), (8, _, _), (9, _, _), (10, _, _), (11, _, _)] rfl ?_)
            exact KW.round (i + 1) [0, 1, 2, 7, 8, 9] rfl ⟨by omega, hB5⟩ (by omega)
          · have hk2 : x.kind = 2 := hor.resolve_left hlb
            refine TW.known rfl (by simp [Cnd, h1, beqL, hlb]) ?_
            refine TW.load rfl rfl one29 rfl (by simp_all [Cnd]) (fun _ => hcl hB5 3 _ rfl) ?_
            refine TW.known rfl (by simp [Cnd, h1, beqL, hlb]) ?_
            refine TW.indexAddr rfl rfl Tryd.underlying29 sz3 rfl ct rfl ct (fun _ => by (try dsimp only); omega) ?_
            refine TW.known rfl (by simp [Cnd, h1, beqL, hlb]) ?_
            refine TW.load rfl rfl one3 rfl ct (fun _ => hg0) ?_
            refine TW.known rfl (by simp [Cnd, h1, beqL, hlb]) ?_
            refine TW.indexAddr rfl rfl Tryd.underlying23 sz35 rfl (by simp_all [Cnd]) rfl ct (fun _ => by (try dsimp only); omega) ?_
            refine TW.known rfl (by simp [Cnd, h1, beqL, hlb]) ?_
            refine TW.fieldAddr rfl rfl fo35_4 rfl ct ?_
            refine TW.known rfl (by simp [Cnd, h1, beqL, hlb]) ?_
            refine TW.load rfl rfl one9 rfl ct (fun _ => hxc 4 _ rfl) ?_
            refine TW.known rfl (by simp [Cnd, h1, beqL, hlb]) ?_
            refine TW.move rfl rfl rfl ct ?_
            refine TW.known rfl (by simp [Cnd, h1, beqL, hlb]) ?_
            refine TW.neqS rfl rfl rfl ct rfl ct ?_
            refine TW.known rfl (by simp [Cnd, h1, beqL, hlb]) ?_
            refine TW.pickAnd rfl rfl rfl ct rfl pT ?_
            refine TW.known rfl (by simp [Cnd, h1, beqL, hlb]) ?_
            refine TW.move rfl rfl rfl ct ?_
            refine TW.known rfl (by simp [Cnd, h1, beqL, hlb]) ?_
            refine TW.move rfl rfl rfl ct ?_
            refine TW.known rfl (by simp [Cnd, h1, beqL, hlb]) ?_
            refine TW.move rfl rfl rfl ct ?_
            refine TW.known rfl (by simp [Cnd, h1, beqL, hlb]) ?_
            refine TW.move rfl rfl rfl ct ?_
            refine TW.known rfl (by simp [Cnd, h1, beqL, hlb]) ?_
            refine TW.indexAddr rfl rfl Tryd.underlying26 sz31 rfl ct rfl ct (fun _ => by (try dsimp only); omega) ?_
            refine TW.known rfl (by simp [Cnd, h1, beqL, hlb]) ?_
            refine TW.fieldAddr rfl rfl fo31_3 rfl ct ?_
            refine TW.known rfl (by simp [Cnd, h1, beqL, hlb]) ?_
            refine TW.load rfl rfl one29 rfl ct (fun _ => hcl hB5 3 _ rfl) ?_
            refine TW.known rfl (by simp [Cnd, h1, beqL, hlb]) ?_
            refine TW.indexAddr rfl rfl Tryd.underlying29 sz3 rfl ct rfl ct (fun _ => by (try dsimp only); omega) ?_
            refine TW.known rfl (by simp [Cnd, h1, beqL, hlb]) ?_
            refine TW.load rfl rfl one3 rfl ct (fun _ => hg0) ?_
            refine TW.known rfl (by simp [Cnd, h1, beqL, hlb]) ?_
            refine TW.indexAddr rfl rfl Tryd.underlying23 sz35 rfl ct rfl ct (fun _ => by (try dsimp only); omega) ?_
            refine TW.known rfl (by simp [Cnd, h1, beqL, hlb]) ?_
            refine TW.fieldAddr rfl rfl fo35_2 rfl ct ?_
            refine TW.known rfl (by simp [Cnd, h1, beqL, hlb]) ?_
            refine TW.load rfl rfl one3 rfl ct (fun _ => hxc 2 _ rfl) ?_
            refine TW.known rfl (by simp [Cnd, h1, beqL, hlb]) ?_
            refine TW.neq rfl rfl rfl ct rfl ct ?_
            refine TW.known rfl (by simp [Cnd, h1, beqL, hlb]) ?_
            refine TW.pickAnd rfl rfl rfl ct rfl pT ?_
            refine TW.pickOr rfl rfl rfl ct rfl pT ?_
            refine TW.nil (KW.pick [0, 1, 2, 7, 8, 9, 10, 11, 174] [(0, _, _), (1, _, _), (2, _, _), (7, _, _), (8, _, _), (9, _, _), (10, _, _), (11, _, _), (174, _, _)] rfl (KW.then_ ?_))
            refine CW.cond rfl (fun g1 => ?_) (fun g2 => ?_)
            · exfalso
              simp [hk2] at g1
            refine CW.skip (KW.blockN (KW.then_ (CW.region ?_)))
            refine TW.move rfl rfl rfl ct ?_
            refine TW.add rfl rfl rfl ct rfl ct (fun _ => by (try dsimp only); omega) ?_
            refine TW.assign rfl rfl rfl ct ?_
            refine TW.nil (KW.pick [0, 1, 2, 7, 8, 9, 10, 11] [(0, _, _), (1, _, _), (2, _, _), (7, _, _), (8, _, _), (9, _, _), (10, _, _), (11, _, _)] rfl ?_)
            exact KW.round (i + 1) [0, 1, 2, 7, 8, 9] rfl ⟨by omega, hB5⟩ (by omega)
        · skip
          have h1' : ¬ (e.needs.length : Int) = 1 := by omega
          refine TW.dead (.bool false) rfl (by simp [Cnd] <;> omega) rfl ?_
          refine TW.dead (.bool false) rfl (by simp [Cnd] <;> omega) rfl ?_
          refine TW.dead (.bool false) rfl (by simp [Cnd] <;> omega) rfl ?_
          refine TW.dead (.bool false) rfl (by simp [Cnd] <;> omega) rfl ?_
          refine TW.dead (.bool false) rfl (by simp [Cnd] <;> omega) rfl ?_
          refine TW.dead (.bool false) rfl (by simp [Cnd] <;> omega) rfl ?_
          refine TW.dead (.bool false) rfl (by simp [Cnd] <;> omega) rfl ?_
          refine TW.dead (.bool false) rfl (by simp [Cnd] <;> omega) rfl ?_
          refine TW.pickAnd rfl rfl rfl ct rfl pAnd1 ?_
          refine TW.move rfl rfl rfl id ?_
          refine TW.dead (.bool false) rfl (by simp [Cnd] <;> omega) rfl ?_
          refine TW.dead (.bool false) rfl (by simp [Cnd] <;> omega) rfl ?_
          refine TW.dead (.bool false) rfl (by simp [Cnd] <;> omega) rfl ?_
          refine TW.dead (.bool false) rfl (by simp [Cnd] <;> omega) rfl ?_
          refine TW.dead (.bool false) rfl (by simp [Cnd] <;> omega) rfl ?_
          refine TW.dead (.bool false) rfl (by simp [Cnd] <;> omega) rfl ?_
          refine TW.dead (.bool false) rfl (by simp [Cnd] <;> omega) rfl ?_
          refine TW.dead (.bool false) rfl (by simp [Cnd] <;> omega) rfl ?_
          refine TW.dead (.bool false) rfl (by simp [Cnd] <;> omega) rfl ?_
          refine TW.dead (.bool false) rfl (by simp [Cnd] <;> omega) rfl ?_
          refine TW.dead (.bool false) rfl (by simp [Cnd] <;> omega) rfl ?_
          refine TW.dead (.bool false) rfl (by simp [Cnd] <;> omega) rfl ?_
          refine TW.pickAnd rfl rfl rfl id rfl pAnd1 ?_
          refine TW.pickOr rfl rfl rfl ct rfl pOr0 ?_
          refine TW.nil (KW.pick [0, 1, 2, 7, 8, 9, 10, 11, 174] [(0, _, _), (1, _, _), (2, _, _), (7, _, _), (8, _, _), (9, _, _), (10, _, _), (11, _, _), (174, _, _)] rfl (KW.then_ ?_))
          refine CW.cond rfl (fun g1 => ?_) (fun g2 => ?_)
          · exfalso
            simp at g1
          refine CW.skip (KW.blockN (KW.then_ (CW.region ?_)))
          refine TW.move rfl rfl rfl ct ?_
          refine TW.add rfl rfl rfl ct rfl ct (fun _ => by (try dsimp only); omega) ?_
          refine TW.assign rfl rfl rfl ct ?_
          refine TW.nil (KW.pick [0, 1, 2, 7, 8, 9, 10, 11] [(0, _, _), (1, _, _), (2, _, _), (7, _, _), (8, _, _), (9, _, _), (10, _, _), (11, _, _)] rfl ?_)
          exact KW.round (i + 1) [0, 1, 2, 7, 8, 9] rfl ⟨by omega, hB5⟩ (by omega)
  · refine CW.exit (KW.thenX (KW.thenX (KW.blockX (KW.then_ (CW.seq (CW.region ?_))))))
    refine TW.move rfl rfl rfl ct ?_
    refine TW.move rfl rfl rfl ct ?_
    refine TW.move rfl rfl rfl ct ?_
    refine TW.lenSlice rfl rfl Tryd.underlying26 rfl id ?_
    refine TW.leq rfl rfl rfl id rfl ct ?_
    refine TW.pickAnd rfl rfl rfl ct rfl pAnd0 ?_
    refine TW.assign rfl rfl rfl ct ?_
    refine TW.nil (KW.pick [0, 1, 2, 6, 7, 8, 9] [(0, _, _), (1, _, _), (2, _, _), (6, _, _), (7, _, _), (8, _, _), (9, _, _)] rfl (KW.then_ ?_))
    refine CW.ret ?_
    refine ret1 Tryd.results3 rfl (⟨b4.step hB, by simp; omega⟩)
end Go.Proofs.YthjcgmjcpmodlaaDoor
