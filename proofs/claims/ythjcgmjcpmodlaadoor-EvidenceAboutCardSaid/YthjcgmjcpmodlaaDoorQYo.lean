import Derived.Test.YthjcgmjcpmodlaaDoorQK
set_option linter.unusedSimpArgs false
set_option linter.unusedVariables false
namespace Go.Proofs.YthjcgmjcpmodlaaDoor
open Go.PF Go.RowKit Go.Ord Go.Sort Go.Proofs

theorem inc_at {a : List Int} (ha : Inc a) {k : Nat} {n : Int} (h1 : ∀ x ∈ a.take k, x < n) (h2 : ∀ x ∈ a.drop k, n ≤ x) (hn : n ∈ a) : a[k]? = some n := by
  have hm : n ∈ a.drop k := by
    rw [← List.take_append_drop k a] at hn
    rcases List.mem_append.1 hn with h | h
    · have := h1 n h; omega
    · exact h
  have hk : k < a.length := by
    rcases Nat.lt_or_ge k a.length with h | h
    · exact h
    · rw [List.drop_of_length_le h] at hm; cases hm
  rw [List.drop_eq_getElem_cons hk] at hm h2
  have h3 := h2 _ (List.mem_cons_self ..)
  rcases List.mem_cons.1 hm with h | h
  · rw [List.getElem?_eq_getElem hk, ← h]
  · obtain ⟨j, hj, e⟩ := List.getElem_of_mem h
    rw [List.getElem_drop] at e
    have h4 := List.pairwise_iff_getElem.1 ha k (k + 1 + j) hk (by simp at hj; omega) (by omega)
    omega

set_option maxRecDepth 20000 in
set_option maxHeartbeats 1000000 in
theorem about_law {w : World} {u v : Value} {l : List Sc} {r : List Rc} (lab : ByteArray) (hl : SS w u l) (hr : SR w v r) (ht : Tabs w) :
    Gives Tryd.prog 6 #[u, v, .string lab] w fun y w' => Below w.heap.size w w' ∧ y = .bool true := by
  obtain ⟨A, cap, rfl, _⟩ := hr.form
  obtain ⟨B, bcap, rfl, _⟩ := hl.form
  refine gives_of (vs := [.slice B l.length bcap, .slice A r.length cap, .string lab]) [(0, none, _), (1, none, _), (2, none, _)] Tryd.func6 rfl Tryd.ntmps6 rfl rfl ?_
  refine CW.seq (CW.region ?_)
  refine TW.assign rfl rfl rfl ct ?_
  refine TW.nil (KW.pick [0, 1, 2, 6] [(0, _, _), (1, _, _), (2, _, _), (6, _, _)] rfl (KW.then_ ?_))
  refine CW.seq (CW.region ?_)
  refine TW.call0 (cap := []) rfl rfl en7 rfl Args.nil (head_c ht) ?_
  rintro y w1 ⟨b1, rfl⟩
  have hl1 := ss_step hl b1
  have hr1 := sr_step hr b1
  refine TW.assign rfl rfl rfl ct ?_
  refine TW.nil (KW.pick [0, 1, 2, 6, 7] [(0, _, _), (1, _, _), (2, _, _), (6, _, _), (7, _, _)] rfl (KW.then_ ?_))
  refine CW.seq (CW.seq (CW.region ?_))
  refine TW.move rfl rfl rfl ct ?_
  refine TW.move rfl rfl rfl ct ?_
  refine TW.call0 (cap := []) rfl rfl en8 rfl (Args.cons rfl ct (Args.cons rfl ct Args.nil)) (rfew_c hl1 hr1) ?_
  rintro y w3 ⟨c3, b, rfl, hfew⟩
  have b3 := b1.step c3
  refine TW.not rfl rfl rfl ct ?_
  refine TW.nil (KW.pick [0, 1, 2, 6, 7, 18] [(0, _, _), (1, _, _), (2, _, _), (6, _, _), (7, _, _), (18, _, _)] rfl (KW.then_ ?_))
  refine CW.cond rfl (fun hbad => ?_) (fun hgood => ?_)
  · refine CW.seq (CW.region ?_)
    refine TW.move rfl rfl rfl ct ?_
    refine TW.assign rfl rfl rfl ct ?_
    refine TW.nil (KW.pick [0, 1, 2, 6, 7] [(0, _, _), (1, _, _), (2, _, _), (6, _, _), (7, _, _)] rfl (KW.then_ ?_))
    refine CW.ret (KW.thenR ?_)
    refine ret1 Tryd.results6 rfl (⟨b3, rfl⟩)
  have hb : b = true := by cases b with | true => rfl | false => simp at hgood
  subst hb
  obtain ⟨hl30, hr30⟩ := hfew rfl
  refine CW.skip (KW.then_ (CW.seq (CW.region ?_)))
  refine TW.move rfl rfl rfl ct ?_
  refine TW.move rfl rfl rfl ct ?_
  refine TW.move rfl rfl rfl ct ?_
  refine TW.call0 (cap := []) rfl rfl en9 rfl (Args.cons rfl ct (Args.cons rfl ct (Args.cons rfl ct Args.nil))) (events_c (ss_step hl1 c3) (sr_step hr1 c3) (by omega) (ht.below b3)) ?_
  rintro v4 w4 ⟨c4, h4⟩
  obtain ⟨E4, ec4, rfl, _⟩ := h4.form
  refine TW.assign rfl rfl rfl ct ?_
  refine TW.nil (KW.pick [0, 1, 2, 6, 7, 8] [(0, _, _), (1, _, _), (2, _, _), (6, _, _), (7, _, _), (8, _, _)] rfl (KW.then_ ?_))
  refine CW.seq (CW.region ?_)
  refine TW.move rfl rfl rfl ct ?_
  obtain ⟨ev, hev⟩ : ∃ z, z = evsOf l r lab := ⟨_, rfl⟩
  have hen := evs_needs (l := l) (r := r) (lab := lab) (n := 4) (by omega)
  have hel := evs_len l r lab
  have hfd : ∀ e ∈ evsOf l r lab, ∀ k ∈ e.needs, 0 ≤ k ∧ k < (r.length : Int) := fun e he k hk => by
    obtain ⟨j, y, rfl, hj, _⟩ := (mem_evs he).facts.2.1 k hk
    have := (List.getElem?_eq_some_iff.1 hj).1
    omega
  rw [← hev] at h4 hen hel hfd ⊢
  refine TW.call0 (cap := []) rfl rfl en16 rfl (Args.cons rfl ct Args.nil) (about_c h4 (by omega) (fun e he => Nat.le_trans (hen e he) (by omega))) ?_
  rintro v5 w5 ⟨c5, h5, _⟩
  obtain ⟨a, ha⟩ : ∃ z, z = recsS ev := ⟨_, rfl⟩
  rw [← ha] at h5
  have hainc : Inc a := by rw [ha]; exact recsS_inc _
  have hamem : ∀ x, x ∈ a ↔ ∃ e ∈ ev, x ∈ e.needs := fun x => by rw [ha]; exact mem_recsS
  have hab : ∀ x ∈ a, 0 ≤ x ∧ x < (r.length : Int) := fun x hx => by
    obtain ⟨e, he, hxe⟩ := (hamem x).1 hx
    exact hfd e he x hxe
  have h5i : SI w5 v5 a := OwnS.toInts h5 (fun x hx => by have := hab x hx; exact ⟨by omega, by omega⟩) (fun g hg => h5.lt hg) (OwnS.most h5)
  obtain ⟨A5, ac5, rfl, _⟩ := h5i.form
  have hal := h5i.len.2.2
  have b5 := (b3.step c4).step c5
  have h4w := se_step h4 c5
  refine TW.assign rfl rfl rfl ct ?_
  refine TW.nil (KW.pick [0, 1, 2, 6, 7, 8, 9] [(0, _, _), (1, _, _), (2, _, _), (6, _, _), (7, _, _), (8, _, _), (9, _, _)] rfl (KW.then_ ?_))
  refine CW.seq (CW.region ?_)
  refine TW.assign rfl rfl rfl ct ?_
  refine TW.nil (KW.pick [0, 1, 2, 6, 7, 8, 9, 10] [(0, _, _), (1, _, _), (2, _, _), (6, _, _), (7, _, _), (8, _, _), (9, _, _), (10, _, _)] rfl (KW.then_ ?_))
  refine CW.seq (CW.seq (CW.region ?_))
  refine TW.assign rfl rfl rfl ct ?_
  refine TW.nil (KW.pick [0, 1, 2, 6, 7, 8, 9, 10, 11] [(0, _, _), (1, _, _), (2, _, _), (6, _, _), (7, _, _), (8, _, _), (9, _, _), (10, _, _), (11, _, _)] rfl (KW.then_ ?_))
  refine CW.block ?_
  refine CW.loopS (fun z : Nat × Nat => [(1, none, .slice A r.length cap), (7, none, .bool true), (8, none, .slice E4 ev.length ec4), (9, none, .slice A5 a.length ac5), (10, none, .int .i64 (z.2 : Int)), (11, none, .int .i64 (z.1 : Int))])
    (fun z W => z.1 ≤ r.length ∧ Below w5.heap.size w5 W ∧ z.2 ≤ a.length ∧ (∀ x ∈ a.take z.2, x < (z.1 : Int)) ∧ ∀ x ∈ a.drop z.2, (z.1 : Int) ≤ x) (fun z => r.length - z.1) (0, 0) [1, 7, 8, 9, 10, 11]
    ⟨Nat.zero_le _, Below.refl _ _, Nat.zero_le _, fun x hx => by simp at hx, fun x hx => (hab x (List.mem_of_mem_drop hx)).1⟩ rfl ?_
  rintro ⟨n, at_⟩ W ⟨hn, hB, hat, hlo, hhi⟩
  dsimp only at hn hB hat hlo hhi
  have h4W := se_step h4w hB
  have h5W := si_step h5i hB
  refine CW.seq (CW.seq (CW.region ?_))
  refine TW.move rfl rfl rfl ct ?_
  refine TW.move rfl rfl rfl ct ?_
  refine TW.lenSlice rfl rfl Tryd.underlying23 rfl ct ?_
  refine TW.lss rfl rfl rfl ct rfl ct ?_
  refine TW.nil (KW.pick [1, 7, 8, 9, 10, 11, 29] [(1, _, _), (7, _, _), (8, _, _), (9, _, _), (10, _, _), (11, _, _), (29, _, _)] rfl (KW.then_ ?_))
  refine CW.condP rfl (fun hlt => ?_) (fun hge => ?_)
  · refine CW.skip (KW.then_ (CW.seq (CW.block (CW.seq (CW.region ?_)))))
    refine TW.assign rfl rfl rfl ct ?_
    refine TW.nil (KW.pick [1, 7, 8, 9, 10, 11, 12] [(1, _, _), (7, _, _), (8, _, _), (9, _, _), (10, _, _), (11, _, _), (12, _, _)] rfl (KW.then_ ?_))
    refine CW.seq (CW.seq (CW.region ?_))
    refine TW.assign rfl rfl rfl ct ?_
    refine TW.nil (KW.pick [1, 7, 8, 9, 10, 11, 12, 13] [(1, _, _), (7, _, _), (8, _, _), (9, _, _), (10, _, _), (11, _, _), (12, _, _), (13, _, _)] rfl (KW.then_ ?_))
    refine CW.block ?_
    refine CW.loopS (fun z : Nat × Bool => [(1, none, .slice A r.length cap), (7, none, .bool true), (8, none, .slice E4 ev.length ec4), (9, none, .slice A5 a.length ac5), (10, none, .int .i64 (at_ : Int)), (11, none, .int .i64 (n : Int)), (12, none, .bool z.2), (13, none, .int .i64 (z.1 : Int))])
      (fun z W' => z.1 ≤ ev.length ∧ Below W.heap.size W W' ∧ (z.2 = true ↔ ∃ e ∈ ev.take z.1, (n : Int) ∈ e.needs)) (fun z => ev.length - z.1) (0, false) [1, 7, 8, 9, 10, 11, 12, 13]
      ⟨Nat.zero_le _, Below.refl _ _, by simp⟩ rfl ?_
    rintro ⟨i, q⟩ W' ⟨hi, hB', hq⟩
    dsimp only at hi hB' hq
    refine CW.seq (CW.seq (CW.region ?_))
    refine TW.move rfl rfl rfl ct ?_
    refine TW.move rfl rfl rfl ct ?_
    refine TW.lenSlice rfl rfl Tryd.underlying26 rfl ct ?_
    refine TW.lss rfl rfl rfl ct rfl ct ?_
    refine TW.nil (KW.pick [1, 7, 8, 9, 10, 11, 12, 13, 35] [(1, _, _), (7, _, _), (8, _, _), (9, _, _), (10, _, _), (11, _, _), (12, _, _), (13, _, _), (35, _, _)] rfl (KW.then_ ?_))
    refine CW.condP rfl (fun hlt1 => ?_) (fun hge1 => ?_)
    · obtain ⟨e, he, hem⟩ := getx (l := ev) (k := i) (by omega)
      obtain ⟨ad, rfl⟩ := h4W.addr (by omega)
      obtain ⟨N1, nc, hcells, hok⟩ := SE.ok h4W he
      have hcl : ∀ j u, (evV e (.slice N1 e.needs.length nc))[j]? = some u → W'.cell? ((ad.add ((i : Int).toNat * 4)).add j) = some u := fun j u hj => (hB'.cell (block_lt_of_cell (hcells j u hj))).trans (hcells j u hj)
      refine CW.skip (KW.then_ (CW.seq (CW.block (CW.region ?_))))
      refine TW.move rfl rfl rfl ct ?_
      refine TW.move rfl rfl rfl ct ?_
      refine TW.move rfl rfl rfl ct ?_
      refine TW.move rfl rfl rfl ct ?_
      refine TW.indexAddr rfl rfl Tryd.underlying26 sz31 rfl id rfl id (fun h => by (try dsimp only); first | omega | (simp [Cnd] at h; omega)) ?_
      refine TW.loadS _ rfl rfl Tryd.underlying31 sz31 rfl id (fun _ => hcl) rfl ?_
      refine TW.move rfl rfl rfl ct ?_
      refine TW.callF (cap := []) rfl rfl en15 rfl ct (Args.cons rfl id (Args.cons rfl id Args.nil)) (fun _ => needs_c (hok.below hB')) ?_
      rintro w6 c6
      refine TW.pickOr rfl rfl rfl ct rfl pOr0 ?_
      refine TW.assign rfl rfl rfl ct ?_
      refine TW.nil (KW.pick [1, 7, 8, 9, 10, 11, 12, 13] [(1, _, _), (7, _, _), (8, _, _), (9, _, _), (10, _, _), (11, _, _), (12, _, _), (13, _, _)] rfl (KW.blockN (KW.then_ ?_)))
      refine CW.region ?_
      refine TW.move rfl rfl rfl ct ?_
      refine TW.add rfl rfl rfl ct rfl ct (fun _ => by (try dsimp only); omega) ?_
      refine TW.assign rfl rfl rfl ct ?_
      refine TW.nil (KW.pick [1, 7, 8, 9, 10, 11, 12, 13] [(1, _, _), (7, _, _), (8, _, _), (9, _, _), (10, _, _), (11, _, _), (12, _, _), (13, _, _)] rfl ?_)
      refine KW.round (i + 1, q || decide ((n : Int) ∈ e.needs)) [1, 7, 8, 9, 10, 11, 12, 13] ?_ ⟨by show i + 1 ≤ ev.length; omega, hB'.step c6, ?_⟩ (by show ev.length - (i + 1) < ev.length - i; omega)
      · cases q <;> rfl
      · show (q || decide ((n : Int) ∈ e.needs)) = true ↔ ∃ f ∈ ev.take (i + 1), (n : Int) ∈ f.needs
        rw [List.take_add_one, he, Bool.or_eq_true, hq, decide_eq_true_eq]
        simp only [Option.toList_some, List.mem_append, List.mem_singleton]
        constructor
        · rintro (⟨f, h1, h2⟩ | h)
          · exact ⟨f, .inl h1, h2⟩
          · exact ⟨e, .inr rfl, h⟩
        · rintro ⟨f, h1 | rfl, h2⟩
          · exact .inl ⟨f, h1, h2⟩
          · exact .inr h2
    have hie : i = ev.length := by omega
    subst hie
    rw [List.take_length, ← hamem] at hq
    have hB1 := hB.step hB'
    refine CW.exit (KW.thenX (KW.thenX (KW.blockX (KW.then_ (CW.seq (CW.region ?_))))))
    refine TW.move rfl rfl rfl ct ?_
    refine TW.nil (KW.pick [1, 7, 8, 9, 10, 11, 12, 13, 47] [(1, _, _), (7, _, _), (8, _, _), (9, _, _), (10, _, _), (11, _, _), (12, _, _), (13, _, _), (47, _, _)] rfl (KW.then_ ?_))
    refine CW.cond rfl (fun hin => ?_) (fun hout => ?_)
    · have hna := hq.1 hin
      have hget := inc_at hainc hlo hhi hna
      have hk := (List.getElem?_eq_some_iff.1 hget).1
      have h5W' := si_step h5W hB'
      obtain ⟨ad, rfl⟩ := h5W'.addr (by omega)
      refine CW.seq (CW.seq (CW.region ?_))
      refine TW.move rfl rfl rfl ct ?_
      refine TW.move rfl rfl rfl ct ?_
      refine TW.lenSlice rfl rfl Tryd.underlying29 rfl ct ?_
      refine TW.geq rfl rfl rfl ct rfl ct ?_
      refine TW.move rfl rfl rfl ct ?_
      refine TW.known rfl (by simp [Cnd]; omega) ?_
      refine TW.move rfl rfl rfl ct ?_
      refine TW.known rfl (by simp [Cnd]; omega) ?_
      refine TW.move rfl rfl rfl ct ?_
      refine TW.known rfl (by simp [Cnd]; omega) ?_
      refine TW.indexAddr rfl rfl Tryd.underlying29 sz3 rfl ct rfl ct (fun _ => by (try dsimp only); omega) ?_
      refine TW.known rfl (by simp [Cnd]; omega) ?_
      refine TW.load rfl rfl one3 rfl ct (fun _ => h5W'.getI hget) ?_
      refine TW.known rfl (by simp [Cnd]; omega) ?_
      refine TW.move rfl rfl rfl ct ?_
      refine TW.known rfl (by simp [Cnd]; omega) ?_
      refine TW.neq rfl rfl rfl ct rfl ct ?_
      refine TW.pickOr rfl rfl rfl ct rfl pT ?_
      refine TW.nil (KW.pick [1, 7, 8, 9, 10, 11, 12, 13, 59] [(1, _, _), (7, _, _), (8, _, _), (9, _, _), (10, _, _), (11, _, _), (12, _, _), (13, _, _), (59, _, _)] rfl (KW.then_ ?_))
      refine CW.cond rfl (fun hb1 => ?_) (fun hb2 => ?_)
      · exfalso
        simp at hb1
        omega
      refine CW.skip (KW.then_ (CW.region ?_))
      refine TW.move rfl rfl rfl ct ?_
      refine TW.add rfl rfl rfl ct rfl ct (fun _ => by (try dsimp only); omega) ?_
      refine TW.assign rfl rfl rfl ct ?_
      refine TW.nil (KW.pick [1, 7, 8, 9, 10, 11, 12, 13] [(1, _, _), (7, _, _), (8, _, _), (9, _, _), (10, _, _), (11, _, _), (12, _, _), (13, _, _)] rfl (KW.blockN (KW.then_ ?_)))
      refine CW.region ?_
      refine TW.move rfl rfl rfl ct ?_
      refine TW.add rfl rfl rfl ct rfl ct (fun _ => by (try dsimp only); omega) ?_
      refine TW.assign rfl rfl rfl ct ?_
      refine TW.nil (KW.pick [1, 7, 8, 9, 10, 11, 12, 13] [(1, _, _), (7, _, _), (8, _, _), (9, _, _), (10, _, _), (11, _, _), (12, _, _), (13, _, _)] rfl ?_)
      refine KW.round (n + 1, at_ + 1) [1, 7, 8, 9, 10, 11] rfl ⟨by show n + 1 ≤ r.length; omega, hB1, by show at_ + 1 ≤ a.length; omega, fun x hx => ?_, fun x hx => ?_⟩ (by show r.length - (n + 1) < r.length - n; omega)
      · have hx : x ∈ a.take (at_ + 1) := hx
        rw [List.take_add_one, hget] at hx
        show x < ((n + 1 : Nat) : Int)
        rcases List.mem_append.1 hx with h | h
        · have := hlo x h; omega
        · simp at h; omega
      · have hx : x ∈ a.drop (at_ + 1) := hx
        show ((n + 1 : Nat) : Int) ≤ x
        have h1 := hhi x (by rw [List.drop_eq_getElem_cons hk]; exact List.mem_cons_of_mem _ hx)
        have h2 : x ≠ n := fun e => by
          subst e
          obtain ⟨j, hj, e⟩ := List.getElem_of_mem hx
          rw [List.getElem_drop] at e
          have h4 := List.pairwise_iff_getElem.1 hainc at_ (at_ + 1 + j) hk (by simp at hj; omega) (by omega)
          have h6 := (List.getElem?_eq_some_iff.1 hget).2
          omega
        omega
    · have hna : (n : Int) ∉ a := fun h => by rw [hq.2 h] at hout; cases hout
      refine CW.skip (KW.blockN (KW.then_ (CW.region ?_)))
      refine TW.move rfl rfl rfl ct ?_
      refine TW.add rfl rfl rfl ct rfl ct (fun _ => by (try dsimp only); omega) ?_
      refine TW.assign rfl rfl rfl ct ?_
      refine TW.nil (KW.pick [1, 7, 8, 9, 10, 11, 12, 13] [(1, _, _), (7, _, _), (8, _, _), (9, _, _), (10, _, _), (11, _, _), (12, _, _), (13, _, _)] rfl ?_)
      refine KW.round (n + 1, at_) [1, 7, 8, 9, 10, 11] rfl ⟨by show n + 1 ≤ r.length; omega, hB1, hat, fun x hx => ?_, fun x hx => ?_⟩ (by show r.length - (n + 1) < r.length - n; omega)
      · have := hlo x hx
        show x < ((n + 1 : Nat) : Int)
        omega
      · have := hhi x hx
        have h2 : x ≠ n := fun e => hna (e ▸ List.mem_of_mem_drop hx)
        show ((n + 1 : Nat) : Int) ≤ x
        omega
  · have hne : n = r.length := by omega
    subst hne
    have hend : at_ = a.length := by
      rcases Nat.lt_or_ge at_ a.length with h | h
      · have h1 := hhi a[at_] (by rw [List.drop_eq_getElem_cons h]; exact List.mem_cons_self ..)
        have h2 := (hab a[at_] (List.getElem_mem h)).2
        omega
      · omega
    refine CW.exit (KW.thenX (KW.thenX (KW.blockX (KW.then_ (CW.seq (CW.region ?_))))))
    refine TW.move rfl rfl rfl ct ?_
    refine TW.move rfl rfl rfl ct ?_
    refine TW.move rfl rfl rfl ct ?_
    refine TW.move rfl rfl rfl ct ?_
    refine TW.lenSlice rfl rfl Tryd.underlying29 rfl id ?_
    refine TW.eql rfl rfl rfl id rfl id ?_
    refine TW.pickAnd rfl rfl rfl ct rfl pAnd0 ?_
    refine TW.assign rfl rfl rfl ct ?_
    refine TW.nil (KW.pick [1, 6, 7, 8, 9, 10, 11] [(1, _, _), (6, _, _), (7, _, _), (8, _, _), (9, _, _), (10, _, _), (11, _, _)] rfl (KW.then_ ?_))
    refine CW.ret ?_
    refine ret1 Tryd.results6 rfl (⟨b5.step hB, by rw [hend]; simp⟩)
end Go.Proofs.YthjcgmjcpmodlaaDoor
