import Derived.Test.YthjcgmjcpmodlaaGreatDoorQK
set_option linter.unusedSimpArgs false
set_option linter.unusedVariables false
namespace Go.Proofs.YthjcgmjcpmodlaaGreatDoor
open Go.PF Go.RowKit Go.Ord Go.Sort Go.Proofs

theorem rcT_one : Ty.One rcT := fun _ _ _ _ ⟨v, h, _, _, _, _, _, A, cap, hv, _⟩ u hu => by
  rw [h] at hu
  simp at hu
  rcases hu with rfl | rfl | rfl | rfl | rfl | rfl <;> first | rfl | (rw [hv]; rfl)
theorem rc_many {w0 w : World} {F : Nat → Prop} {v xv : Value} {ps1 : List (List Value × Rc)} {r : List Rc} {x : Rc} {n : Nat} (hb : Below w0.heap.size w0 w) (r1 : ∀ p ∈ ps1, rcT.rep F w0 p.1 p.2) (p1 : ps1.map (·.2) = r) (hok : RcOK F w0 xv x) (hn : n = r.length)
    (h : OwnS w 37 6 v (0 + n + 1) ([] ++ ps1.flatMap (·.1) ++ rcV x xv) ∧ ∀ g, v.ownBlock = some g → w0.heap.size ≤ g) (hs : n ≤ 1000000000000000000) : SR w v (r ++ [x]) := by
  subst hn
  have hlen1 : ps1.length = r.length := by have := congrArg List.length p1; simpa using this
  have h1 := OwnS.toSLn (T := rcT) (by decide) (n := 0 + r.length + 1) (ps := ps1 ++ [(rcV x xv, x)]) hb (fun q hq => (List.mem_append.1 hq).elim (r1 q) (fun h => by rw [List.mem_singleton] at h; subst h; exact ⟨_, rfl, hok.i1, hok.i2, hok.i3, hok.i4, hok.lb, hok.ct⟩)) (by
    rw [List.flatMap_append]
    have h18 := h.1
    rw [List.nil_append] at h18
    rw [← hlen1, Nat.add_comm 0] at h18 ⊢
    simpa [rcT, Nat.zero_add] using h18) (by simp; omega) (by simp; omega)
  rw [List.map_append, p1] at h1
  exact h1.now rcT_now
noncomputable def wantL (l : List Sc) (s : List Rc) (lab : ByteArray) : Nat → List Ev
  | 0 => []
  | i + 1 => wantL l s lab i ++ (match s[i]? with | none => [] | some x => if dec (x.label = lab) && dec (Val l x) then [evOf l x [(i : Int)]] else [])
theorem mem_wantL {l : List Sc} {s : List Rc} {lab : ByteArray} {e : Ev} : ∀ {n : Nat}, e ∈ wantL l s lab n ↔ ∃ (i : Nat) (x : Rc), i < n ∧ s[i]? = some x ∧ x.label = lab ∧ Val l x ∧ e = evOf l x [(i : Int)]
  | 0 => by simp [wantL]
  | n + 1 => by
    unfold wantL
    rw [List.mem_append, mem_wantL]
    constructor
    · rintro (⟨i, x, h1, h2⟩ | h)
      · exact ⟨i, x, by omega, h2⟩
      · split at h
        · cases h
        · rename_i x hx
          split at h
          · rename_i hc
            rw [Bool.and_eq_true] at hc
            rw [List.mem_singleton] at h
            exact ⟨n, x, by omega, hx, dec_iff.1 hc.1, dec_iff.1 hc.2, h⟩
          · cases h
    · rintro ⟨i, x, h1, h2, h3, h4, h5⟩
      rcases Nat.lt_or_ge i n with h | h
      · exact .inl ⟨i, x, h, h2, h3, h4, h5⟩
      · have : i = n := by omega
        subst this
        right
        rw [h2]
        dsimp only
        rw [dec_pos h3, dec_pos h4, h5]
        simp
theorem wantL_len (l : List Sc) (s : List Rc) (lab : ByteArray) : ∀ n, (wantL l s lab n).length ≤ n
  | 0 => by simp [wantL]
  | n + 1 => by
    unfold wantL
    rw [List.length_append]
    have := wantL_len l s lab n
    split
    · simp; omega
    · split <;> simp <;> omega

set_option maxRecDepth 20000 in
set_option maxHeartbeats 1000000 in
theorem manifests_law {w : World} {u v xv : Value} {l : List Sc} {r : List Rc} {m : Rc} {F : Nat → Prop} (lab : ByteArray) (hl : SS w u l) (hr : SR w v r) (hx : RcOK F w xv m) (hbig : r.length * 72 ≤ 140737488351232) (ht : Tabs w) :
    Gives Tryz.prog 4 #[u, v, .agg (rcV m xv).toArray, .string lab] w fun y w' => Below w.heap.size w w' ∧ y = .bool true := by
  obtain ⟨A, cap, rfl, _⟩ := hr.form
  obtain ⟨B, bcap, rfl, _⟩ := hl.form
  obtain ⟨X, xcap, rfl, _⟩ := hx.ct.form
  have hrmax := hr.len.2.2
  have hx := (⟨hx.i1, hx.i2, hx.i3, hx.i4, hx.lb, hx.ct.now strT_now⟩ : RcOK (fun k => k < w.heap.size) w (.slice X m.cont.length xcap) m)
  refine gives_of (vs := [.slice B l.length bcap, .slice A r.length cap, .agg (rcV m (.slice X m.cont.length xcap)).toArray, .string lab]) [(0, none, _), (1, none, _), (2, none, _), (3, none, _)] Tryz.func4 rfl Tryz.ntmps4 rfl rfl ?_
  refine CW.seq (CW.region ?_)
  refine TW.box rfl rfl rfl rfl ?_
  rintro g0 w0 f0
  refine TW.assign rfl rfl rfl ct ?_
  refine TW.nil (KW.pick [0, 1, 2, 3, 6, 8] [(0, _, _), (1, _, _), (2, _, _), (3, _, _), (6, _, _), (8, _, _)] rfl (KW.then_ ?_))
  refine CW.seq (CW.region ?_)
  have ht0 := ht.below f0.below
  refine TW.call0 (cap := []) rfl rfl en5 rfl Args.nil (head_c ht0) ?_
  rintro y w1 ⟨c1, rfl⟩
  have b1 := f0.below.step c1
  have hl1 := ss_step hl b1
  have hr1 := sr_step hr b1
  have hx1 := hx.step b1
  have hB1 := f0.blk.next c1
  have ht1 := ht.below b1
  refine TW.assign rfl rfl rfl ct ?_
  refine TW.nil (KW.pick [0, 1, 2, 3, 6, 8, 9] [(0, _, _), (1, _, _), (2, _, _), (3, _, _), (6, _, _), (8, _, _), (9, _, _)] rfl (KW.then_ ?_))
  refine CW.seq (CW.region ?_)
  refine TW.assign rfl rfl rfl ct ?_
  refine TW.nil (KW.pick [0, 1, 2, 3, 6, 8, 9, 10] [(0, _, _), (1, _, _), (2, _, _), (3, _, _), (6, _, _), (8, _, _), (9, _, _), (10, _, _)] rfl (KW.then_ ?_))
  refine CW.seq (CW.seq (CW.region ?_))
  refine TW.assign rfl rfl rfl ct ?_
  refine TW.nil (KW.pick [0, 1, 2, 3, 6, 8, 9, 10, 11] [(0, _, _), (1, _, _), (2, _, _), (3, _, _), (6, _, _), (8, _, _), (9, _, _), (10, _, _), (11, _, _)] rfl (KW.then_ ?_))
  refine CW.block ?_
  refine CW.loopS (fun z : Nat × Value × List (List Value × Rc) => [(0, none, .slice B l.length bcap), (1, none, .slice A r.length cap), (3, none, .string lab), (6, none, .pointer (some ⟨g0, 0, none⟩)), (9, none, .bool true), (10, none, z.2.1), (11, none, .int .i64 (z.1 : Int))])
    (fun z W => z.1 ≤ r.length ∧ Below w1.heap.size w1 W ∧ RowL rcT W 37 w1.heap.size z.2.1 z.2.2 ∧ z.2.2.map (·.2) = (r.take z.1).filter (fun x => decide (x.kind = 1))) (fun z => r.length - z.1) (0, .slice none 0 0, []) [0, 1, 3, 6, 9, 10, 11]
    ⟨Nat.zero_le _, Below.refl _ _, RowL.nil _ _ _ _, by simp⟩ rfl ?_
  rintro ⟨i, ov, ps⟩ W ⟨hi, hB, hR, hmap⟩
  dsimp only at hi hB hR hmap
  have hpl : ps.length ≤ i := by
    have h1 := congrArg List.length hmap
    rw [List.length_map] at h1
    have h2 := List.length_filter_le (fun x : Rc => decide (x.kind = 1)) (r.take i)
    rw [← h1, List.length_take] at h2
    omega
  have hrW := sr_step hr1 hB
  refine CW.seq (CW.seq (CW.region ?_))
  refine TW.move rfl rfl rfl ct ?_
  refine TW.move rfl rfl rfl ct ?_
  refine TW.lenSlice rfl rfl Tryz.underlying23 rfl ct ?_
  refine TW.lss rfl rfl rfl ct rfl ct ?_
  refine TW.nil (KW.pick [0, 1, 3, 6, 9, 10, 11, 26] [(0, _, _), (1, _, _), (3, _, _), (6, _, _), (9, _, _), (10, _, _), (11, _, _), (26, _, _)] rfl (KW.then_ ?_))
  refine CW.condP rfl (fun hlt => ?_) (fun hge => ?_)
  · obtain ⟨x, hx0, hxm⟩ := getx (l := r) (k := i) (by omega)
    obtain ⟨ad, rfl⟩ := hrW.addr (by omega)
    obtain ⟨yv, hcells, hok⟩ := SR.get hr1 (ad := ad) hx0
    obtain ⟨Y, ycap, rfl, _⟩ := hok.ct.form
    have hcl : ∀ j u, (rcV x (.slice Y x.cont.length ycap))[j]? = some u → W.cell? ((ad.add ((i : Int).toNat * 6)).add j) = some u := fun j u hj => (hB.cell (block_lt_of_cell (hcells j u hj))).trans (hcells j u hj)
    have htk : r.take (i + 1) = r.take i ++ [x] := by rw [List.take_add_one, hx0]; rfl
    refine CW.skip (KW.then_ (CW.seq (CW.block (CW.seq (CW.region ?_)))))
    refine TW.move rfl rfl rfl ct ?_
    refine TW.move rfl rfl rfl ct ?_
    refine TW.indexAddr rfl rfl Tryz.underlying23 sz37 rfl ct rfl ct (fun _ => by (try dsimp only); omega) ?_
    refine TW.fieldAddr rfl rfl fo37_2 rfl ct ?_
    refine TW.load rfl rfl one3 rfl ct (fun _ => hcl 2 _ rfl) ?_
    refine TW.eql rfl rfl rfl ct rfl ct ?_
    refine TW.nil (KW.pick [0, 1, 3, 6, 9, 10, 11, 34] [(0, _, _), (1, _, _), (3, _, _), (6, _, _), (9, _, _), (10, _, _), (11, _, _), (34, _, _)] rfl (KW.then_ ?_))
    refine CW.condP rfl (fun hk1 => ?_) (fun hk2 => ?_)
    · refine CW.region ?_
      refine TW.move rfl rfl rfl ct ?_
      refine TW.move rfl rfl rfl ct ?_
      refine TW.move rfl rfl rfl ct ?_
      refine TW.indexAddr rfl rfl Tryz.underlying23 sz37 rfl ct rfl ct (fun _ => by (try dsimp only); omega) ?_
      refine TW.loadS _ rfl rfl Tryz.underlying37 sz37 rfl ct (fun _ => hcl) rfl ?_
      refine TW.buildSlice 37 _ rfl rfl rfl eo23 (Args.cons rfl ct Args.nil) rfl rfl rfl rfl rfl ?_
      rintro g6 w6 f6
      have hR6 := hR.step f6.below
      have hB6 := hB.step f6.below
      have hok6 := hok.below hB6
      have hrn : SL strT (RowF w6 ov) w6 (.slice Y x.cont.length ycap) x.cont := hok6.ct.wider fun k hk => ⟨by have := hB6.size; omega, fun e2 => by have := hR.2.2 k e2; omega⟩
      refine TW.append (rcV x (.slice Y x.cont.length ycap)) rfl rfl go23 rfl hR6.1 rfl rfl (fun j u hj => ⟨_, rfl, f6.blk.fld hj⟩) (fun u hu => by simp [rcV] at hu; rcases hu with rfl | rfl | rfl | rfl | rfl | rfl <;> rfl) (by omega) (by omega) ?_
      rintro ov' w7 hO7 hg7 hn7
      refine TW.assign rfl rfl rfl ct ?_
      refine TW.nil (KW.pick [0, 1, 3, 6, 9, 10, 11] [(0, _, _), (1, _, _), (3, _, _), (6, _, _), (9, _, _), (10, _, _), (11, _, _)] rfl (KW.blockN (KW.then_ ?_)))
      refine CW.region ?_
      refine TW.move rfl rfl rfl ct ?_
      refine TW.add rfl rfl rfl ct rfl ct (fun _ => by (try dsimp only); omega) ?_
      refine TW.assign rfl rfl rfl ct ?_
      refine TW.nil (KW.pick [0, 1, 3, 6, 9, 10, 11] [(0, _, _), (1, _, _), (3, _, _), (6, _, _), (9, _, _), (10, _, _), (11, _, _)] rfl ?_)
      have hR7 : RowL rcT w7 37 w1.heap.size ov' (ps ++ [(rcV x (.slice Y x.cont.length ycap), x)]) := hR6.app hO7 hg7 hn7 ⟨_, rfl, hok.i1, hok.i2, hok.i3, hok.i4, hok.lb, hrn⟩ hB6.size
      refine KW.round (i + 1, ov', ps ++ [(rcV x (.slice Y x.cont.length ycap), x)]) [0, 1, 3, 6, 9, 10, 11] rfl ⟨by show i + 1 ≤ _; omega, hB6.grown hg7 hB6.size hR.2.2, hR7, ?_⟩ (by show r.length - (i + 1) < r.length - i; omega)
      show List.map Prod.snd (ps ++ [_]) = (r.take (i + 1)).filter _
      rw [List.map_append, hmap, htk, List.filter_append, List.filter_cons_of_pos (by exact decide_eq_true hk1), List.filter_nil]
      rfl
    · refine CW.skip (KW.blockN (KW.then_ (CW.region ?_)))
      refine TW.move rfl rfl rfl ct ?_
      refine TW.add rfl rfl rfl ct rfl ct (fun _ => by (try dsimp only); omega) ?_
      refine TW.assign rfl rfl rfl ct ?_
      refine TW.nil (KW.pick [0, 1, 3, 6, 9, 10, 11] [(0, _, _), (1, _, _), (3, _, _), (6, _, _), (9, _, _), (10, _, _), (11, _, _)] rfl ?_)
      refine KW.round (i + 1, ov, ps) [0, 1, 3, 6, 9, 10, 11] rfl ⟨by show i + 1 ≤ _; omega, hB, hR, ?_⟩ (by show r.length - (i + 1) < r.length - i; omega)
      show ps.map (·.2) = (r.take (i + 1)).filter _
      rw [hmap, htk, List.filter_append, List.filter_cons_of_neg (by rw [decide_eq_false hk2]; simp), List.filter_nil, List.append_nil]
  have hie : i = r.length := by omega
  subst hie
  rw [List.take_length] at hmap
  have hS := hR.sl (by decide)
  rw [hmap] at hS
  obtain ⟨s, hs⟩ : ∃ s, s = r.filter (fun x => decide (x.kind = 1)) := ⟨_, rfl⟩
  rw [← hs] at hS hmap
  have hsk : ∀ x ∈ s, x.kind ≠ 2 := fun x hx => by
    rw [hs, List.mem_filter] at hx
    have := of_decide_eq_true hx.2
    omega
  have hsl : ps.length = s.length := by rw [← hmap, List.length_map]
  obtain ⟨O1, oc1, hov⟩ := hR.form
  subst hov
  rw [hsl] at hS hpl ⊢
  have b2 := b1.step hB
  have hl2 := ss_step hl1 hB
  have hx2 := hx1.step hB
  have hB2 := hB1.next hB
  have ht2 := ht1.below hB
  obtain ⟨ps1, p1, r1, n1, a1⟩ := hS.flat (T := rcT) (by decide)
  refine CW.exit (KW.thenX (KW.thenX (KW.blockX (KW.then_ (CW.seq (CW.drawO mixed (by kernel_rfl) ?_))))))
  refine OW.buildSlice0 37 rfl rfl eo23 ?_
  refine DW.move rfl rfl rfl ct ?_
  refine OW.append (m := s.length) (A := O1) (ps1.flatMap (·.1)) rfl rfl go23 rfl (by kernel_rfl) rfl ct a1 n1 (one_flat rcT_one r1) (by omega) (by omega) ?_
  refine DW.loadS _ rfl rfl Tryz.underlying37 sz37 rfl ct (fun _ => (fun _ _ hv => hB2.fld hv)) rfl ?_
  refine OW.buildSlice 37 _ rfl rfl rfl eo23 (DArgs.cons rfl ct DArgs.nil) rfl rfl rfl rfl rfl ?_
  refine OW.appendR (rcV m (.slice X m.cont.length xcap)) rfl rfl go23 rfl (by kernel_rfl) rfl ct (fun u hu => by
    simp [rcV] at hu
    rcases hu with rfl | rfl | rfl | rfl | rfl | rfl <;> rfl) (by omega) (by omega) rfl ?_
  refine OW.assign rfl rfl rfl ct (rowE_strong _ _ _ _ _) (by kernel_rfl) ?_
  refine DW.nil (DW.finX [0, 1, 3, 6, 9, 10, 11] [(0, _, _), (1, _, _), (3, _, _), (6, _, _), (9, _, _), (10, _, _), (11, _, _)] rfl [12] rfl fun vs w3 c3 hs3 => KW.then_ ?_)
  obtain ⟨v12, rfl, h12⟩ := Sats.one hs3
  refine CW.seq (CW.seq (CW.region ?_))
  refine TW.move rfl rfl rfl ct ?_
  refine TW.move rfl rfl rfl ct ?_
  have hm3 : SR w3 v12 (s ++ [m]) := rc_many c3 r1 p1 hx2 rfl h12 (by omega)
  obtain ⟨M, mcap, rfl, _⟩ := hm3.form
  have b3 := b2.step c3
  have hl3 := ss_step hl2 c3
  have hS3 := sr_step hS c3
  have hx3 := hx2.step c3
  have hB3 := hB2.next c3
  have ht3 := ht2.below c3
  refine TW.call0 (cap := []) rfl rfl en6 rfl (Args.cons rfl ct (Args.cons rfl ct Args.nil)) (rfew_c hl3 hm3) ?_
  rintro y w4 ⟨c4, b, rfl, hfew⟩
  have b4 := b3.step c4
  refine TW.not rfl rfl rfl ct ?_
  refine TW.nil (KW.pick [0, 1, 3, 6, 9, 10, 11, 12, 51] [(0, _, _), (1, _, _), (3, _, _), (6, _, _), (9, _, _), (10, _, _), (11, _, _), (12, _, _), (51, _, _)] rfl (KW.then_ ?_))
  refine CW.cond rfl (fun hbad => ?_) (fun hgood => ?_)
  · refine CW.seq (CW.region ?_)
    refine TW.move rfl rfl rfl ct ?_
    refine TW.assign rfl rfl rfl ct ?_
    refine TW.nil (KW.pick [0, 1, 3, 6, 8, 9, 10, 11, 12] [(0, _, _), (1, _, _), (3, _, _), (6, _, _), (8, _, _), (9, _, _), (10, _, _), (11, _, _), (12, _, _)] rfl (KW.then_ ?_))
    refine CW.ret (KW.thenR ?_)
    refine ret1 Tryz.results4 rfl (⟨b4, rfl⟩)
  have hb : b = true := by cases b with | true => rfl | false => simp at hgood
  subst hb
  obtain ⟨hl30, hm30⟩ := hfew rfl
  have hs30 : s.length ≤ 29 := by simp at hm30; omega
  have hl4 := ss_step hl3 c4
  have hS4 := sr_step hS3 c4
  have hm4 := sr_step hm3 c4
  have hx4 := hx3.step c4
  have hB4 := hB3.next c4
  have ht4 := ht3.below c4
  refine CW.skip (KW.then_ (CW.seq (CW.region ?_)))
  refine TW.assign rfl rfl rfl ct ?_
  refine TW.nil (KW.pick [0, 1, 3, 6, 9, 10, 11, 12, 13] [(0, _, _), (1, _, _), (3, _, _), (6, _, _), (9, _, _), (10, _, _), (11, _, _), (12, _, _), (13, _, _)] rfl (KW.then_ ?_))
  refine CW.seq (CW.seq (CW.region ?_))
  refine TW.assign rfl rfl rfl ct ?_
  refine TW.nil (KW.pick [0, 1, 3, 6, 9, 10, 11, 12, 13, 14] [(0, _, _), (1, _, _), (3, _, _), (6, _, _), (9, _, _), (10, _, _), (11, _, _), (12, _, _), (13, _, _), (14, _, _)] rfl (KW.then_ ?_))
  refine CW.block ?_
  refine CW.loopS (fun z : Nat × Value × List (List Value × Ev) => [(0, none, .slice B l.length bcap), (3, none, .string lab), (6, none, .pointer (some ⟨g0, 0, none⟩)), (9, none, .bool true), (10, none, .slice O1 s.length oc1), (12, none, .slice M (s ++ [m]).length mcap), (13, none, z.2.1), (14, none, .int .i64 (z.1 : Int))])
    (fun z W => z.1 ≤ s.length ∧ Below w4.heap.size w4 W ∧ RowL evT W 29 w4.heap.size z.2.1 z.2.2 ∧ z.2.2.map (·.2) = wantL l s lab z.1) (fun z => s.length - z.1) (0, .slice none 0 0, []) [0, 3, 6, 9, 10, 12, 13, 14]
    ⟨Nat.zero_le _, Below.refl _ _, RowL.nil _ _ _ _, rfl⟩ rfl ?_
  rintro ⟨i, ov, ps⟩ W5 ⟨hi, hB5, hR5, hmap5⟩
  dsimp only at hi hB5 hR5 hmap5
  have hwl := wantL_len l s lab i
  have hpl5 : ps.length = (wantL l s lab i).length := by rw [← hmap5, List.length_map]
  have hS5 := sr_step hS4 hB5
  have hl5 := ss_step hl4 hB5
  refine CW.seq (CW.seq (CW.region ?_))
  refine TW.move rfl rfl rfl ct ?_
  refine TW.move rfl rfl rfl ct ?_
  refine TW.lenSlice rfl rfl Tryz.underlying23 rfl ct ?_
  refine TW.lss rfl rfl rfl ct rfl ct ?_
  refine TW.nil (KW.pick [0, 3, 6, 9, 10, 12, 13, 14, 56] [(0, _, _), (3, _, _), (6, _, _), (9, _, _), (10, _, _), (12, _, _), (13, _, _), (14, _, _), (56, _, _)] rfl (KW.then_ ?_))
  refine CW.condP rfl (fun hlt => ?_) (fun hge => ?_)
  · obtain ⟨x, hx0, hxm⟩ := getx (l := s) (k := i) (by omega)
    obtain ⟨ad, rfl⟩ := hS5.addr (by omega)
    obtain ⟨yv, hcells, hok⟩ := SR.get hS4 (ad := ad) hx0
    obtain ⟨Y, ycap, rfl, _⟩ := hok.ct.form
    have hcl : ∀ {X : World}, Below w4.heap.size w4 X → ∀ j u, (rcV x (.slice Y x.cont.length ycap))[j]? = some u → X.cell? ((ad.add ((i : Int).toNat * 6)).add j) = some u := fun hb j u hj => (hb.cell (block_lt_of_cell (hcells j u hj))).trans (hcells j u hj)
    have hwn : wantL l s lab (i + 1) = wantL l s lab i ++ (if dec (x.label = lab) && dec (Val l x) then [evOf l x [(i : Int)]] else []) := by
      rw [wantL, hx0]
    refine CW.skip (KW.then_ (CW.seq (CW.block (CW.seq (CW.region ?_)))))
    refine TW.move rfl rfl rfl ct ?_
    refine TW.move rfl rfl rfl ct ?_
    refine TW.indexAddr rfl rfl Tryz.underlying23 sz37 rfl ct rfl ct (fun _ => by (try dsimp only); omega) ?_
    refine TW.fieldAddr rfl rfl fo37_4 rfl ct ?_
    refine TW.load rfl rfl one9 rfl ct (fun _ => hcl hB5 4 _ rfl) ?_
    refine TW.move rfl rfl rfl ct ?_
    refine TW.eqlS rfl rfl rfl ct rfl ct ?_
    refine TW.move rfl rfl rfl ct ?_
    refine TW.move rfl rfl rfl ct ?_
    refine TW.move rfl rfl rfl ct ?_
    refine TW.move rfl rfl rfl ct ?_
    refine TW.indexAddr rfl rfl Tryz.underlying23 sz37 rfl id rfl id (fun h => by (try dsimp only); first | omega | (simp [Cnd] at h; omega)) ?_
    refine TW.loadS _ rfl rfl Tryz.underlying37 sz37 rfl id (fun _ => (hcl hB5)) rfl ?_
    rw [beqL]
    refine TW.callF (cap := []) rfl rfl en13 rfl ct (Args.cons rfl id (Args.cons rfl id Args.nil)) (fun _ => valid_c hl5 (hok.below hB5)) ?_
    rintro w6 c6
    refine TW.pickAnd rfl rfl rfl ct rfl pAnd0 ?_
    refine TW.nil (KW.pick [0, 3, 6, 9, 10, 12, 13, 14, 73] [(0, _, _), (3, _, _), (6, _, _), (9, _, _), (10, _, _), (12, _, _), (13, _, _), (14, _, _), (73, _, _)] rfl (KW.then_ ?_))
    have hB6 := hB5.step c6
    have hR6 := hR5.step c6
    refine CW.cond rfl (fun hy => ?_) (fun hn => ?_)
    · have hyy : x.label = lab ∧ Val l x := by
        simp only [Bool.and_eq_true, decide_eq_true_eq, dec_iff] at hy
        exact hy
      have hyd : (dec (x.label = lab) && dec (Val l x)) = true := by rw [dec_pos hyy.1, dec_pos hyy.2]; rfl
      rw [hyd, if_pos rfl] at hwn
      refine CW.region ?_
      refine TW.move rfl rfl rfl ct ?_
      refine TW.move rfl rfl rfl ct ?_
      refine TW.move rfl rfl rfl ct ?_
      refine TW.move rfl rfl rfl ct ?_
      refine TW.indexAddr rfl rfl Tryz.underlying23 sz37 rfl ct rfl ct (fun _ => by (try dsimp only); omega) ?_
      refine TW.loadS _ rfl rfl Tryz.underlying37 sz37 rfl ct (fun _ => (hcl hB6)) rfl ?_
      refine TW.move rfl rfl rfl ct ?_
      refine TW.buildSlice 3 _ rfl rfl rfl eo27 (Args.cons rfl ct Args.nil) rfl rfl rfl rfl rfl ?_
      rintro g7 w7 f7
      have hn7 : SI w7 (.slice (some ⟨g7, 0, none⟩) 1 1) [(i : Int)] := litI _ f7.blk rfl (by simp; omega) (by simp)
      have hB7 := hB6.step f7.below
      refine TW.call0 (cap := []) rfl rfl en14 rfl (Args.cons rfl ct (Args.cons rfl ct (Args.cons rfl ct Args.nil))) (rof_c (ss_step hl4 hB7) (hok.below hB7) hyy.2 hn7) ?_
      rintro y8 w8 ⟨c8, rfl⟩
      have hB8 := hB7.step c8
      have hR8 := (hR6.step f7.below).step c8
      refine TW.buildSlice 29 _ rfl rfl rfl eo24 (Args.cons rfl ct Args.nil) rfl rfl rfl rfl rfl ?_
      rintro g9 w9 f9
      have hB9 := hB8.step f9.below
      have hR9 := hR8.step f9.below
      have hn9 := hn7.below (c8.step f9.below)
      have h7s := f7.at_
      have h56 := c6.size
      have hnr : SL intT (RowF w9 ov) w9 (.slice (some ⟨g7, 0, none⟩) 1 1) [(i : Int)] := OwnS.toInts (l := [(i : Int)]) (OwnS.of_blk (n := 1) (sz := 1) (f7.blk.next (c8.step f9.below)) rfl (by omega)) (fun z hz => by simp at hz; subst hz; exact ⟨by omega, by omega⟩) (fun g hg => by
        simp [Value.ownBlock] at hg
        subst hg
        refine ⟨(f7.blk.next (c8.step f9.below)).lt, fun e2 => ?_⟩
        have := hR5.1.lt e2
        omega) (by simp)
      obtain ⟨hsc, hsok⟩ := hyy.2.sc
      have hq8 : I64 (evOf l x [(i : Int)]).office := by
        have hsl := (List.getElem?_eq_some_iff.1 hsc).1
        obtain ⟨sd, hsd⟩ := hl5.addr (by omega)
        rw [hsd] at hl5
        exact (SS.get hl5 hsc).2.2.1
      have hv2 := hyy.2.comp.t1
      have hv3 := hyy.2.comp.t2
      have hv4 := hsok.e1
      have hv5 := hsok.e2
      refine TW.append (evV (evOf l x [(i : Int)]) (.slice (some ⟨g7, 0, none⟩) 1 1)) rfl rfl go24 rfl hR9.1 rfl rfl (fun j u hj => ⟨_, rfl, f9.blk.fld hj⟩) (fun u hu => by simp [evV] at hu; rcases hu with rfl | rfl | rfl | rfl <;> rfl) (by omega) (by omega) ?_
      rintro ov' w10 hO10 hg10 hn10
      refine TW.assign rfl rfl rfl ct ?_
      refine TW.nil (KW.pick [0, 3, 6, 9, 10, 12, 13, 14] [(0, _, _), (3, _, _), (6, _, _), (9, _, _), (10, _, _), (12, _, _), (13, _, _), (14, _, _)] rfl (KW.blockN (KW.then_ ?_)))
      refine CW.region ?_
      refine TW.move rfl rfl rfl ct ?_
      refine TW.add rfl rfl rfl ct rfl ct (fun _ => by (try dsimp only); omega) ?_
      refine TW.assign rfl rfl rfl ct ?_
      refine TW.nil (KW.pick [0, 3, 6, 9, 10, 12, 13, 14] [(0, _, _), (3, _, _), (6, _, _), (9, _, _), (10, _, _), (12, _, _), (13, _, _), (14, _, _)] rfl ?_)
      have hR10 : RowL evT w10 29 w4.heap.size ov' (ps ++ [(evV (evOf l x [(i : Int)]) (.slice (some ⟨g7, 0, none⟩) 1 1), evOf l x [(i : Int)])]) := hR9.app hO10 hg10 hn10 ⟨_, rfl, hq8, ⟨by show (-9223372036854775808 : Int) ≤ x.time - _; omega, by show x.time - _ ≤ (9223372036854775807 : Int); omega⟩, ⟨by show (-9223372036854775808 : Int) ≤ x.time + _; omega, by show x.time + _ ≤ (9223372036854775807 : Int); omega⟩, hnr⟩ hB9.size
      refine KW.round (i + 1, ov', ps ++ [(evV (evOf l x [(i : Int)]) (.slice (some ⟨g7, 0, none⟩) 1 1), evOf l x [(i : Int)])]) [0, 3, 6, 9, 10, 12, 13, 14] rfl ⟨by show i + 1 ≤ _; omega, hB9.grown hg10 hB9.size hR5.2.2, hR10, ?_⟩ (by show s.length - (i + 1) < s.length - i; omega)
      show List.map Prod.snd (ps ++ [_]) = wantL l s lab (i + 1)
      rw [List.map_append, hmap5, hwn]
      rfl
    · have hyd : (dec (x.label = lab) && dec (Val l x)) = false := by
        cases h1 : dec (x.label = lab) with
        | false => rfl
        | true =>
          rw [decide_eq_true (dec_iff.1 h1)] at hn
          simpa using hn
      rw [hyd, if_neg (by simp), List.append_nil] at hwn
      refine CW.skip (KW.blockN (KW.then_ (CW.region ?_)))
      refine TW.move rfl rfl rfl ct ?_
      refine TW.add rfl rfl rfl ct rfl ct (fun _ => by (try dsimp only); omega) ?_
      refine TW.assign rfl rfl rfl ct ?_
      refine TW.nil (KW.pick [0, 3, 6, 9, 10, 12, 13, 14] [(0, _, _), (3, _, _), (6, _, _), (9, _, _), (10, _, _), (12, _, _), (13, _, _), (14, _, _)] rfl ?_)
      refine KW.round (i + 1, ov, ps) [0, 3, 6, 9, 10, 12, 13, 14] rfl ⟨by show i + 1 ≤ _; omega, hB6, hR6, ?_⟩ (by show s.length - (i + 1) < s.length - i; omega)
      show ps.map (·.2) = wantL l s lab (i + 1)
      rw [hmap5, hwn]
  have hie : i = s.length := by omega
  subst hie
  have hwant := hR5.sl (by decide)
  rw [hmap5] at hwant
  obtain ⟨Q1, qc1, hov⟩ := hR5.form
  subst hov
  rw [hpl5] at hwant ⊢
  have hw4 : ∀ e ∈ wantL l s lab s.length, e.needs.length ≤ 4 := fun e he => by
    obtain ⟨_, _, _, _, _, _, rfl⟩ := mem_wantL.1 he
    show List.length [_] ≤ 4
    simp
  have b5 := b4.step hB5
  refine CW.exit (KW.thenX (KW.thenX (KW.blockX (KW.then_ (CW.seq (CW.region ?_))))))
  refine TW.move rfl rfl rfl ct ?_
  refine TW.call0 (cap := []) rfl rfl en15 rfl (Args.cons rfl ct Args.nil) (rsorted_c hwant (by omega) (fun e he => Nat.le_trans (hw4 e he) (by omega))) ?_
  rintro v6 w6 ⟨c6, qs6, hE6, hcan6, hfr6⟩
  obtain ⟨cw, hcw⟩ : ∃ z, z = canon (wantL l s lab s.length) := ⟨_, rfl⟩
  rw [← hcw] at hcan6
  have hcwl : cw.length ≤ 29 := by rw [hcw]; exact Nat.le_trans (canon_len_le _) (by omega)
  have hcwm : ∀ e, e ∈ cw ↔ ∃ (i : Nat) (x : Rc), s[i]? = some x ∧ x.label = lab ∧ Val l x ∧ e = evOf l x [(i : Int)] := fun e => by
    rw [hcw, mem_canon, mem_wantL]
    exact ⟨fun ⟨i, x, _, h⟩ => ⟨i, x, h⟩, fun ⟨i, x, h⟩ => ⟨i, x, (List.getElem?_eq_some_iff.1 h.1).1, h⟩⟩
  have hq6 : qs6.length = cw.length := by rw [← hcan6, List.length_map]
  have hs6 := EvRow.sl hE6 (by omega)
  rw [hcan6] at hs6
  obtain ⟨W6, wc6, hv6, _⟩ := hs6.form
  subst hv6
  have b6 := b5.step c6
  have hl6 := ss_step hl5 c6
  have hS6 := sr_step hS5 c6
  have ht6 := (ht4.below hB5).below c6
  have c46 := hB5.step c6
  refine TW.assign rfl rfl rfl ct ?_
  refine TW.nil (KW.pick [0, 3, 6, 9, 10, 12, 13, 14] [(0, _, _), (3, _, _), (6, _, _), (9, _, _), (10, _, _), (12, _, _), (13, _, _), (14, _, _)] rfl (KW.then_ ?_))
  refine CW.seq (CW.region ?_)
  refine TW.move rfl rfl rfl ct ?_
  refine TW.move rfl rfl rfl ct ?_
  refine TW.move rfl rfl rfl ct ?_
  refine TW.call0 (cap := []) rfl rfl en8 rfl (Args.cons rfl ct (Args.cons rfl ct (Args.cons rfl ct Args.nil))) (events_c hl6 hS6 (by omega) ht6) ?_
  rintro v7 w7 ⟨c7, h7⟩
  obtain ⟨E7, ec7, rfl, _⟩ := h7.form
  have hcw4 : ∀ e ∈ cw, e.needs.length ≤ 4 := fun e he => by
    obtain ⟨_, _, _, _, _, rfl⟩ := (hcwm e).1 he
    show List.length [_] ≤ 4
    simp
  have hs7 := se_step hs6 c7
  refine TW.assign rfl rfl rfl ct ?_
  refine TW.nil (KW.pick [0, 3, 6, 9, 10, 12, 13, 14, 15] [(0, _, _), (3, _, _), (6, _, _), (9, _, _), (10, _, _), (12, _, _), (13, _, _), (14, _, _), (15, _, _)] rfl (KW.then_ ?_))
  refine CW.seq (CW.seq (CW.region ?_))
  refine TW.move rfl rfl rfl ct ?_
  refine TW.lenSlice rfl rfl Tryz.underlying24 rfl ct ?_
  refine TW.lss rfl rfl rfl ct rfl ct ?_
  refine TW.move rfl rfl rfl ct ?_
  refine TW.move rfl rfl rfl ct ?_
  refine TW.move rfl rfl rfl ct ?_
  refine TW.callF (cap := []) rfl rfl en7 rfl ct (Args.cons rfl id (Args.cons rfl id Args.nil)) (fun _ => rsame_c h7 hs7 (evs_needs (by omega)) (fun e he => Nat.le_trans (hcw4 e he) (by omega))) ?_
  rintro w8 c8
  refine TW.not rfl rfl rfl id ?_
  refine TW.pickAnd rfl rfl rfl ct rfl pAnd0 ?_
  refine TW.nil (KW.pick [0, 3, 6, 9, 10, 12, 13, 14, 15, 99] [(0, _, _), (3, _, _), (6, _, _), (9, _, _), (10, _, _), (12, _, _), (13, _, _), (14, _, _), (15, _, _), (99, _, _)] rfl (KW.then_ ?_))
  have hplain : canon (folL l s lab) = cw := by
    rw [hcw]
    exact canon_ext fun e => by
      rw [mem_folL, fol_plain hsk, ← mem_canon, ← hcw, hcwm]
  refine CW.cond rfl (fun hb1 => ?_) (fun hb2 => ?_)
  · exfalso
    have h3 : cw.length < 14 ∧ ¬ evsOf l s lab = cw := by
      simp only [Bool.and_eq_true, decide_eq_true_eq, Bool.not_eq_true'] at hb1
      exact ⟨by omega, fun h => by rw [dec_pos h] at hb1; simp at hb1⟩
    refine h3.2 ?_
    unfold evsOf
    rw [hplain]
    exact List.take_of_length_le (by omega)
  have b8 := (b6.step c7).step c8
  have c48 := (c46.step c7).step c8
  have hB8 := hB4.next c48
  have hx8 := hx4.step c48
  have hE8 := (hE6.below c7).below c8
  have hct8 := hx8.ct
  have hxl := hct8.len.2.2
  have hm8 := sr_step hm4 c48
  have hl8 := ss_step hl4 c48
  have ht8 := ht4.below c48
  refine CW.skip (KW.then_ (CW.seq (CW.region ?_)))
  refine TW.assign rfl rfl rfl ct ?_
  refine TW.nil (KW.pick [0, 3, 6, 9, 10, 12, 13, 14, 15, 16] [(0, _, _), (3, _, _), (6, _, _), (9, _, _), (10, _, _), (12, _, _), (13, _, _), (14, _, _), (15, _, _), (16, _, _)] rfl (KW.then_ ?_))
  refine CW.seq (CW.seq (CW.region ?_))
  refine TW.assign rfl rfl rfl ct ?_
  refine TW.nil (KW.pick [0, 3, 6, 9, 10, 12, 13, 14, 15, 16, 17] [(0, _, _), (3, _, _), (6, _, _), (9, _, _), (10, _, _), (12, _, _), (13, _, _), (14, _, _), (15, _, _), (16, _, _), (17, _, _)] rfl (KW.then_ ?_))
  refine CW.block ?_
  refine CW.loopS (fun z : Nat × Bool => [(0, none, .slice B l.length bcap), (3, none, .string lab), (6, none, .pointer (some ⟨g0, 0, none⟩)), (9, none, .bool true), (10, none, .slice O1 s.length oc1), (12, none, .slice M (s ++ [m]).length mcap), (13, none, .slice W6 cw.length wc6), (16, none, .bool z.2), (17, none, .int .i64 (z.1 : Int))])
    (fun z W' => z.1 ≤ m.cont.length ∧ W' = w8 ∧ (z.2 = true ↔ lab ∈ m.cont.take z.1)) (fun z => m.cont.length - z.1) (0, false) [0, 3, 6, 9, 10, 12, 13, 16, 17]
    ⟨Nat.zero_le _, rfl, by simp⟩ rfl ?_
  rintro ⟨j, q⟩ W9 ⟨hj, rfl, hq⟩
  dsimp only at hj hq
  refine CW.seq (CW.seq (CW.region ?_))
  refine TW.move rfl rfl rfl ct ?_
  refine TW.fieldAddr rfl rfl fo37_5 rfl ct ?_
  refine TW.load rfl rfl one35 rfl ct (fun _ => hB8.fld rfl) ?_
  refine TW.lenSlice rfl rfl Tryz.underlying35 rfl ct ?_
  refine TW.lss rfl rfl rfl ct rfl ct ?_
  refine TW.nil (KW.pick [0, 3, 6, 9, 10, 12, 13, 16, 17, 104] [(0, _, _), (3, _, _), (6, _, _), (9, _, _), (10, _, _), (12, _, _), (13, _, _), (16, _, _), (17, _, _), (104, _, _)] rfl (KW.then_ ?_))
  refine CW.condP rfl (fun hlt1 => ?_) (fun hge1 => ?_)
  · obtain ⟨c, hc, hcm⟩ := getx (l := m.cont) (k := j) (by omega)
    obtain ⟨xd, rfl⟩ := hct8.addr (by omega)
    refine CW.skip (KW.then_ (CW.seq (CW.block (CW.region ?_))))
    refine TW.move rfl rfl rfl ct ?_
    refine TW.move rfl rfl rfl ct ?_
    refine TW.fieldAddr rfl rfl fo37_5 rfl ct ?_
    refine TW.load rfl rfl one35 rfl id (fun _ => hB8.fld rfl) ?_
    refine TW.move rfl rfl rfl ct ?_
    refine TW.indexAddr rfl rfl Tryz.underlying35 sz9 rfl id rfl id (fun h => by (try dsimp only); first | omega | (simp [Cnd] at h; omega)) ?_
    refine TW.load rfl rfl one9 rfl id (fun _ => hct8.getT hc) ?_
    refine TW.move rfl rfl rfl ct ?_
    refine TW.eqlS rfl rfl rfl id rfl id ?_
    refine TW.pickOr rfl rfl rfl ct rfl pOr0 ?_
    refine TW.assign rfl rfl rfl ct ?_
    refine TW.nil (KW.pick [0, 3, 6, 9, 10, 12, 13, 16, 17] [(0, _, _), (3, _, _), (6, _, _), (9, _, _), (10, _, _), (12, _, _), (13, _, _), (16, _, _), (17, _, _)] rfl (KW.blockN (KW.then_ ?_)))
    refine CW.region ?_
    refine TW.move rfl rfl rfl ct ?_
    refine TW.add rfl rfl rfl ct rfl ct (fun _ => by (try dsimp only); omega) ?_
    refine TW.assign rfl rfl rfl ct ?_
    refine TW.nil (KW.pick [0, 3, 6, 9, 10, 12, 13, 16, 17] [(0, _, _), (3, _, _), (6, _, _), (9, _, _), (10, _, _), (12, _, _), (13, _, _), (16, _, _), (17, _, _)] rfl ?_)
    rw [beqL]
    refine KW.round (j + 1, q || decide (c = lab)) [0, 3, 6, 9, 10, 12, 13, 16, 17] ?_ ⟨by show j + 1 ≤ m.cont.length; omega, rfl, ?_⟩ (by show m.cont.length - (j + 1) < m.cont.length - j; omega)
    · cases q <;> rfl
    · show (q || decide (c = lab)) = true ↔ lab ∈ m.cont.take (j + 1)
      rw [List.take_add_one, hc, Bool.or_eq_true, hq, decide_eq_true_eq, List.mem_append]
      simp only [Option.toList_some, List.mem_singleton]
      exact ⟨fun h => h.imp id Eq.symm, fun h => h.imp id Eq.symm⟩
  have hje : j = m.cont.length := by omega
  subst hje
  rw [List.take_length] at hq
  refine CW.exit (KW.thenX (KW.thenX (KW.blockX (KW.then_ (CW.seq (CW.region ?_))))))
  refine TW.move rfl rfl rfl ct ?_
  refine TW.move rfl rfl rfl ct ?_
  refine TW.fieldAddr rfl rfl fo37_4 rfl ct ?_
  refine TW.load rfl rfl one9 rfl ct (fun _ => hB8.fld rfl) ?_
  refine TW.call0 (cap := []) rfl rfl en8 rfl (Args.cons rfl ct (Args.cons rfl ct (Args.cons rfl ct Args.nil))) (events_n hl8 hm8 (by omega) ht8) ?_
  rintro v9 w9 ⟨c9, h9⟩
  obtain ⟨F9, fc9, rfl, _⟩ := h9.form
  refine TW.assign rfl rfl rfl ct ?_
  refine TW.nil (KW.pick [0, 3, 6, 9, 10, 12, 13, 16, 17, 18] [(0, _, _), (3, _, _), (6, _, _), (9, _, _), (10, _, _), (12, _, _), (13, _, _), (16, _, _), (17, _, _), (18, _, _)] rfl (KW.then_ ?_))
  refine CW.seq (CW.region ?_)
  refine TW.move rfl rfl rfl ct ?_
  refine TW.move rfl rfl rfl ct ?_
  refine TW.move rfl rfl rfl ct ?_
  refine TW.call0 (cap := []) rfl rfl en8 rfl (Args.cons rfl ct (Args.cons rfl ct (Args.cons rfl ct Args.nil))) (events_n (ss_step hl8 c9) (sr_step hm8 c9) (by omega) (ht8.below c9)) ?_
  rintro v10 w10 ⟨c10, h10⟩
  have c810 := c9.step c10
  have b10 := b8.step c810
  have hB10 := hB8.next c810
  have hl10 := ss_step hl8 c810
  have hx10 := hx8.step c810
  have hE10 := hE8.below c810
  have hF9 := evs_len l (s ++ [m]) m.label
  refine TW.assign rfl rfl rfl ct ?_
  refine TW.nil (KW.pick [0, 3, 6, 9, 10, 12, 13, 16, 17, 18, 19] [(0, _, _), (3, _, _), (6, _, _), (9, _, _), (10, _, _), (12, _, _), (13, _, _), (16, _, _), (17, _, _), (18, _, _), (19, _, _)] rfl (KW.then_ ?_))
  refine CW.seq (CW.seq (CW.region ?_))
  refine TW.fieldAddr rfl rfl fo37_2 rfl ct ?_
  refine TW.load rfl rfl one3 rfl ct (fun _ => hB10.fld rfl) ?_
  refine TW.neq rfl rfl rfl ct rfl ct ?_
  refine TW.move rfl rfl rfl ct ?_
  refine TW.move rfl rfl rfl ct ?_
  refine TW.not rfl rfl rfl id ?_
  refine TW.pickOr rfl rfl rfl ct rfl pOr0 ?_
  refine TW.move rfl rfl rfl ct ?_
  refine TW.move rfl rfl rfl ct ?_
  refine TW.loadS _ rfl rfl Tryz.underlying37 sz37 rfl ct (fun _ => (fun _ _ hv => hB10.fld hv)) rfl ?_
  refine TW.callF (cap := []) rfl rfl en13 rfl ct (Args.cons rfl id (Args.cons rfl id Args.nil)) (fun _ => valid_c hl10 hx10) ?_
  rintro w11 c11
  refine TW.not rfl rfl rfl id ?_
  refine TW.pickOr rfl rfl rfl ct rfl pOr0 ?_
  refine TW.move rfl rfl rfl ct ?_
  refine TW.move rfl rfl rfl ct ?_
  refine TW.lenSlice rfl rfl Tryz.underlying24 rfl id ?_
  refine TW.move rfl rfl rfl ct ?_
  refine TW.lenSlice rfl rfl Tryz.underlying24 rfl id ?_
  refine TW.add rfl rfl rfl id rfl id (fun h => by (try dsimp only); first | omega | (simp [Cnd] at h; omega)) ?_
  refine TW.geq rfl rfl rfl id rfl ct ?_
  refine TW.pickOr rfl rfl rfl ct rfl pOr0 ?_
  refine TW.nil (KW.pick [0, 3, 6, 9, 10, 12, 13, 16, 17, 18, 19, 146] [(0, _, _), (3, _, _), (6, _, _), (9, _, _), (10, _, _), (12, _, _), (13, _, _), (16, _, _), (17, _, _), (18, _, _), (19, _, _), (146, _, _)] rfl (KW.then_ ?_))
  refine CW.cond rfl (fun hup => ?_) (fun hgo => ?_)
  · refine CW.seq (CW.region ?_)
    refine TW.move rfl rfl rfl ct ?_
    refine TW.assign rfl rfl rfl ct ?_
    refine TW.nil (KW.pick [0, 3, 6, 8, 9, 10, 12, 13, 16, 17, 18, 19] [(0, _, _), (3, _, _), (6, _, _), (8, _, _), (9, _, _), (10, _, _), (12, _, _), (13, _, _), (16, _, _), (17, _, _), (18, _, _), (19, _, _)] rfl (KW.then_ ?_))
    refine CW.ret (KW.thenR ?_)
    refine ret1 Tryz.results4 rfl (⟨b10.step c11, rfl⟩)
  have hgo' : m.kind = 2 ∧ q = true ∧ Val l m ∧ (evsOf l (s ++ [m]) m.label).length + cw.length < 14 := by
    simp only [Bool.or_eq_false_iff, decide_eq_false_iff_not, Bool.not_eq_false'] at hgo
    obtain ⟨⟨⟨h1, h2⟩, h3⟩, h4⟩ := hgo
    exact ⟨by simpa using h1, by simpa using h2, dec_iff.1 (by simpa using h3), by omega⟩
  obtain ⟨hk2, hqt, hval, hfew14⟩ := hgo'
  have hin := hq.1 hqt
  have b11 := b10.step c11
  have k9 := c9.size
  have k10 := c10.size
  have k11 := c11.size
  have k67 := c7.size
  have k78 := c8.size
  have hE11 := hE10.below c11
  have c411 := (c48.step c810).step c11
  obtain ⟨X0, hX0⟩ : ∃ n, n = W9.heap.size := ⟨_, rfl⟩
  obtain ⟨X1, hX1⟩ : ∃ n, n = w11.heap.size := ⟨_, rfl⟩
  have hf11 : SL evT (fun k => X0 ≤ k ∧ k < X1) w11 (.slice F9 (evsOf l (s ++ [m]) m.label).length fc9) (evsOf l (s ++ [m]) m.label) := ((h9.below c10).below c11).wider fun k hk => by omega
  have hg11 : SL evT (fun k => X0 ≤ k ∧ k < X1) w11 v10 (evsOf l (s ++ [m]) lab) := (h10.below c11).wider fun k hk => by omega
  obtain ⟨G10, gc10, rfl, _⟩ := hg11.form
  obtain ⟨fl, hfl⟩ : ∃ z, z = evsOf l (s ++ [m]) m.label := ⟨_, rfl⟩
  obtain ⟨gl, hgl⟩ : ∃ z, z = evsOf l (s ++ [m]) lab := ⟨_, rfl⟩
  rw [← hfl] at hf11 hfew14 hF9 ⊢
  rw [← hgl] at hg11 ⊢
  have hfn : ∀ e ∈ fl, e.needs.length ≤ 4 := by rw [hfl]; exact evs_needs (by omega)
  refine CW.skip (KW.then_ (CW.seq (CW.seq (CW.region ?_))))
  refine TW.assign rfl rfl rfl ct ?_
  refine TW.nil (KW.pick [0, 3, 6, 9, 10, 12, 13, 16, 17, 18, 19, 20] [(0, _, _), (3, _, _), (6, _, _), (9, _, _), (10, _, _), (12, _, _), (13, _, _), (16, _, _), (17, _, _), (18, _, _), (19, _, _), (20, _, _)] rfl (KW.then_ ?_))
  refine CW.block ?_
  refine CW.loopS (fun z : Nat × Value × List (Ev × Value) => [(9, none, .bool true), (10, none, .slice O1 s.length oc1), (13, none, z.2.1), (18, none, .slice F9 fl.length fc9), (19, none, .slice G10 gl.length gc10), (20, none, .int .i64 (z.1 : Int))])
    (fun z W => z.1 ≤ fl.length ∧ Below w4.heap.size w4 W ∧ X1 ≤ W.heap.size ∧ SL evT (fun k => X0 ≤ k ∧ k < X1) W (.slice F9 fl.length fc9) fl ∧ SL evT (fun k => X0 ≤ k ∧ k < X1) W (.slice G10 gl.length gc10) gl ∧ EvRow 0 W z.2.1 z.2.2 ∧ (∀ g, z.2.1.ownBlock = some g → w4.heap.size ≤ g ∧ (g < X0 ∨ X1 ≤ g)) ∧ z.2.2.map (·.1) = cw ++ (fl.take z.1).map (needM s.length)) (fun z => fl.length - z.1) (0, .slice W6 cw.length wc6, qs6) [9, 10, 13, 18, 19, 20]
    ⟨Nat.zero_le _, c411, by omega, hf11, hg11, hE11, fun g hg => ⟨Nat.le_trans hB5.size (hfr6 g hg), .inl (by have := hE6.1.lt hg; omega)⟩, by rw [hcan6]; simp⟩ rfl ?_
  rintro ⟨i, ov, qs⟩ W ⟨hi, hBW, hXW, hfW, hgW, hEW, hfrW, hmapW⟩
  dsimp only at hi hBW hXW hfW hgW hEW hfrW hmapW
  have hql : qs.length = cw.length + i := by
    have := congrArg List.length hmapW
    simp at this
    omega
  refine CW.seq (CW.seq (CW.region ?_))
  refine TW.move rfl rfl rfl ct ?_
  refine TW.move rfl rfl rfl ct ?_
  refine TW.lenSlice rfl rfl Tryz.underlying24 rfl ct ?_
  refine TW.lss rfl rfl rfl ct rfl ct ?_
  refine TW.nil (KW.pick [9, 10, 13, 18, 19, 20, 151] [(9, _, _), (10, _, _), (13, _, _), (18, _, _), (19, _, _), (20, _, _), (151, _, _)] rfl (KW.then_ ?_))
  refine CW.condP rfl (fun hlt4 => ?_) (fun hge4 => ?_)
  · obtain ⟨e, he, hem⟩ := getx (l := fl) (k := i) (by omega)
    obtain ⟨ad, rfl⟩ := hfW.addr (by omega)
    obtain ⟨N1, nc, hcells, hok⟩ := SE.ok hfW he
    have hne := hfn e hem
    have hon : ∀ k, X0 ≤ k ∧ k < X1 → ov.ownBlock ≠ some k := fun k hk e2 => by have := (hfrW k e2).2; omega
    refine CW.skip (KW.then_ (CW.seq (CW.block (CW.seq (CW.region ?_)))))
    refine TW.move rfl rfl rfl ct ?_
    refine TW.move rfl rfl rfl ct ?_
    refine TW.indexAddr rfl rfl Tryz.underlying24 sz29 rfl ct rfl ct (fun _ => by (try dsimp only); omega) ?_
    refine TW.loadS _ rfl rfl Tryz.underlying29 sz29 rfl ct (fun _ => hcells) rfl ?_
    refine TW.newVar rfl zc29 rfl sz29 rfl rfl ?_
    rintro g7 w7 f7
    refine TW.nil (KW.pick [9, 10, 13, 18, 19, 20, 21] [(9, _, _), (10, _, _), (13, _, _), (18, _, _), (19, _, _), (20, _, _), (21, _, _)] rfl (KW.then_ ?_))
    refine CW.seq (CW.seq (CW.region ?_))
    have hg7 := f7.at_
    refine TW.loadS _ rfl rfl Tryz.underlying29 sz29 rfl ct (fun _ => (fun _ _ hv => f7.blk.fld hv)) rfl ?_
    refine TW.move rfl rfl rfl ct ?_
    refine TW.lenSlice rfl rfl Tryz.underlying23 rfl ct ?_
    have hok7 := hok.below f7.below
    refine TW.call0 (cap := []) rfl rfl en16 rfl (Args.cons rfl ct (Args.cons rfl ct Args.nil)) (needs_c hok7) ?_
    rintro y8 w8 ⟨c8, rfl⟩
    have hB8 := f7.blk.next c8
    have c78 := f7.below.step c8
    have hok8 := hok7.below c8
    refine TW.not rfl rfl rfl ct ?_
    refine TW.nil (KW.pick [9, 10, 13, 18, 19, 20, 21, 162] [(9, _, _), (10, _, _), (13, _, _), (18, _, _), (19, _, _), (20, _, _), (21, _, _), (162, _, _)] rfl (KW.then_ ?_))
    refine CW.joinP (fun z : Value => [(9, none, .bool true), (10, none, .slice O1 s.length oc1), (13, none, ov), (18, none, .slice (some ad) fl.length fc9), (19, none, .slice G10 gl.length gc10), (20, none, .int .i64 (i : Int)), (21, none, .pointer (some ⟨g7, 0, none⟩))])
      (fun z W' => Below W.heap.size W W' ∧ Blk W' g7 29 (evV (needM s.length e) z) ∧ SL intT (fun k => k < W'.heap.size ∧ ov.ownBlock ≠ some k) W' z (needM s.length e).needs) (fun hj => ?_) (fun z W2 hJ => ?_)
    · skip
      refine CW.cond rfl (fun hnn => ?_) (fun hyn => ?_)
      · have hnot : (s.length : Int) ∉ e.needs := by simpa using hnn
        refine CW.region ?_
        refine TW.buildSlice0 3 rfl rfl eo27 ?_
        rintro g9 w9 f9
        refine TW.fieldAddr rfl rfl fo29_3 rfl ct ?_
        have hB9 := hB8.next f9.below
        have hnd9 := hok8.nd.below f9.below
        refine TW.load rfl rfl one27 rfl ct (fun _ => hB9.fld rfl) ?_
        have hg9 := f9.at_
        refine TW.append (e.needs.map (Value.int .i64)) rfl rfl go27 rfl (OwnS.of_blk (n := 0) f9.blk rfl (by omega)) rfl (by simp) (sl_news hnd9) (ints_one _) (by omega) (by omega) ?_
        rintro v10 w10 o10 hg10 hn10
        refine TW.move rfl rfl rfl ct ?_
        refine TW.lenSlice rfl rfl Tryz.underlying23 rfl ct ?_
        have c9 := c78.step f9.below
        have s78 := c78.size
        have hn10' : ∀ g, v10.ownBlock = some g → w8.heap.size ≤ g := fun g hg => by
          rcases hn10 with h | h
          · rw [h] at hg; simp [Value.ownBlock] at hg; omega
          · rw [h] at hg; cases hg; exact f9.below.size
        have c10 : Below W.heap.size W w10 := c9.grown hg10 c9.size (fun k hk => by simp [Value.ownBlock] at hk; omega)
        have h78 : w7.heap.size ≤ w8.heap.size := c8.size
        have h7s := f7.size
        have hB10 : Blk w10 g7 29 (evV e (.slice N1 e.needs.length nc)) := GB.blk hg10 hB9 (fun e2 => by simp [Value.ownBlock] at e2; omega)
        refine TW.buildSlice 3 _ rfl rfl rfl eo27 (Args.cons rfl ct Args.nil) rfl rfl rfl rfl rfl ?_
        rintro g11 w11' f11
        have hO11 := o10.below f11.below
        refine TW.append [.int .i64 (s.length : Int)] rfl rfl go27 rfl hO11 rfl rfl (fun j u hj => ⟨_, rfl, f11.blk.fld hj⟩) (fun u hu => by simp at hu; subst hu; rfl) (by omega) (by omega) ?_
        rintro v12 w12 o12 hg12 hn12
        refine TW.fieldAddr rfl rfl fo29_3 rfl ct ?_
        have c11 := c10.step f11.below
        have c12 : Below W.heap.size W w12 := c11.grown hg12 c11.size (fun k hk => by have := hn10' k hk; omega)
        have hn12' : ∀ g, v12.ownBlock = some g → w8.heap.size ≤ g := fun g hg => by
          rcases hn12 with h | h
          · rw [h] at hg; exact hn10' g hg
          · rw [h] at hg; cases hg; have := f11.below.size; have := hg10.size; have := f9.below.size; omega
        have hB12 : Blk w12 g7 29 (evV e (.slice N1 e.needs.length nc)) := GB.blk hg12 (hB10.next f11.below) (fun e2 => by have := hn10' _ e2; omega)
        obtain ⟨Q, qc, hv12, _⟩ := o12.form
        subst hv12
        refine TW.storeFld rfl sz27 rfl rfl hB12 (by show 3 < 4; decide) rfl ?_
        rintro w13 hB13 hbut13 hsz13
        refine TW.nil (KW.pick [9, 10, 13, 18, 19, 20, 21] [(9, _, _), (10, _, _), (13, _, _), (18, _, _), (19, _, _), (20, _, _), (21, _, _)] rfl (KW.then_ ?_))
        have hnm : needM s.length e = ⟨e.office, e.low, e.high, e.needs ++ [(s.length : Int)]⟩ := by unfold needM; rw [if_neg hnot]
        refine CW.pick [9, 10, 13, 18, 19, 20, 21] _ rfl (hj (.slice Q (0 + e.needs.length + 1) qc) _ ⟨c12.grown hbut13 c12.size (fun k hk => by cases hk; omega), ?_, ?_⟩)
        · rw [hnm]; exact hB13
        · have o13 : OwnS w13 3 1 (.slice Q (0 + e.needs.length + 1) qc) (needM s.length e).needs.length ((needM s.length e).needs.map (Value.int .i64)) := by
            have h13 := o12.kept (w' := w13) fun g hg => hbut13.block g (o12.lt hg) (fun e2 => by have := hn12' g hg; cases e2; omega)
            rw [hnm]
            simpa using h13
          refine OwnS.toInts o13 (fun x hx => ?_) (fun g hg => ⟨o13.lt hg, fun e2 => ?_⟩) (by rw [hnm]; simp; omega)
          · rw [hnm] at hx
            rcases List.mem_append.1 hx with hx | hx
            · exact sl_allI hok.nd x hx
            · rw [List.mem_singleton] at hx
              subst hx
              exact ⟨by omega, by omega⟩
          · have := hn12' g hg
            have := hEW.1.lt e2
            omega
      · have hyes : (s.length : Int) ∈ e.needs := by simpa using hyn
        have hnm : needM s.length e = e := by unfold needM; rw [if_pos hyes]
        refine CW.skip (KW.then_ ?_)
        refine CW.pick [9, 10, 13, 18, 19, 20, 21] _ rfl (hj (.slice N1 e.needs.length nc) _ ⟨c78, by rw [hnm]; exact hB8, ?_⟩)
        rw [hnm]
        exact hok8.nd.wider fun k hk => ⟨by have := c78.size; omega, hon k hk⟩
    · obtain ⟨cJ, hBJ, hnJ⟩ := hJ
      have hmok : I64 (needM s.length e).office ∧ I64 (needM s.length e).low ∧ I64 (needM s.length e).high := by
        unfold needM
        split <;> exact ⟨hok.i1, hok.i2, hok.i3⟩
      obtain ⟨Z1, zc1, hz1, _⟩ := hnJ.form
      subst hz1
      refine CW.region ?_
      refine TW.move rfl rfl rfl ct ?_
      refine TW.loadS _ rfl rfl Tryz.underlying29 sz29 rfl ct (fun _ => (fun _ _ hv => hBJ.fld hv)) rfl ?_
      refine TW.buildSlice 29 _ rfl rfl rfl eo24 (Args.cons rfl ct Args.nil) rfl rfl rfl rfl rfl ?_
      rintro g14 w14 f14
      have cJ14 := cJ.step f14.below
      have hE14 := (hEW.below cJ14)
      have hn14 := (hnJ.below f14.below).wider (F' := fun k => k < w14.heap.size ∧ ov.ownBlock ≠ some k) fun k hk => ⟨by have := f14.below.size; omega, hk.2⟩
      refine TW.append (evV (needM s.length e) (.slice Z1 (needM s.length e).needs.length zc1)) rfl rfl go24 rfl hE14.1 rfl rfl (fun j u hj => ⟨_, rfl, f14.blk.fld hj⟩) (fun u hu => by simp [evV] at hu; rcases hu with rfl | rfl | rfl | rfl <;> rfl) (by omega) (by omega) ?_
      rintro v15 w15 hO15 hg15 hn15
      refine TW.assign rfl rfl rfl ct ?_
      refine TW.nil (KW.pick [9, 10, 13, 18, 19, 20, 21] [(9, _, _), (10, _, _), (13, _, _), (18, _, _), (19, _, _), (20, _, _), (21, _, _)] rfl (KW.blockN (KW.then_ ?_)))
      refine CW.region ?_
      refine TW.move rfl rfl rfl ct ?_
      refine TW.add rfl rfl rfl ct rfl ct (fun _ => by (try dsimp only); omega) ?_
      refine TW.assign rfl rfl rfl ct ?_
      refine TW.nil (KW.pick [9, 10, 13, 18, 19, 20, 21] [(9, _, _), (10, _, _), (13, _, _), (18, _, _), (19, _, _), (20, _, _), (21, _, _)] rfl ?_)
      have hE15 := EvRow.push hE14 ⟨hmok.1, hmok.2.1, hmok.2.2, hn14⟩ hO15 hg15 hn15
      have hsz := cJ14.size
      have hB15 : Below w4.heap.size w4 w15 := (hBW.step cJ14).grown hg15 (hBW.step cJ14).size (fun k hk => (hfrW k hk).1)
      refine KW.round (i + 1, v15, qs ++ [(needM s.length e, .slice Z1 (needM s.length e).needs.length zc1)]) [9, 10, 13, 18, 19, 20] rfl ⟨by show i + 1 ≤ _; omega, hB15, by have := hg15.size; omega, ?_, ?_, hE15, fun g hg => ?_, ?_⟩ (by show fl.length - (i + 1) < fl.length - i; omega)
      · exact (hfW.below cJ14).mono (Kept.of_blocks fun k hk hlt => hg15.block k hlt (fun e2 => hon k hk e2.symm))
      · exact (hgW.below cJ14).mono (Kept.of_blocks fun k hk hlt => hg15.block k hlt (fun e2 => hon k hk e2.symm))
      · rcases hn15 with h | h
        · exact hfrW g (by rw [← h]; exact hg)
        · rw [h] at hg; cases hg; exact ⟨(hBW.step cJ14).size, .inr (by omega)⟩
      · show List.map Prod.fst (qs ++ [_]) = cw ++ (fl.take (i + 1)).map _
        rw [List.map_append, hmapW, List.take_add_one, he]
        simp
  have hie : i = fl.length := by omega
  subst hie
  rw [List.take_length] at hmapW
  have hsW := EvRow.sl hEW (by omega)
  rw [hmapW] at hsW
  have hnW : ∀ e ∈ cw ++ fl.map (needM s.length), e.needs.length ≤ 5 := fun e he => by
    rcases List.mem_append.1 he with h | h
    · have := hcw4 e h; omega
    · obtain ⟨f, hf, rfl⟩ := List.mem_map.1 h
      have := hfn f hf
      unfold needM
      split
      · omega
      · simp; omega
  have hqw : qs.length = (cw ++ fl.map (needM s.length)).length := by simp [hql]
  obtain ⟨O5, oc5, hov5, _⟩ := hEW.1.form
  subst hov5
  rw [hqw] at hsW ⊢
  have bW := b4.step hBW
  refine CW.exit (KW.thenX (KW.thenX (KW.blockX (KW.then_ (CW.seq (CW.region ?_))))))
  refine TW.move rfl rfl rfl ct ?_
  refine TW.move rfl rfl rfl ct ?_
  refine TW.known rfl (by simp [Cnd]) ?_
  refine TW.move rfl rfl rfl ct ?_
  refine TW.known rfl (by simp [Cnd]) ?_
  refine TW.move rfl rfl rfl ct ?_
  refine TW.known rfl (by simp [Cnd]) ?_
  refine TW.call0 (cap := []) rfl rfl en15 rfl (Args.cons rfl ct Args.nil) (rsorted_c hsW (by rw [← hqw]; omega) (fun e he => Nat.le_trans (hnW e he) (by omega))) ?_
  rintro v16 w16 ⟨c16, qs16, hE16, hcan16, _⟩
  have hlast : gl = canon (cw ++ fl.map (needM s.length)) := by
    have hflc : fl = canon (folL l (s ++ [m]) m.label) := by rw [hfl]; exact evs_all (by rw [← hfl]; omega)
    have h1 : canon (folL l (s ++ [m]) lab) = canon (cw ++ fl.map (needM s.length)) := canon_ext fun e => by
      rw [mem_folL, fol_man hsk hval hin, List.mem_append, hcwm, List.mem_map]
      refine or_congr Iff.rfl ⟨fun ⟨f, h1, h2⟩ => ⟨f, by rw [hflc, mem_canon, mem_folL]; exact h1, h2.symm⟩, fun ⟨f, h1, h2⟩ => ⟨f, by rw [hflc, mem_canon, mem_folL] at h1; exact h1, h2.symm⟩⟩
    have h2 : (canon (cw ++ fl.map (needM s.length))).length < 14 := Nat.lt_of_le_of_lt (canon_len_le _) (by simp; omega)
    rw [hgl, ← h1]
    unfold evsOf
    exact List.take_of_length_le (by rw [h1]; omega)
  rw [← hlast] at hcan16
  have hq16 : qs16.length = gl.length := by rw [← hcan16, List.length_map]
  have hgl14 : gl.length ≤ 14 := by rw [hgl]; exact evs_len _ _ _
  have hs16 := EvRow.sl hE16 (by omega)
  rw [hcan16] at hs16
  have hgn : ∀ e ∈ gl, e.needs.length ≤ 1000000 := by rw [hgl]; exact evs_needs (by omega)
  refine TW.known rfl (by simp [Cnd]) ?_
  refine TW.call0 (cap := []) rfl rfl en7 rfl (Args.cons rfl ct (Args.cons rfl ct Args.nil)) (rsame_c (hgW.below c16) hs16 hgn hgn) ?_
  rintro v17 w17 ⟨c17, rfl⟩
  rw [dec_pos rfl]
  refine TW.pickAnd rfl rfl rfl ct rfl pT ?_
  refine TW.assign rfl rfl rfl ct ?_
  refine TW.nil (KW.pick [8, 9, 10, 13, 18, 19, 20] [(8, _, _), (9, _, _), (10, _, _), (13, _, _), (18, _, _), (19, _, _), (20, _, _)] rfl (KW.then_ ?_))
  refine CW.ret ?_
  refine ret1 Tryz.results4 rfl (⟨(bW.step c16).step c17, rfl⟩)
end Go.Proofs.YthjcgmjcpmodlaaGreatDoor
