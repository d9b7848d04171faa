/- Texts joined: Yg Vo Yh Yi. -/
import Derived.Test.YthjcgmjcpmodlaaGreatDoorQI
import Derived.Test.YthjcgmjcpmodlaaGreatDoorQD
set_option linter.unusedSimpArgs false
set_option linter.unusedVariables false

namespace Go.Proofs.YthjcgmjcpmodlaaGreatDoor
open Go.PF Go.RowKit Go.Ord Go.Sort Go.Proofs

/-- how many events follow at most for a record, d manifests further -/
def stepF : Nat → Nat
  | 0 => 1
  | d + 1 => 1 + 30 * stepF d
theorem stepF_pos : ∀ d, 1 ≤ stepF d
  | 0 => Nat.le_refl _
  | d + 1 => by unfold stepF; omega
theorem stepF_le {d : Nat} (h : d ≤ 3) : stepF d ≤ 27931 := by
  match d, h with
  | 0, _ => decide
  | 1, _ => decide
  | 2, _ => decide
  | 3, _ => decide

theorem sl_and {F G : Nat → Prop} {w : World} {v : Value} {l : List Int} (h : SL intT F w v l) (h' : SL intT G w v l) : SL intT (fun k => F k ∧ G k) w v l := by
  obtain ⟨A, cap, hv, h1, h2, h3⟩ := h
  obtain ⟨A', cap', hv', _, _, h3'⟩ := h'
  rw [hv] at hv'
  simp only [Value.slice.injEq] at hv'
  obtain ⟨rfl, _, _⟩ := hv'
  refine ⟨A, cap, hv, h1, h2, fun i x hx => ?_⟩
  obtain ⟨ad, cs, a1, a2, a3, a4⟩ := h3 i x hx
  obtain ⟨ad', cs', b1, b2, _, _⟩ := h3' i x hx
  rw [a1] at b1
  cases b1
  exact ⟨ad, cs, a1, ⟨a2, b2⟩, a3, a4⟩

theorem EvRow.app2 {w w' : World} {ev y v' : Value} {qs qs' : List (Ev × Value)} (h : EvRow 0 w ev qs) (h' : EvRow 0 w y qs') (hne : ∀ q ∈ qs', SL intT (fun k => ev.ownBlock ≠ some k) w q.2 q.1.needs)
    (hO : OwnS w' 29 4 v' (qs.length + qs'.length) (qs.flatMap (fun q => evV q.1 q.2) ++ qs'.flatMap fun q => evV q.1 q.2)) (hg : w.grownBy w' ev.ownBlock) (hn : v'.ownBlock = ev.ownBlock ∨ v'.ownBlock = some w.heap.size) : EvRow 0 w' v' (qs ++ qs') := by
  refine ⟨by rw [List.flatMap_append, List.length_append]; exact hO, fun q hq => ?_⟩
  have up : ∀ {F : Nat → Prop}, (∀ k, F k → k < w.heap.size ∧ ev.ownBlock ≠ some k) → EvOK F w q.2 q.1 → EvOK (FsK 0 w' v') w' q.2 q.1 := fun hF a =>
    ⟨a.i1, a.i2, a.i3, (a.nd.mono (Kept.of_blocks fun k hk hlt => hg.block k hlt (fun e => (hF k hk).2 e.symm))).wider fun k hk => ⟨Nat.zero_le _, Nat.lt_of_lt_of_le (hF k hk).1 hg.size, fun e => by
      rcases hn with e2 | e2
      · exact (hF k hk).2 (by rw [← e2]; exact e)
      · rw [e2] at e; cases e; have := (hF _ hk).1; omega⟩⟩
  rcases List.mem_append.1 hq with hq | hq
  · exact up (fun k hk => ⟨hk.2.1, hk.2.2⟩) (h.2 q hq)
  · have a := h'.2 q hq
    exact up (F := fun k => FsK 0 w y k ∧ ev.ownBlock ≠ some k) (fun k hk => ⟨hk.1.2.1, hk.2⟩) ⟨a.i1, a.i2, a.i3, sl_and a.nd (hne q hq)⟩

theorem EvRow.push {w w' : World} {ev v' nv : Value} {qs : List (Ev × Value)} {e : Ev} (h : EvRow 0 w ev qs) (he : EvOK (fun k => k < w.heap.size ∧ ev.ownBlock ≠ some k) w nv e)
    (hO : OwnS w' 29 4 v' (qs.length + 1) (qs.flatMap (fun q => evV q.1 q.2) ++ evV e nv)) (hg : w.grownBy w' ev.ownBlock) (hn : v'.ownBlock = ev.ownBlock ∨ v'.ownBlock = some w.heap.size) : EvRow 0 w' v' (qs ++ [(e, nv)]) := by
  refine ⟨by rw [List.flatMap_append, List.length_append]; simpa using hO, fun q hq => ?_⟩
  have up : ∀ {F : Nat → Prop} {q : Ev × Value}, (∀ k, F k → k < w.heap.size ∧ ev.ownBlock ≠ some k) → EvOK F w q.2 q.1 → EvOK (FsK 0 w' v') w' q.2 q.1 := fun hF a =>
    ⟨a.i1, a.i2, a.i3, (a.nd.mono (Kept.of_blocks fun k hk hlt => hg.block k hlt (fun e => (hF k hk).2 e.symm))).wider fun k hk => ⟨Nat.zero_le _, Nat.lt_of_lt_of_le (hF k hk).1 hg.size, fun e => by
      rcases hn with e2 | e2
      · exact (hF k hk).2 (by rw [← e2]; exact e)
      · rw [e2] at e; cases e; have := (hF _ hk).1; omega⟩⟩
  rcases List.mem_append.1 hq with hq | hq
  · exact up (fun k hk => ⟨hk.2.1, hk.2.2⟩) (h.2 q hq)
  · rw [List.mem_singleton] at hq
    subst hq
    exact up (fun k hk => hk) he

set_option maxRecDepth 20000 in
set_option maxHeartbeats 1000000 in
theorem rfollow_c {u v : Value} {l : List Sc} {r : List Rc} {lab : ByteArray} (hsm : r.length ≤ 30) : ∀ (d : Nat) (w : World) (c : List Nat) (a : ByteArray) (tv : Value) (Ft : Nat → Prop), SS w u l → SR w v r → 3 - c.length = d → Chn l r lab c a → SL intT Ft w tv (recI c) →
    Gives Tryz.prog 22 #[u, v, .string a, tv] w fun x w' => Below w.heap.size w w' ∧ ∃ qs, EvRow 0 w' x qs ∧ (∀ q ∈ qs, SL intT (fun k => Ft k ∨ w.heap.size ≤ k) w' q.2 q.1.needs) ∧ (∀ g, x.ownBlock = some g → w.heap.size ≤ g) ∧ qs.length ≤ 30 * stepF d ∧ ∀ e, e ∈ qs.map (·.1) ↔ Ext l r lab c e := by
  intro d
  induction d using Nat.strongRecOn with
  | ind d ih =>
  intro w c a tv Ft hl hr hd hchn htv0
  have htv : SI w tv (recI c) := htv0.now intT_now
  have hcl := hchn.len
  have hrl : (recI c).length = c.length := recI_len hchn.nodup
  obtain ⟨A, cap, hv, _⟩ := hr.form
  subst hv
  obtain ⟨B, bcap, hu, _⟩ := hl.form
  subst hu
  have htvb : SL intT (fun k => Ft k ∧ k < w.heap.size) w tv (recI c) := sl_and htv0 htv
  obtain ⟨T, tcap, htf, _⟩ := htv.form
  subst htf
  refine gives_of (vs := [.slice B l.length bcap, .slice A r.length cap, .string a, .slice T (recI c).length tcap]) [(0, none, _), (1, none, _), (2, none, _), (3, none, _)] Tryz.func22 rfl Tryz.ntmps22 rfl rfl ?_
  refine CW.seq (CW.region ?_)
  refine TW.assign rfl rfl rfl ct ?_
  refine TW.nil (KW.pick [0, 1, 2, 3, 8] [(0, _, _), (1, _, _), (2, _, _), (3, _, _), (8, _, _)] rfl (KW.then_ ?_))
  refine CW.seq (CW.region ?_)
  refine TW.assign rfl rfl rfl ct ?_
  refine TW.nil (KW.pick [0, 1, 2, 3, 8, 9] [(0, _, _), (1, _, _), (2, _, _), (3, _, _), (8, _, _), (9, _, _)] rfl (KW.then_ ?_))
  refine CW.seq (CW.seq (CW.region ?_))
  refine TW.assign rfl rfl rfl ct ?_
  refine TW.nil (KW.pick [0, 1, 2, 3, 8, 9, 10] [(0, _, _), (1, _, _), (2, _, _), (3, _, _), (8, _, _), (9, _, _), (10, _, _)] rfl (KW.then_ ?_))
  refine CW.block ?_
  refine CW.loopS (fun x : Nat × Value × List (Ev × Value) => [(0, none, .slice B l.length bcap), (1, none, .slice A r.length cap), (2, none, .string a), (3, none, .slice T (recI c).length tcap), (9, none, x.2.1), (10, none, .int .i64 (x.1 : Int))])
    (fun x W => x.1 ≤ r.length ∧ Below w.heap.size w W ∧ EvRow 0 W x.2.1 x.2.2 ∧ (∀ q ∈ x.2.2, SL intT (fun k => Ft k ∨ w.heap.size ≤ k) W q.2 q.1.needs) ∧ (∀ g, x.2.1.ownBlock = some g → w.heap.size ≤ g) ∧ x.2.2.length ≤ x.1 * stepF d ∧
      ∀ e, e ∈ x.2.2.map (·.1) ↔ ∃ i y, i < x.1 ∧ r[i]? = some y ∧ Val l y ∧ ((y.label = a ∧ e = evOf l y (recI (c ++ [i]))) ∨ (a ∈ y.cont ∧ i ∉ c ∧ c.length < 3 ∧ Ext l r lab (c ++ [i]) e))) (fun x => r.length - x.1)
    (0, .slice none 0 0, []) [0, 1, 2, 3, 9, 10] ⟨Nat.zero_le _, Below.refl _ _, EvRow.nil 0 w, fun q hq => (by cases hq), fun g hg => (by simp [Value.ownBlock] at hg), by simp, fun e => by simp⟩ rfl ?_
  rintro ⟨i, ov, qs⟩ W ⟨hi, hB, hE, hG, hfr, hql, hmem⟩
  dsimp only at hi hB hE hG hfr hql hmem
  have hlW := ss_step hl hB
  have hrW := sr_step hr hB
  have htW := si_step htv hB
  have hmax := hr.len.2.2
  refine CW.seq (CW.seq (CW.region ?_))
  refine TW.move rfl rfl rfl ct ?_
  refine TW.move rfl rfl rfl ct ?_
  refine TW.lenSlice rfl rfl Tryz.underlying23 rfl ct ?_
  refine TW.lss rfl rfl rfl ct rfl ct ?_
  refine TW.nil (KW.pick [0, 1, 2, 3, 9, 10, 15] [(0, _, _), (1, _, _), (2, _, _), (3, _, _), (9, _, _), (10, _, _), (15, _, _)] rfl (KW.then_ ?_))
  refine CW.condP rfl (fun hlt => ?_) (fun hge => ?_)
  · obtain ⟨x, hx, hxm⟩ := getx (l := r) (k := i) (by omega)
    obtain ⟨ad, rfl⟩ := hrW.addr (by omega)
    obtain ⟨xv, hcells, hok0⟩ := SR.get hr hx
    obtain ⟨X1, xcap, hX1, _⟩ := hok0.ct.form
    subst hX1
    have hok := hok0.below hB
    have hcl1 : ∀ {X : World}, Below w.heap.size w X → ∀ j u, (rcV x (.slice X1 x.cont.length xcap))[j]? = some u → X.cell? ((ad.add ((i : Int).toNat * 6)).add j) = some u := fun hb j u hj => (hb.cell (block_lt_of_cell (hcells j u hj))).trans (hcells j u hj)
    refine CW.skip (KW.then_ (CW.seq (CW.block (CW.seq (CW.region ?_)))))
    refine TW.move rfl rfl rfl ct ?_
    refine TW.move rfl rfl rfl ct ?_
    refine TW.move rfl rfl rfl ct ?_
    refine TW.indexAddr rfl rfl Tryz.underlying23 sz37 rfl ct rfl ct (fun _ => by (try dsimp only); omega) ?_
    refine TW.loadS _ rfl rfl Tryz.underlying37 sz37 rfl ct (fun _ => (fun j u hj => hcl1 hB j u hj)) rfl ?_
    refine TW.call0 (cap := []) rfl rfl en35 rfl (Args.cons rfl ct (Args.cons rfl ct Args.nil)) (rvalid_c hlW hok) ?_
    rintro y1 w1 ⟨hb1, rfl⟩
    by_cases hv : Val l x
    · rw [dec_pos hv]
      refine TW.assign rfl rfl rfl ct ?_
      refine TW.nil (KW.pick [0, 1, 2, 3, 9, 10, 11] [(0, _, _), (1, _, _), (2, _, _), (3, _, _), (9, _, _), (10, _, _), (11, _, _)] rfl (KW.then_ ?_))
      refine CW.seq (CW.seq (CW.region ?_))
      refine TW.move rfl rfl rfl ct ?_
      refine TW.not rfl rfl rfl ct ?_
      refine TW.nil (KW.pick [0, 1, 2, 3, 9, 10, 11, 25] [(0, _, _), (1, _, _), (2, _, _), (3, _, _), (9, _, _), (10, _, _), (11, _, _), (25, _, _)] rfl (KW.then_ ?_))
      refine CW.cond rfl (fun h1 => ?_) (fun h2 => ?_)
      · exact absurd h1 (by simp)
      have hd3 : stepF d ≤ 27931 := stepF_le (by omega)
      have hqb : qs.length ≤ 837930 := Nat.le_trans hql (Nat.le_trans (Nat.mul_le_mul (by omega : i ≤ 30) hd3) (by decide))
      have hE1 := hE.below hb1
      have hiI : I64 (i : Int) := ⟨by omega, by omega⟩
      have hsp : ∀ e, (∃ j y, j < i + 1 ∧ r[j]? = some y ∧ Val l y ∧ ((y.label = a ∧ e = evOf l y (recI (c ++ [j]))) ∨ (a ∈ y.cont ∧ j ∉ c ∧ c.length < 3 ∧ Ext l r lab (c ++ [j]) e))) ↔ ((e ∈ qs.map (·.1) ∨ (x.label = a ∧ e = evOf l x (recI (c ++ [i])))) ∨ (a ∈ x.cont ∧ i ∉ c ∧ c.length < 3 ∧ Ext l r lab (c ++ [i]) e)) := fun e => by
        constructor
        · rintro ⟨j, y, h3, h4, h5, h6⟩
          rcases Nat.lt_or_ge j i with h | h
          · exact .inl (.inl ((hmem e).2 ⟨j, y, h, h4, h5, h6⟩))
          · have : j = i := by omega
            subst this
            rw [hx] at h4
            cases h4
            exact h6.imp .inr id
        · rintro ((h | h) | h)
          · obtain ⟨j, y, h3, h4⟩ := (hmem e).1 h
            exact ⟨j, y, by omega, h4⟩
          · exact ⟨i, x, by omega, hx, hv, .inl h⟩
          · exact ⟨i, x, by omega, hx, hv, .inr h⟩
      refine CW.skip (KW.then_ (CW.seq (CW.seq (CW.region ?_))))
      refine TW.move rfl rfl rfl ct ?_
      refine TW.move rfl rfl rfl ct ?_
      refine TW.indexAddr rfl rfl Tryz.underlying23 sz37 rfl ct rfl ct (fun _ => by (try dsimp only); omega) ?_
      refine TW.fieldAddr rfl rfl fo37_4 rfl ct ?_
      refine TW.load rfl rfl one9 rfl ct (fun _ => hcl1 (hB.step hb1) 4 _ rfl) ?_
      refine TW.move rfl rfl rfl ct ?_
      refine TW.eqlS rfl rfl rfl ct rfl ct ?_
      refine TW.nil (KW.pick [0, 1, 2, 3, 9, 10, 11, 32] [(0, _, _), (1, _, _), (2, _, _), (3, _, _), (9, _, _), (10, _, _), (11, _, _), (32, _, _)] rfl (KW.then_ ?_))
      refine CW.joinP (fun z : Value × List (Ev × Value) => [(0, none, .slice B l.length bcap), (1, none, .slice (some ad) r.length cap), (2, none, .string a), (3, none, .slice T (recI c).length tcap), (9, none, z.1), (10, none, .int .i64 (i : Int))])
        (fun z W' => Below w.heap.size w W' ∧ EvRow 0 W' z.1 z.2 ∧ (∀ q ∈ z.2, SL intT (fun k => Ft k ∨ w.heap.size ≤ k) W' q.2 q.1.needs) ∧ (∀ g, z.1.ownBlock = some g → w.heap.size ≤ g) ∧ z.2.length ≤ qs.length + 1 ∧ ∀ e, e ∈ z.2.map (·.1) ↔ e ∈ qs.map (·.1) ∨ (x.label = a ∧ e = evOf l x (recI (c ++ [i])))) (fun hj => ?_) (fun z W2 hJ => ?_)
      · skip
        refine CW.cond rfl (fun heq => ?_) (fun hne => ?_)
        · have hla : x.label = a := by rw [beqL] at heq; exact of_decide_eq_true heq
          refine CW.drawR mixed fun W5 hb5 => ?_
          refine RW.pure (by kernel_rfl) (by kernel_rfl) (fun _ _ d _ _ h => by cases d <;> exact h) rfl rfl rfl (fun _ h => by cases h) (fun a w ha => X.move (ha.eval rfl trivial)) ?_
          refine RW.pure (by kernel_rfl) (by kernel_rfl) (fun _ _ d _ _ h => by cases d <;> exact h) rfl rfl rfl (fun _ h => by cases h) (fun a w ha => X.move (ha.eval rfl trivial)) ?_
          refine RW.pure (by kernel_rfl) (by kernel_rfl) (fun _ _ d _ _ h => by cases d <;> exact h) rfl rfl rfl (fun _ h => by cases h) (fun a w ha => X.move (ha.eval rfl trivial)) ?_
          refine RW.pure (by kernel_rfl) (by kernel_rfl) (fun _ _ d _ _ h => by cases d <;> exact h) rfl rfl rfl (fun _ h => by cases h) (fun a w ha => X.move (ha.eval rfl trivial)) ?_
          refine RW.draw .weak 9 (by kernel_rfl) (by kernel_rfl) rfl rfl hb5 ?_
          refine DW.indexAddr rfl rfl Tryz.underlying23 sz37 rfl ct rfl ct (fun _ => by (try dsimp only); omega) ?_
          refine DW.loadS _ rfl rfl Tryz.underlying37 sz37 rfl ct (fun _ => (fun j u hj => hcl1 (hB.step hb1) j u hj)) rfl ?_
          refine DW.move rfl rfl rfl ct ?_
          refine DW.move rfl rfl rfl ct ?_
          refine DW.call (.pr (fun y W => SL intT (fun k => (Ft k ∧ k < w.heap.size) ∨ (w1.heap.size ≤ k ∧ k < W.heap.size)) W y (insS (i : Int) (recI c)))) ?_ rfl rfl en25 rfl ct (DArgs.cons rfl ct (DArgs.cons rfl ct DArgs.nil)) (fun _ w' hb' => (rwith_c ((htvb.below (hB.step hb1)).below hb') (recI_inc c) (by omega) hiI).mono fun u w'' ⟨h1, h2⟩ => ⟨h1, (show SL intT (fun k => (Ft k ∧ k < w.heap.size) ∨ (w1.heap.size ≤ k ∧ k < w''.heap.size)) w'' u (insS (i : Int) (recI c)) from h2.wider fun k hk => hk.imp id fun h => ⟨Nat.le_trans hb'.size h.1, h.2⟩)⟩) ?_
          · exact fun _ _ _ hb h => (h.below hb).wider fun k hk => hk.imp id fun h => ⟨h.1, Nat.lt_of_lt_of_le h.2 hb.size⟩
          refine DW.nil (DW.finX [0, 1, 2, 3, 9, 10, 11, 33, 34, 38] [(0, _, _), (1, _, _), (2, _, _), (3, _, _), (9, _, _), (10, _, _), (11, _, _), (33, _, _), (34, _, _), (38, _, _)] rfl [41] rfl fun vs w6 hb6 hs6 => KW.rk' ?_)
          obtain ⟨v41, rfl, h41⟩ := Sats.one hs6
          have h41 : SL intT (fun k => (Ft k ∧ k < w.heap.size) ∨ (w1.heap.size ≤ k ∧ k < w6.heap.size)) w6 v41 (insS (i : Int) (recI c)) := h41
          obtain ⟨M1, mcap, hM1, _⟩ := h41.form
          subst hM1
          have hb16 := hb1.step hb6
          refine RW.one (by kernel_rfl) (by kernel_rfl) rfl ?_
          refine TW.call0 (cap := []) rfl rfl en14 rfl (Args.cons rfl ct (Args.cons rfl ct (Args.cons rfl ct Args.nil))) (rof_c (ss_step hlW hb16) (hok.below hb16) hv h41) ?_
          rintro y7 w7 ⟨hb7, rfl⟩
          rw [show insS (i : Int) (recI c) = recI (c ++ [i]) from (recI_snoc c i).symm] at h41 ⊢
          refine TW.nil (KW.pick [0, 1, 2, 3, 9, 10, 11, 33, 42] [(0, _, _), (1, _, _), (2, _, _), (3, _, _), (9, _, _), (10, _, _), (11, _, _), (33, _, _), (42, _, _)] rfl (KW.rk ?_))
          refine RW.one (by kernel_rfl) (by kernel_rfl) rfl ?_
          refine TW.buildSlice 29 _ rfl rfl rfl eo24 (Args.cons rfl ct Args.nil) rfl rfl rfl rfl rfl ?_
          rintro g8 w8 f8
          refine TW.nil (KW.pick [0, 1, 2, 3, 9, 10, 11, 33, 43] [(0, _, _), (1, _, _), (2, _, _), (3, _, _), (9, _, _), (10, _, _), (11, _, _), (33, _, _), (43, _, _)] rfl (KW.rk ?_))
          refine RW.one (by kernel_rfl) (by kernel_rfl) rfl ?_
          have hb18 := (hb6.step hb7).step f8.below
          have hE8 := hE1.below hb18
          have hnd8 := h41.below (hb7.step f8.below)
          obtain ⟨hsc, hsok⟩ := hv.sc
          have hsl := (List.getElem?_eq_some_iff.1 hsc).1
          have hq8 : I64 (evOf l x (recI (c ++ [i]))).office := by
            obtain ⟨sd, hsd⟩ := hlW.addr (by omega)
            rw [hsd] at hlW
            exact (SS.get hlW hsc).2.2.1
          have hv2 := hv.comp.t1
          have hv3 := hv.comp.t2
          have hv4 := hsok.e1
          have hv5 := hsok.e2
          refine TW.append (evV (evOf l x (recI (c ++ [i]))) (.slice M1 (recI (c ++ [i])).length mcap)) rfl rfl go24 rfl hE8.1 rfl rfl (fun j u hj => ⟨_, rfl, f8.blk.fld hj⟩) (fun u hu => by simp [evV] at hu; rcases hu with rfl | rfl | rfl | rfl <;> rfl) (by omega) (by omega) ?_
          rintro v9 w9 hO9 hg9 hn9
          refine TW.nil (KW.pick [0, 1, 2, 3, 9, 10, 11, 44] [(0, _, _), (1, _, _), (2, _, _), (3, _, _), (9, _, _), (10, _, _), (11, _, _), (44, _, _)] rfl (KW.rk ?_))
          refine RW.one (by kernel_rfl) (by kernel_rfl) rfl ?_
          refine TW.assign rfl rfl rfl ct ?_
          refine TW.nil (KW.pick [0, 1, 2, 3, 9, 10, 11] [(0, _, _), (1, _, _), (2, _, _), (3, _, _), (9, _, _), (10, _, _), (11, _, _)] rfl (KW.rk ?_))
          refine RW.end rfl (KW.pick [0, 1, 2, 3, 9, 10, 11] [(0, _, _), (1, _, _), (2, _, _), (3, _, _), (9, _, _), (10, _, _), (11, _, _)] rfl (KW.then_ ?_))
          have hWs := hB.size
          have hW1 := hb1.size
          have hnvok : EvOK (fun k => k < w8.heap.size ∧ ov.ownBlock ≠ some k) w8 (.slice M1 (recI (c ++ [i])).length mcap) (evOf l x (recI (c ++ [i]))) := by
            refine ⟨hq8, ⟨by show (-9223372036854775808 : Int) ≤ x.time - _; omega, by show x.time - _ ≤ (9223372036854775807 : Int); omega⟩, ⟨by show (-9223372036854775808 : Int) ≤ x.time + _; omega, by show x.time + _ ≤ (9223372036854775807 : Int); omega⟩, hnd8.wider fun k hk => ?_⟩
            have s1 := hb18.size
            have s2 := hb7.size
            have s3 := f8.below.size
            rcases hk with hk | hk
            · have hk := hk.2
              exact ⟨by omega, fun e2 => by have := hfr k e2; omega⟩
            · exact ⟨by omega, fun e2 => by have := hE.1.lt e2; omega⟩
          have hE9 := EvRow.push hE8 hnvok hO9 hg9 hn9
          have hG9 : ∀ q ∈ qs ++ [(evOf l x (recI (c ++ [i])), Value.slice M1 (recI (c ++ [i])).length mcap)], SL intT (fun k => Ft k ∨ w.heap.size ≤ k) w9 q.2 q.1.needs := fun q hq => by
            rcases List.mem_append.1 hq with h | h
            · exact ((sl_and (((hG q h).below hb1).below hb18) (hE8.2 q h).nd).mono (Kept.of_blocks fun k hk _ => hg9.block k hk.2.2.1 (fun e2 => hk.2.2.2 e2.symm))).wider fun k hk => hk.1
            · rw [List.mem_singleton] at h
              subst h
              exact ((sl_and hnd8 hnvok.nd).mono (Kept.of_blocks fun k hk _ => hg9.block k hk.2.1 (fun e2 => hk.2.2 e2.symm))).wider fun k hk => hk.1.imp (fun h => h.1) (fun h => by omega)
          have hWf : ∀ g, ov.ownBlock = some g → w.heap.size ≤ g := hfr
          exact CW.pick [0, 1, 2, 3, 9, 10] _ rfl (hj (v9, qs ++ [(evOf l x (recI (c ++ [i])), .slice M1 (recI (c ++ [i])).length mcap)]) _ ⟨((hB.step hb1).step hb18).grown hg9 ((hB.step hb1).step hb18).size hfr, hE9, hG9, fun g hg => by
            rcases hn9 with h | h
            · exact hfr g (by rw [← h]; exact hg)
            · rw [h] at hg; cases hg; exact ((hB.step hb1).step hb18).size, by simp, fun e => by
            simp only [List.map_append, List.map_cons, List.map_nil, List.mem_append, List.mem_singleton]
            exact ⟨fun h => h.imp id fun h => ⟨hla, h⟩, fun h => h.imp id fun h => h.2⟩⟩)
        · have hla : x.label ≠ a := by rw [beqL] at hne; exact of_decide_eq_false hne
          refine CW.skip (KW.then_ ?_)
          exact CW.pick [0, 1, 2, 3, 9, 10] _ rfl (hj (ov, qs) _ ⟨hB.step hb1, hE1, fun q hq => (hG q hq).below hb1, hfr, by show qs.length ≤ qs.length + 1; omega, fun e => ⟨.inl, fun h => h.resolve_right fun h => hla h.1⟩⟩)
      · obtain ⟨hbJ, hEJ, hGJ, hfrJ, hqJ, hmJ⟩ := hJ
        obtain ⟨oJ, qJ⟩ := z
        dsimp only at hEJ hGJ hfrJ hqJ hmJ
        refine CW.seq (CW.region ?_)
        refine TW.move rfl rfl rfl ct ?_
        refine TW.move rfl rfl rfl ct ?_
        refine TW.indexAddr rfl rfl Tryz.underlying23 sz37 rfl ct rfl ct (fun _ => by (try dsimp only); omega) ?_
        refine TW.fieldAddr rfl rfl fo37_2 rfl ct ?_
        refine TW.load rfl rfl one3 rfl ct (fun _ => hcl1 hbJ 2 _ rfl) ?_
        refine TW.eql rfl rfl rfl ct rfl ct ?_
        refine TW.move rfl rfl rfl ct ?_
        refine TW.move rfl rfl rfl ct ?_
        refine TW.move rfl rfl rfl ct ?_
        refine TW.indexAddr rfl rfl Tryz.underlying23 sz37 rfl id rfl id (fun h => by (try dsimp only); first | omega | (simp [Cnd] at h; omega)) ?_
        refine TW.fieldAddr rfl rfl fo37_5 rfl id ?_
        refine TW.load rfl rfl one35 rfl id (fun _ => hcl1 hbJ 5 _ rfl) ?_
        refine TW.move rfl rfl rfl ct ?_
        refine TW.callF (cap := []) rfl rfl en36 rfl ct (Args.cons rfl id (Args.cons rfl id Args.nil)) (fun _ => rhas_c (hok0.ct.below hbJ)) ?_
        rintro w3 b3
        refine TW.pickAnd rfl rfl rfl ct rfl pAnd0 ?_
        refine TW.move rfl rfl rfl ct ?_
        refine TW.move rfl rfl rfl ct ?_
        refine TW.move rfl rfl rfl ct ?_
        refine TW.callF (cap := []) rfl rfl en37 rfl ct (Args.cons rfl id (Args.cons rfl id Args.nil)) (fun _ => rin_c ((htv.below hbJ).below b3)) ?_
        rintro w4 b4
        refine TW.not rfl rfl rfl id ?_
        refine TW.pickAnd rfl rfl rfl ct rfl pAnd0 ?_
        refine TW.move rfl rfl rfl ct ?_
        refine TW.move rfl rfl rfl ct ?_
        refine TW.lenSlice rfl rfl Tryz.underlying27 rfl id ?_
        refine TW.lss rfl rfl rfl id rfl ct ?_
        refine TW.pickAnd rfl rfl rfl ct rfl pAnd0 ?_
        refine TW.nil (KW.pick [0, 1, 2, 3, 9, 10, 70] [(0, _, _), (1, _, _), (2, _, _), (3, _, _), (9, _, _), (10, _, _), (70, _, _)] rfl (KW.then_ ?_))
        have hbw4 := (hbJ.step b3).step b4
        have hE4 := (hEJ.below b3).below b4
        refine CW.cond rfl (fun hin => ?_) (fun hout => ?_)
        · have hcond : x.kind = 2 ∧ a ∈ x.cont ∧ i ∉ c ∧ c.length < 3 := by
            simp only [Bool.and_eq_true, decide_eq_true_eq, Bool.not_eq_true', decide_eq_false_iff_not, dec_iff] at hin
            obtain ⟨⟨⟨h1, h2⟩, h3⟩, h4⟩ := hin
            exact ⟨h1, h2, fun h => h3 (mem_recI.2 ⟨i, h, rfl⟩), by omega⟩
          obtain ⟨hk2, hac, hic, hc3⟩ := hcond
          refine CW.drawR mixed fun W5 hb5 => ?_
          refine RW.pure (by kernel_rfl) (by kernel_rfl) (fun _ _ d _ _ h => by cases d <;> exact h) rfl rfl rfl (fun _ h => by cases h) (fun a w ha => X.move (ha.eval rfl trivial)) ?_
          refine RW.pure (by kernel_rfl) (by kernel_rfl) (fun _ _ d _ _ h => by cases d <;> exact h) rfl rfl rfl (fun _ h => by cases h) (fun a w ha => X.move (ha.eval rfl trivial)) ?_
          refine RW.pure (by kernel_rfl) (by kernel_rfl) (fun _ _ d _ _ h => by cases d <;> exact h) rfl rfl rfl (fun _ h => by cases h) (fun a w ha => X.move (ha.eval rfl trivial)) ?_
          refine RW.draw .weak 11 (by kernel_rfl) (by kernel_rfl) rfl rfl hb5 ?_
          refine DW.move rfl rfl rfl ct ?_
          refine DW.move rfl rfl rfl ct ?_
          refine DW.indexAddr rfl rfl Tryz.underlying23 sz37 rfl ct rfl ct (fun _ => by (try dsimp only); omega) ?_
          refine DW.fieldAddr rfl rfl fo37_4 rfl ct ?_
          refine DW.load rfl rfl one9 rfl ct (fun _ => hcl1 hbw4 4 _ rfl) ?_
          refine DW.move rfl rfl rfl ct ?_
          refine DW.move rfl rfl rfl ct ?_
          refine DW.call (.pr (fun y W => SL intT (fun k => (Ft k ∧ k < w.heap.size) ∨ (w4.heap.size ≤ k ∧ k < W.heap.size)) W y (insS (i : Int) (recI c)))) ?_ rfl rfl en25 rfl ct (DArgs.cons rfl ct (DArgs.cons rfl ct DArgs.nil)) (fun _ w' hb' => (rwith_c ((htvb.below hbw4).below hb') (recI_inc c) (by omega) hiI).mono fun u w'' ⟨h1, h2⟩ => ⟨h1, (show SL intT (fun k => (Ft k ∧ k < w.heap.size) ∨ (w4.heap.size ≤ k ∧ k < w''.heap.size)) w'' u (insS (i : Int) (recI c)) from h2.wider fun k hk => hk.imp id fun h => ⟨Nat.le_trans hb'.size h.1, h.2⟩)⟩) ?_
          · exact fun _ _ _ hb h => (h.below hb).wider fun k hk => hk.imp id fun h => ⟨h.1, Nat.lt_of_lt_of_le h.2 hb.size⟩
          refine DW.nil (DW.finX [0, 1, 2, 3, 9, 10, 71, 72, 73, 78] [(0, _, _), (1, _, _), (2, _, _), (3, _, _), (9, _, _), (10, _, _), (71, _, _), (72, _, _), (73, _, _), (78, _, _)] rfl [81] rfl fun vs w6 hb6 hs6 => KW.rk' ?_)
          obtain ⟨v81, rfl, h81⟩ := Sats.one hs6
          have h81 : SL intT (fun k => (Ft k ∧ k < w.heap.size) ∨ (w4.heap.size ≤ k ∧ k < w6.heap.size)) w6 v81 (insS (i : Int) (recI c)) := h81
          rw [show insS (i : Int) (recI c) = recI (c ++ [i]) from (recI_snoc c i).symm] at h81
          have hchn' : Chn l r lab (c ++ [i]) x.label := hchn.snoc hx hv hac hic hc3
          have hbw6 := hbw4.step hb6
          refine RW.one (by kernel_rfl) (by kernel_rfl) rfl ?_
          refine TW.call0 (cap := []) rfl rfl en22 rfl (Args.cons rfl ct (Args.cons rfl ct (Args.cons rfl ct (Args.cons rfl ct Args.nil)))) (ih (3 - (c ++ [i]).length) (by simp; omega) w6 (c ++ [i]) x.label v81 _ (ss_step hl hbw6) (sr_step hr hbw6) rfl hchn' h81) ?_
          rintro y7 w7 ⟨hb7, qs', hE7, hG7, hfr7, hq7, hm7⟩
          have hd' : 3 - (c ++ [i]).length ≤ 3 := by omega
          have hq7b : qs'.length ≤ 837930 := Nat.le_trans hq7 (Nat.mul_le_mul_left 30 (stepF_le hd'))
          have hE7o := (hE4.below hb6).below hb7
          obtain ⟨Y, ycap, hy, _, _, hyc⟩ := hE7.1.form
          subst hy
          refine TW.nil (KW.pick [0, 1, 2, 3, 9, 10, 71, 82] [(0, _, _), (1, _, _), (2, _, _), (3, _, _), (9, _, _), (10, _, _), (71, _, _), (82, _, _)] rfl (KW.rk ?_))
          refine RW.one (by kernel_rfl) (by kernel_rfl) rfl ?_
          refine TW.append (qs'.flatMap fun q => evV q.1 q.2) rfl rfl go24 rfl hE7o.1 rfl hE7.1.1 (fun j u hj => ?_) (evCells_one hE7) (by omega) (by omega) ?_
          · obtain ⟨g, h1, _, h3, _⟩ := hyc j u hj
            exact ⟨_, h1, by rw [addr0]; exact h3⟩
          rintro v9 w9 hO9 hg9 hn9
          refine TW.nil (KW.pick [0, 1, 2, 3, 9, 10, 83] [(0, _, _), (1, _, _), (2, _, _), (3, _, _), (9, _, _), (10, _, _), (83, _, _)] rfl (KW.rk ?_))
          refine RW.one (by kernel_rfl) (by kernel_rfl) rfl ?_
          refine TW.assign rfl rfl rfl ct ?_
          refine TW.nil (KW.pick [0, 1, 2, 3, 9, 10] [(0, _, _), (1, _, _), (2, _, _), (3, _, _), (9, _, _), (10, _, _)] rfl (KW.rk ?_))
          refine RW.end rfl (KW.pick [0, 1, 2, 3, 9, 10] [(0, _, _), (1, _, _), (2, _, _), (3, _, _), (9, _, _), (10, _, _)] rfl (KW.blockN (KW.then_ ?_)))
          refine CW.region ?_
          refine TW.move rfl rfl rfl ct ?_
          refine TW.add rfl rfl rfl ct rfl ct (fun _ => by (try dsimp only); omega) ?_
          refine TW.assign rfl rfl rfl ct ?_
          refine TW.nil (KW.pick [0, 1, 2, 3, 9, 10] [(0, _, _), (1, _, _), (2, _, _), (3, _, _), (9, _, _), (10, _, _)] rfl ?_)
          have hne7 : ∀ q ∈ qs', SL intT (fun k => oJ.ownBlock ≠ some k) w7 q.2 q.1.needs := fun q hq => (hG7 q hq).wider fun k hk e2 => by
            have h1 := hfrJ k e2
            have h2 := hEJ.1.lt e2
            have h3 := b3.size
            have h4 := b4.size
            have h6 := hb6.size
            rcases hk with (⟨_, h⟩ | ⟨h, _⟩) | h <;> omega
          have hE9 := EvRow.app2 hE7o hE7 hne7 hO9 hg9 hn9
          have hbw7 := hbw6.step hb7
          have hbw9 : Below w.heap.size w w9 := hbw7.grown hg9 hbw7.size hfrJ
          have hG9 : ∀ q ∈ qJ ++ qs', SL intT (fun k => Ft k ∨ w.heap.size ≤ k) w9 q.2 q.1.needs := fun q hq => by
            rcases List.mem_append.1 hq with h | h
            · exact ((sl_and (((((hGJ q h).below b3).below b4).below hb6).below hb7) (hE7o.2 q h).nd).mono (Kept.of_blocks fun k hk _ => hg9.block k hk.2.2.1 (fun e2 => hk.2.2.2 e2.symm))).wider fun k hk => hk.1
            · have h0 := hbw4.size
              have h6 := hb6.size
              exact ((sl_and (hG7 q h) (sl_and (hE7.2 q h).nd (hne7 q h))).mono (Kept.of_blocks fun k hk _ => hg9.block k hk.2.1.2.1 (fun e2 => hk.2.2 e2.symm))).wider fun k hk => by
                rcases hk.1 with (⟨h, _⟩ | ⟨h, _⟩) | h
                · exact .inl h
                · exact .inr (by omega)
                · exact .inr (by omega)
          refine KW.round (i + 1, v9, qJ ++ qs') [0, 1, 2, 3, 9, 10] rfl ⟨by omega, hbw9, hE9, hG9, fun g hg => ?_, ?_, fun e => ?_⟩ (by omega)
          · rcases hn9 with h | h
            · exact hfrJ g (by rw [← h]; exact hg)
            · rw [h] at hg; cases hg; exact hbw7.size
          · have hds : stepF d = 1 + 30 * stepF (3 - (c ++ [i]).length) := by
              obtain ⟨m, hm⟩ : ∃ m, 3 - (c ++ [i]).length = m := ⟨_, rfl⟩
              have hdm : d = m + 1 := by simp at hm; omega
              rw [hm, hdm]
              rfl
            show (qJ ++ qs').length ≤ (i + 1) * stepF d
            rw [List.length_append, Nat.add_mul]
            omega
          · rw [List.map_append, List.mem_append, hmJ, hm7]
            refine Iff.trans ?_ (hsp e).symm
            exact ⟨fun h => h.imp id fun h => ⟨hac, hic, hc3, h⟩, fun h => h.imp id fun h => h.2.2.2⟩
        · refine CW.skip (KW.blockN (KW.then_ (CW.region ?_)))
          refine TW.move rfl rfl rfl ct ?_
          refine TW.add rfl rfl rfl ct rfl ct (fun _ => by (try dsimp only); omega) ?_
          refine TW.assign rfl rfl rfl ct ?_
          refine TW.nil (KW.pick [0, 1, 2, 3, 9, 10] [(0, _, _), (1, _, _), (2, _, _), (3, _, _), (9, _, _), (10, _, _)] rfl ?_)
          refine KW.round (i + 1, oJ, qJ) [0, 1, 2, 3, 9, 10] rfl ⟨by omega, hbw4, hE4, fun q hq => ((hGJ q hq).below b3).below b4, hfrJ, ?_, fun e => ?_⟩ (by omega)
          · show qJ.length ≤ (i + 1) * stepF d
            have := stepF_pos d
            rw [Nat.add_mul]
            omega
          · rw [hmJ]
            refine Iff.trans ?_ (hsp e).symm
            refine ⟨.inl, fun h => h.resolve_right fun ⟨h1, h2, h3, _⟩ => ?_⟩
            have hk2 := hv.man h1
            have h4 : ¬ (i : Int) ∈ recI c := fun h => by
              obtain ⟨j, hj, hje⟩ := mem_recI.1 h
              have : j = i := by omega
              exact h2 (this ▸ hj)
            rw [dec_pos h1, decide_eq_true hk2, decide_eq_false h4] at hout
            simp at hout
            omega
    · rw [dec_neg hv]
      refine TW.assign rfl rfl rfl ct ?_
      refine TW.nil (KW.pick [0, 1, 2, 3, 9, 10, 11] [(0, _, _), (1, _, _), (2, _, _), (3, _, _), (9, _, _), (10, _, _), (11, _, _)] rfl (KW.then_ ?_))
      refine CW.seq (CW.seq (CW.region ?_))
      refine TW.move rfl rfl rfl ct ?_
      refine TW.not rfl rfl rfl ct ?_
      refine TW.nil (KW.pick [0, 1, 2, 3, 9, 10, 11, 25] [(0, _, _), (1, _, _), (2, _, _), (3, _, _), (9, _, _), (10, _, _), (11, _, _), (25, _, _)] rfl (KW.then_ ?_))
      refine CW.cond rfl (fun h1 => ?_) (fun h2 => ?_)
      · refine CW.exit (KW.thenX (KW.blockX (KW.then_ (CW.region ?_))))
        refine TW.move rfl rfl rfl ct ?_
        refine TW.add rfl rfl rfl ct rfl ct (fun _ => by (try dsimp only); omega) ?_
        refine TW.assign rfl rfl rfl ct ?_
        refine TW.nil (KW.pick [0, 1, 2, 3, 9, 10, 11] [(0, _, _), (1, _, _), (2, _, _), (3, _, _), (9, _, _), (10, _, _), (11, _, _)] rfl ?_)
        refine KW.round (i + 1, ov, qs) [0, 1, 2, 3, 9, 10] rfl ⟨by omega, hB.step hb1, hE.below hb1, fun q hq => (hG q hq).below hb1, hfr, ?_, fun e => ?_⟩ (by omega)
        · show qs.length ≤ (i + 1) * _
          rw [Nat.add_mul]
          omega
        · rw [hmem e]
          constructor
          · rintro ⟨j, y, h3, h4⟩
            exact ⟨j, y, by show j < i + 1; omega, h4⟩
          · rintro ⟨j, y, h3, h4, h5, h6⟩
            have h3 : j < i + 1 := h3
            rcases Nat.lt_or_ge j i with h | h
            · exact ⟨j, y, h, h4, h5, h6⟩
            · have : j = i := by omega
              subst this
              rw [hx] at h4
              cases h4
              exact absurd h5 hv
      · exact absurd h2 (by simp)
  · refine CW.exit (KW.thenX (KW.thenX (KW.blockX (KW.then_ (CW.seq (CW.region ?_))))))
    refine TW.move rfl rfl rfl ct ?_
    refine TW.assign rfl rfl rfl ct ?_
    refine TW.nil (KW.pick [0, 1, 2, 3, 8, 9, 10] [(0, _, _), (1, _, _), (2, _, _), (3, _, _), (8, _, _), (9, _, _), (10, _, _)] rfl (KW.then_ ?_))
    refine CW.ret ?_
    have hie : i = r.length := by omega
    subst hie
    refine ret1 Tryz.results22 rfl (⟨hB, qs, hE, hG, hfr, ?_, fun e => ?_⟩)
    · exact Nat.le_trans hql (Nat.mul_le_mul_right _ hsm)
    · rw [hmem e, ext_step hchn]
      constructor
      · rintro ⟨j, y, _, h4, h5, h6 | ⟨h6, h7, h8, h9⟩⟩
        · exact .inl ⟨j, y, h4, h5, h6.1, h6.2⟩
        · exact .inr ⟨j, y, h4, h5, h6, h7, h8, h9⟩
      · rintro (⟨j, y, h4, h5, h6, h7⟩ | ⟨j, y, h4, h5, h6, h7, h8, h9⟩)
        · exact ⟨j, y, (List.getElem?_eq_some_iff.1 h4).1, h4, h5, .inl ⟨h6, h7⟩⟩
        · exact ⟨j, y, (List.getElem?_eq_some_iff.1 h4).1, h4, h5, .inr ⟨h6, h7, h8, h9⟩⟩
end Go.Proofs.YthjcgmjcpmodlaaGreatDoor

namespace Go.Proofs.YthjcgmjcpmodlaaGreatDoor
open Go.PF Go.RowKit Go.Ord Go.Sort

set_option maxRecDepth 20000 in
theorem about_c {w : World} {v : Value} {l : List Ev} (hl : SE w v l) (hsm : l.length ≤ 1000) (hne : ∀ e ∈ l, e.needs.length ≤ 1000) :
    Gives Tryz.prog 11 #[v] w fun x w' => Below w.heap.size w w' ∧ OwnS w' 3 1 x (recsS l).length ((recsS l).map (Value.int .i64)) ∧ ∀ g, x.ownBlock = some g → w.heap.size ≤ g := by
  obtain ⟨A, cap, rfl, _⟩ := hl.form
  have hlen : ∀ k, (needsOf (l.take k)).length ≤ 1000 * k := by
    intro k
    induction k with
    | zero => simp [needsOf]
    | succ k ih =>
      rw [List.take_add_one]
      unfold needsOf at *
      rw [List.flatMap_append, List.length_append]
      cases he : l[k]? with
      | none =>
        show _ + (([] : List Ev).flatMap (·.needs)).length ≤ _
        rw [List.flatMap_nil, List.length_nil]
        omega
      | some e =>
        have := hne e (List.mem_of_getElem? he)
        show _ + (([e] : List Ev).flatMap (·.needs)).length ≤ _
        rw [List.flatMap_singleton]
        omega
  refine gives_of (vs := [.slice A l.length cap]) [(0, none, _)] Tryz.func11 rfl Tryz.ntmps11 rfl rfl ?_
  refine CW.seq (CW.region ?_)
  refine TW.assign rfl rfl rfl ct ?_
  refine TW.nil (KW.pick [0, 2] [(0, _, _), (2, _, _)] rfl (KW.then_ ?_))
  refine CW.seq (CW.region ?_)
  refine TW.assign rfl rfl rfl ct ?_
  refine TW.nil (KW.pick [0, 2, 3] [(0, _, _), (2, _, _), (3, _, _)] rfl (KW.then_ ?_))
  refine CW.seq (CW.seq (CW.region ?_))
  refine TW.move rfl rfl rfl ct ?_
  refine TW.lenSlice rfl rfl Tryz.underlying24 rfl ct ?_
  refine TW.move rfl rfl rfl ct ?_
  refine TW.nil (KW.pick [0, 2, 3, 6, 7, 8] [(0, _, _), (2, _, _), (3, _, _), (6, _, _), (7, _, _), (8, _, _)] rfl (KW.then_ ?_))
  refine CW.block ?_
  refine CW.loopS (fun x : Nat × Value => [(3, none, x.2), (6, none, .slice A l.length cap), (7, none, .int .i64 (l.length : Int)), (8, none, .int .i64 (x.1 : Int))])
    (fun x W => x.1 ≤ l.length ∧ Below w.heap.size w W ∧ OwnS W 3 1 x.2 (needsOf (l.take x.1)).length ((needsOf (l.take x.1)).map (Value.int .i64)) ∧ ∀ g, x.2.ownBlock = some g → w.heap.size ≤ g) (fun x => l.length - x.1) (0, .slice none 0 0) [3, 6, 7, 8] ⟨Nat.zero_le _, Below.refl _ _, OwnS.nil _ _ _, fun g hg => by simp [Value.ownBlock] at hg⟩ rfl ?_
  rintro ⟨k, ov⟩ W ⟨hk, hB, hO, hob⟩
  dsimp only at hk hO hob
  have hlk := hlen k
  refine CW.seq (CW.region ?_)
  refine TW.lss rfl rfl rfl ct rfl ct ?_
  refine TW.nil (KW.pick [3, 6, 7, 8, 9] [(3, _, _), (6, _, _), (7, _, _), (8, _, _), (9, _, _)] rfl (KW.then_ ?_))
  refine CW.seq ?_
  refine CW.condP rfl (fun hlt => ?_) (fun hge => ?_)
  · obtain ⟨e, he, hem⟩ := getx (l := l) (k := k) (by omega)
    have hne' := hne e hem
    have hlW := se_step hl hB
    obtain ⟨ad, rfl⟩ := hlW.addr (by omega)
    obtain ⟨nv, hcells, i1, i2, i3, hneeds⟩ := SE.get hlW he
    obtain ⟨C, ncap, rfl, _⟩ := hneeds.form
    refine CW.skip (KW.then_ (CW.seq (CW.block (CW.seq (CW.region ?_)))))
    refine TW.indexAddr rfl rfl Tryz.underlying24 sz29 rfl ct rfl ct (fun _ => by (try dsimp only); omega) ?_
    refine TW.loadS _ rfl rfl Tryz.underlying29 sz29 rfl ct (fun _ => hcells) rfl ?_
    refine TW.newVar rfl zc29 rfl sz29 rfl rfl ?_
    rintro g1 w1 f1
    refine TW.nil (KW.pick [3, 5, 6, 7, 8] [(3, _, _), (5, _, _), (6, _, _), (7, _, _), (8, _, _)] rfl (KW.then_ ?_))
    refine CW.region ?_
    refine TW.move rfl rfl rfl ct ?_
    refine TW.fieldAddr rfl rfl fo29_3 rfl ct ?_
    have hn1 := hneeds.below f1.below
    have hnews : ∀ (j : Nat) (u : Value), (e.needs.map (Value.int .i64))[j]? = some u → ∃ ad' : Addr, C = some ad' ∧ w1.cell? (ad'.add j) = some u := by
      intro j u hu
      simp only [List.getElem?_map] at hu
      obtain ⟨z, hz, rfl⟩ := Option.map_eq_some_iff.1 hu
      obtain ⟨ad', h1, h2, _⟩ := hn1.int hz
      exact ⟨ad', h1, by rw [Nat.mul_one] at h2; exact h2⟩
    refine TW.load rfl rfl one27 rfl ct (fun _ => f1.blk.fld rfl) ?_
    refine TW.append (e.needs.map (Value.int .i64)) rfl rfl go27 rfl (hO.below f1.below) rfl (by simp) hnews (ints_one _) (by omega) (by omega) ?_
    rintro ov' w2 o2 hg2 hn2
    refine TW.assign rfl rfl rfl ct ?_
    refine TW.nil (KW.pick [3, 5, 6, 7, 8] [(3, _, _), (5, _, _), (6, _, _), (7, _, _), (8, _, _)] rfl (KW.blockN (KW.then_ ?_)))
    refine CW.region ?_
    refine TW.add rfl rfl rfl ct rfl ct (fun _ => by (try dsimp only); omega) ?_
    refine TW.move rfl rfl rfl ct ?_
    refine TW.nil (KW.pick [3, 5, 6, 7, 8] [(3, _, _), (5, _, _), (6, _, _), (7, _, _), (8, _, _)] rfl ?_)
    have hB1 := hB.step f1.below
    have htk : needsOf (l.take (k + 1)) = needsOf (l.take k) ++ e.needs := by
      rw [List.take_add_one, he]
      simp [needsOf]
    refine KW.round (k + 1, ov') [3, 6, 7, 8] rfl ⟨by show k + 1 ≤ l.length; omega, hB1.grown hg2 hB1.size hob, ?_, fun g hg => ?_⟩ (by show l.length - (k + 1) < l.length - k; omega)
    · show OwnS w2 _ 1 ov' (needsOf (l.take (k + 1))).length ((needsOf (l.take (k + 1))).map (Value.int .i64))
      rw [htk]
      simpa using o2
    · rcases hn2 with h | h
      · exact hob g (by rw [← h]; exact hg)
      · rw [h] at hg; cases hg; exact hB1.size
  have hke : k = l.length := by omega
  subst hke
  rw [List.take_length] at hO hlk
  refine CW.exit (KW.thenX (KW.thenX (KW.blockX (KW.then_ (CW.seq (CW.region ?_))))))
  refine TW.move rfl rfl rfl ct ?_
  refine TW.call0 (cap := []) rfl rfl en23 rfl (Args.cons rfl ct Args.nil) (sort_c hO (by omega)) ?_
  rintro y w2 ⟨hg2, hO2⟩
  have hB2 := hB.grown hg2 hB.size hob
  have hO2' : OwnS w2 3 1 ov ((needsOf l).mergeSort fun x y => decide (x ≤ y)).length (((needsOf l).mergeSort fun x y => decide (x ≤ y)).map (Value.int .i64)) := by rw [List.length_mergeSort]; exact hO2
  refine TW.nil (KW.pick [3, 6, 7, 8] [(3, _, _), (6, _, _), (7, _, _), (8, _, _)] rfl (KW.then_ ?_))
  refine CW.seq (CW.region ?_)
  refine TW.move rfl rfl rfl ct ?_
  refine TW.call0 (cap := []) rfl rfl en24 rfl (Args.cons rfl ct Args.nil) (compact_c hO2' (by rw [List.length_mergeSort]; omega)) ?_
  rintro u3 w3 ⟨hg3, hO3, ho3⟩
  refine TW.assign rfl rfl rfl ct ?_
  refine TW.nil (KW.pick [2, 3, 6, 7, 8] [(2, _, _), (3, _, _), (6, _, _), (7, _, _), (8, _, _)] rfl (KW.then_ ?_))
  refine CW.ret ?_
  rw [sorted_recs] at hO3
  refine ret1 Tryz.results11 rfl (⟨hB2.grown hg3 hB2.size hob, hO3, fun g hg => hob g (by rw [← ho3]; exact hg)⟩)
end Go.Proofs.YthjcgmjcpmodlaaGreatDoor

namespace Go.Proofs.YthjcgmjcpmodlaaGreatDoor
open Go.PF Go.RowKit Go.Ord Go.Sort Go.Proofs

theorem insS_le (n : Int) : ∀ l : List Int, (insS n l).length ≤ l.length + 1
  | [] => by simp [insS]
  | y :: l => by
    have := insS_le n l
    unfold insS
    repeat' split
    all_goals simp
    all_goals omega

set_option maxRecDepth 20000 in
theorem revents_c {w : World} {u v : Value} {l : List Sc} {r : List Rc} {lab : ByteArray} (hl : SS w u l) (hr : SR w v r) (hsm : r.length ≤ 30) :
    Gives Tryz.prog 9 #[u, v, .string lab] w fun x w' => Below w.heap.size w w' ∧ SE w' x (evsOf l r lab) := by
  obtain ⟨A, cap, hv, _⟩ := hr.form
  subst hv
  obtain ⟨B, bcap, hu, _⟩ := hl.form
  subst hu
  refine gives_of (vs := [.slice B l.length bcap, .slice A r.length cap, .string lab]) [(0, none, _), (1, none, _), (2, none, _)] Tryz.func9 rfl Tryz.ntmps9 rfl rfl ?_
  refine CW.seq (CW.region ?_)
  refine TW.assign rfl rfl rfl ct ?_
  refine TW.nil (KW.pick [0, 1, 2, 6] [(0, _, _), (1, _, _), (2, _, _), (6, _, _)] rfl (KW.then_ ?_))
  refine CW.seq (CW.seq (CW.region ?_))
  refine TW.move rfl rfl rfl ct ?_
  refine TW.lenSlice rfl rfl Tryz.underlying23 rfl ct ?_
  refine TW.gtr rfl rfl rfl ct rfl ct ?_
  refine TW.nil (KW.pick [0, 1, 2, 6, 10] [(0, _, _), (1, _, _), (2, _, _), (6, _, _), (10, _, _)] rfl (KW.then_ ?_))
  refine CW.cond rfl (fun h1 => ?_) (fun h2 => ?_)
  · have : ¬ (400 : Int) < r.length := by omega
    exact absurd h1 (by simpa using this)
  refine CW.skip (KW.then_ (CW.seq (CW.region ?_)))
  refine TW.move rfl rfl rfl ct ?_
  refine TW.move rfl rfl rfl ct ?_
  refine TW.move rfl rfl rfl ct ?_
  refine TW.call0 (cap := []) rfl rfl en22 rfl (Args.cons rfl ct (Args.cons rfl ct (Args.cons rfl ct (Args.cons rfl ct Args.nil)))) (rfollow_c hsm 3 w [] lab (.slice none 0 0) (fun _ => True) hl hr rfl Chn.nil (SL.nil intT (fun _ => True) _)) ?_
  rintro y1 w1 ⟨hb1, qs, hE, _, hfr, hql, hmem⟩
  have hst : stepF 3 ≤ 27931 := stepF_le (by omega)
  have hq30 : qs.length ≤ 837930 := Nat.le_trans hql (Nat.mul_le_mul_left 30 hst)
  have hs1 := EvRow.sl hE (by omega)
  have hne : ∀ e ∈ qs.map (·.1), e.needs.length ≤ 1000000 := fun e he => by
    have := (fol_iff.2 ((hmem e).1 he)).len.2
    omega
  refine TW.call0 (cap := []) rfl rfl en15 rfl (Args.cons rfl ct Args.nil) (rsorted_c hs1 (by simp; omega) hne) ?_
  rintro y2 w2 ⟨hb2, qs2, hE2, hcan, hfr2⟩
  have hcl : (canon (qs.map (·.1))).length ≤ 837930 := by
    have := nodup_len (l := (canon (qs.map (·.1))).map textE) (k := (qs.map (·.1)).map textE) (List.nodup_iff_pairwise_ne.2 (List.pairwise_map.2 ((srt_canon _).imp fun {a b} h1 e => by
      have := textE_inj e
      subst this
      exact ltE_irrefl h1))) (fun y hy => by
      obtain ⟨e, he, rfl⟩ := List.mem_map.1 hy
      exact List.mem_map.2 ⟨e, mem_canon.1 he, rfl⟩)
    simp at this
    omega
  have hl2 : qs2.length = (canon (qs.map (·.1))).length := by rw [← hcan, List.length_map]
  have hs2 := EvRow.sl hE2 (by omega)
  have hev : canon (qs.map (·.1)) = canon (folL l r lab) := canon_ext fun e => by rw [hmem, mem_folL, fol_iff]
  rw [hcan] at hs2
  obtain ⟨C, ccap, rfl, hcc⟩ := hs2.form
  refine TW.assign rfl rfl rfl ct ?_
  refine TW.nil (KW.pick [0, 1, 2, 6, 7] [(0, _, _), (1, _, _), (2, _, _), (6, _, _), (7, _, _)] rfl (KW.then_ ?_))
  refine CW.seq (CW.region ?_)
  refine TW.move rfl rfl rfl ct ?_
  refine TW.move rfl rfl rfl ct ?_
  refine TW.lenSlice rfl rfl Tryz.underlying24 rfl ct ?_
  refine TW.minI rfl rfl rfl ct rfl ct ?_
  refine TW.sliceH rfl rfl Tryz.underlying24 sz29 rfl ct rfl ct (fun _ => by (try dsimp only); omega) ?_
  refine TW.assign rfl rfl rfl ct ?_
  refine TW.nil (KW.pick [0, 1, 2, 6, 7] [(0, _, _), (1, _, _), (2, _, _), (6, _, _), (7, _, _)] rfl (KW.then_ ?_))
  refine CW.ret ?_
  have htk := SL.takeS hs2 (i := min (canon (qs.map (·.1))).length 14) (by omega)
  refine ret1 Tryz.results9 rfl (⟨hb1.step hb2, ?_⟩)
  rw [show (min ((canon (qs.map (·.1))).length : Int) 14).toNat = min (canon (qs.map (·.1))).length 14 by omega]
  have he : (canon (qs.map (·.1))).take (min (canon (qs.map (·.1))).length 14) = evsOf l r lab := by
    unfold evsOf
    rw [hev]
    rcases Nat.le_total 14 (canon (folL l r lab)).length with h | h
    · rw [Nat.min_eq_right h]
    · rw [Nat.min_eq_left h, List.take_length, List.take_of_length_le h]
  rw [he] at htk
  exact htk

set_option maxRecDepth 20000 in
theorem rabout_c {w : World} {v : Value} {l : List Ev} (hl : SE w v l) (hsm : l.length ≤ 1000) (hne : ∀ e ∈ l, e.needs.length ≤ 1000) :
    Gives Tryz.prog 12 #[v] w fun x w' => Below w.heap.size w w' ∧ SI w' x (recsS l) := by
  obtain ⟨A, cap, rfl, hcap⟩ := hl.form
  refine gives_of (vs := [.slice A l.length cap]) [(0, none, _)] Tryz.func12 rfl Tryz.ntmps12 rfl rfl ?_
  refine CW.seq (CW.region ?_)
  refine TW.assign rfl rfl rfl ct ?_
  refine TW.nil (KW.pick [0, 2] [(0, _, _), (2, _, _)] rfl (KW.then_ ?_))
  refine CW.seq (CW.region ?_)
  refine TW.assign rfl rfl rfl ct ?_
  refine TW.nil (KW.pick [0, 2, 3] [(0, _, _), (2, _, _), (3, _, _)] rfl (KW.then_ ?_))
  refine CW.seq (CW.seq (CW.region ?_))
  refine TW.assign rfl rfl rfl ct ?_
  refine TW.nil (KW.pick [0, 2, 3, 4] [(0, _, _), (2, _, _), (3, _, _), (4, _, _)] rfl (KW.then_ ?_))
  refine CW.block ?_
  refine CW.loopS (fun x : Nat × Value => [(0, none, .slice A l.length cap), (3, none, x.2), (4, none, .int .i64 (x.1 : Int))])
    (fun x W => x.1 ≤ l.length ∧ Below w.heap.size w W ∧ SI W x.2 (recsS (l.take x.1)) ∧ (recsS (l.take x.1)).length ≤ x.1 * 1000) (fun x => l.length - x.1) (0, .slice none 0 0) [0, 3, 4]
    ⟨by simp, Below.refl _ _, SL.nil intT _ _, by simp [recsS, needsOf, insAll]⟩ rfl ?_
  rintro ⟨k, ov⟩ W ⟨hk, hW, hov, hlen⟩
  dsimp only at hk hov hlen
  refine CW.seq (CW.seq (CW.region ?_))
  refine TW.move rfl rfl rfl ct ?_
  refine TW.move rfl rfl rfl ct ?_
  refine TW.lenSlice rfl rfl Tryz.underlying24 rfl ct ?_
  refine TW.lss rfl rfl rfl ct rfl ct ?_
  refine TW.nil (KW.pick [0, 3, 4, 9] [(0, _, _), (3, _, _), (4, _, _), (9, _, _)] rfl (KW.then_ ?_))
  refine CW.condP rfl (fun hlt => ?_) (fun hge => ?_)
  · obtain ⟨e, he, hem⟩ := getx (l := l) (k := k) (by omega)
    have hlW := se_step hl hW
    obtain ⟨ad, rfl⟩ := hlW.addr (by omega)
    obtain ⟨nx, cx, _, _, _, hnx⟩ := SE.get hlW he
    obtain ⟨C, ccap, rfl, _⟩ := hnx.form
    have hnl := hne e hem
    have htake : l.take (k + 1) = l.take k ++ [e] := by rw [List.take_add_one, he]; rfl
    have hrec : recsS (l.take (k + 1)) = insAll (recsS (l.take k)) e.needs := by
      rw [htake]
      unfold recsS needsOf insAll
      simp [List.flatMap_append, List.foldl_append]
    refine CW.skip (KW.then_ (CW.seq (CW.block (CW.seq (CW.region ?_)))))
    refine TW.assign rfl rfl rfl ct ?_
    refine TW.nil (KW.pick [0, 3, 4, 5] [(0, _, _), (3, _, _), (4, _, _), (5, _, _)] rfl (KW.then_ ?_))
    refine CW.block ?_
    refine CW.loopS (fun x : Nat × Value => [(0, none, .slice (some ad) l.length cap), (3, none, x.2), (4, none, .int .i64 (k : Int)), (5, none, .int .i64 (x.1 : Int))])
      (fun x W' => x.1 ≤ e.needs.length ∧ Below W.heap.size W W' ∧ SI W' x.2 (insAll (recsS (l.take k)) (e.needs.take x.1)) ∧ (insAll (recsS (l.take k)) (e.needs.take x.1)).length ≤ k * 1000 + x.1) (fun x => e.needs.length - x.1) (0, ov) [0, 3, 4, 5]
      ⟨by simp, Below.refl _ _, hov, hlen⟩ rfl ?_
    rintro ⟨j, pv⟩ W2 ⟨hj, hW2, hpv, hlen2⟩
    dsimp only at hj hpv hlen2
    have hk2 := fun (j : Nat) (u : Value) h => (hW2.cell (block_lt_of_cell (cx j u h))).trans (cx j u h)
    refine CW.seq (CW.seq (CW.region ?_))
    refine TW.move rfl rfl rfl ct ?_
    refine TW.move rfl rfl rfl ct ?_
    refine TW.move rfl rfl rfl ct ?_
    refine TW.indexAddr rfl rfl Tryz.underlying24 sz29 rfl ct rfl ct (fun _ => by (try dsimp only); omega) ?_
    refine TW.fieldAddr rfl rfl fo29_3 rfl ct ?_
    refine TW.load rfl rfl one27 rfl ct (fun _ => hk2 3 _ rfl) ?_
    refine TW.lenSlice rfl rfl Tryz.underlying27 rfl ct ?_
    refine TW.lss rfl rfl rfl ct rfl ct ?_
    refine TW.nil (KW.pick [0, 3, 4, 5, 19] [(0, _, _), (3, _, _), (4, _, _), (5, _, _), (19, _, _)] rfl (KW.then_ ?_))
    refine CW.condP rfl (fun hlt2 => ?_) (fun hge2 => ?_)
    · obtain ⟨y, hy, hym⟩ := getx (l := e.needs) (k := j) (by omega)
      obtain ⟨nd, rfl⟩ := hnx.addr (by omega)
      refine CW.skip (KW.then_ (CW.seq (CW.block (CW.region ?_))))
      refine TW.move rfl rfl rfl ct ?_
      refine TW.move rfl rfl rfl ct ?_
      refine TW.move rfl rfl rfl ct ?_
      refine TW.indexAddr rfl rfl Tryz.underlying24 sz29 rfl ct rfl ct (fun _ => by (try dsimp only); omega) ?_
      refine TW.fieldAddr rfl rfl fo29_3 rfl ct ?_
      refine TW.load rfl rfl one27 rfl ct (fun _ => hk2 3 _ rfl) ?_
      refine TW.move rfl rfl rfl ct ?_
      refine TW.indexAddr rfl rfl Tryz.underlying27 sz3 rfl ct rfl ct (fun _ => by (try dsimp only); omega) ?_
      refine TW.load rfl rfl one3 rfl ct (fun _ => (hnx.below hW2).getI hy) ?_
      refine TW.call0 (cap := []) rfl rfl en25 rfl (Args.cons rfl ct (Args.cons rfl ct Args.nil)) (rwith_c hpv (Inc.insAll (recsS_inc _)) (by omega) (hnx.rngI hy)) ?_
      rintro y3 w3 ⟨hb3, hsi3⟩
      have e3 : insAll (recsS (l.take k)) (e.needs.take (j + 1)) = insS y (insAll (recsS (l.take k)) (e.needs.take j)) := by
        rw [List.take_add_one, hy]
        unfold insAll
        simp [List.foldl_append]
      refine TW.assign rfl rfl rfl ct ?_
      refine TW.nil (KW.pick [0, 3, 4, 5] [(0, _, _), (3, _, _), (4, _, _), (5, _, _)] rfl (KW.blockN (KW.then_ ?_)))
      refine CW.region ?_
      refine TW.move rfl rfl rfl ct ?_
      refine TW.add rfl rfl rfl ct rfl ct (fun _ => by (try dsimp only); omega) ?_
      refine TW.assign rfl rfl rfl ct ?_
      refine TW.nil (KW.pick [0, 3, 4, 5] [(0, _, _), (3, _, _), (4, _, _), (5, _, _)] rfl ?_)
      refine KW.round (j + 1, y3) [0, 3, 4, 5] rfl ⟨by show j + 1 ≤ e.needs.length; omega, hW2.step hb3, by show SI w3 y3 (insAll (recsS (l.take k)) (e.needs.take (j + 1))); rw [e3]; exact hsi3.wider fun q hq => by have := hb3.size; rcases hq with h | h <;> omega, ?_⟩ (by show e.needs.length - (j + 1) < e.needs.length - j; omega)
      show (insAll (recsS (l.take k)) (e.needs.take (j + 1))).length ≤ k * 1000 + (j + 1)
      rw [e3]
      have := insS_le y (insAll (recsS (l.take k)) (e.needs.take j))
      omega
    · have hje : e.needs.take j = e.needs := List.take_of_length_le (by omega)
      rw [hje] at hpv hlen2
      refine CW.exit (KW.thenX (KW.thenX (KW.blockX (KW.blockN (KW.then_ (CW.region ?_))))))
      refine TW.move rfl rfl rfl ct ?_
      refine TW.add rfl rfl rfl ct rfl ct (fun _ => by (try dsimp only); omega) ?_
      refine TW.assign rfl rfl rfl ct ?_
      refine TW.nil (KW.pick [0, 3, 4, 5] [(0, _, _), (3, _, _), (4, _, _), (5, _, _)] rfl ?_)
      refine KW.round (k + 1, pv) [0, 3, 4] rfl ⟨by show k + 1 ≤ l.length; omega, hW.step hW2, by show SI W2 pv (recsS (l.take (k + 1))); rw [hrec]; exact hpv, ?_⟩ (by show l.length - (k + 1) < l.length - k; omega)
      show (recsS (l.take (k + 1))).length ≤ (k + 1) * 1000
      rw [hrec]
      omega
  · rw [List.take_of_length_le (by omega)] at hov
    refine CW.exit (KW.thenX (KW.thenX (KW.blockX (KW.then_ (CW.seq (CW.region ?_))))))
    refine TW.move rfl rfl rfl ct ?_
    refine TW.assign rfl rfl rfl ct ?_
    refine TW.nil (KW.pick [0, 2, 3, 4] [(0, _, _), (2, _, _), (3, _, _), (4, _, _)] rfl (KW.then_ ?_))
    refine CW.ret ?_
    refine ret1 Tryz.results12 rfl (⟨hW, hov⟩)
end Go.Proofs.YthjcgmjcpmodlaaGreatDoor

namespace Go.Proofs.YthjcgmjcpmodlaaGreatDoor
open Go.PF Go.RowKit Go.Ord Go.Sort Go.Proofs

theorem i64_sm {x : Int} (h0 : -1000000 ≤ x) (h1 : x ≤ 1000000) : I64 x := ⟨by show (-9223372036854775808 : Int) ≤ x; omega, by show x ≤ 9223372036854775807; omega⟩
theorem litI {w : World} {g : Nat} {t : TypeId} {n : Nat} (l : List Int) (h : Blk w g t (l.map (Value.int .i64))) (hn : n = l.length) (hI : ∀ x ∈ l, -1000000 ≤ x ∧ x ≤ 1000000) (hs : l.length ≤ 1000000) : SI w (.slice (some ⟨g, 0, none⟩) n n) l := by
  subst hn
  exact OwnS.toInts (OwnS.of_blk h (by simp) (by omega)) (fun x hx => i64_sm (hI x hx).1 (hI x hx).2) (fun q hq => by simp [Value.ownBlock] at hq; subst hq; exact h.lt) (by omega)
theorem litP {α : Type} {T : Ty α} {w : World} {g : Nat} {t : TypeId} {n : Nat} (h0 : 0 < T.n) (ps : List (List Value × α)) (h : Blk w g t (ps.flatMap (·.1))) (hn : n = ps.length) (hp : ∀ p ∈ ps, T.rep (fun k => k < w.heap.size) w p.1 p.2) (hs : ps.length ≤ 1000000) : SL T (fun k => k < w.heap.size) w (.slice (some ⟨g, 0, none⟩) n n) (ps.map (·.2)) := by
  subst hn
  exact OwnS.toSLp (T := T) (F := fun k => k < w.heap.size) (w := w) (e := t) (v := .slice (some ⟨g, 0, none⟩) ps.length ps.length) (n := ps.length) ps hp h0 (OwnS.of_blk h (flat_len (fun p : List Value × α => p.1) T.n ps (fun p hp' => T.len _ _ _ _ (hp p hp'))) (by omega)) rfl (fun q hq => by simp [Value.ownBlock] at hq; subst hq; exact h.lt) (by omega)

set_option maxRecDepth 20000 in
theorem scanners_c {w : World} : Gives Tryz.prog 17 #[] w fun u w' => Below w.heap.size w w' ∧ SS w' u sc0 := by
  refine gives_of (vs := []) [] Tryz.func17 rfl Tryz.ntmps17 rfl rfl ?_
  refine CW.seq (CW.region ?_)
  refine TW.assign rfl rfl rfl ct ?_
  refine TW.nil (KW.pick [0] [(0, _, _)] rfl (KW.then_ ?_))
  refine CW.seq (CW.region ?_)
  refine TW.build [2] _ [.int .i64 0, .int .i64 0, .int .i64 5] rfl rfl rfl (Args.cons rfl ct Args.nil) (by kernel_rfl) ?_
  refine TW.build [0, 1] _ [.int .i64 1, .int .i64 1, .int .i64 0] rfl rfl rfl (Args.cons rfl ct (Args.cons rfl ct Args.nil)) (by kernel_rfl) ?_
  refine TW.buildSlice 54 _ rfl rfl rfl eo22 (Args.cons rfl ct (Args.cons rfl ct Args.nil)) rfl rfl rfl rfl rfl ?_
  rintro g3 w3 f3
  refine TW.assign rfl rfl rfl ct ?_
  refine TW.nil (KW.pick [0] [(0, _, _)] rfl (KW.then_ ?_))
  refine CW.ret ?_
  have hs : SS w3 (.slice (some ⟨g3, 0, none⟩) 2 2) sc0 := litP (T := scT) (by decide) [([.int .i64 0, .int .i64 0, .int .i64 5], ⟨0, 0, 5⟩), ([.int .i64 1, .int .i64 1, .int .i64 0], ⟨1, 1, 0⟩)] f3.blk rfl (fun p hp => by
    simp only [List.mem_cons, List.not_mem_nil, or_false] at hp
    rcases hp with rfl | rfl
    · exact ⟨rfl, i64_sm (by simp) (by simp), i64_sm (by simp) (by simp), i64_sm (by simp) (by simp)⟩
    · exact ⟨rfl, i64_sm (by simp) (by simp), i64_sm (by simp) (by simp), i64_sm (by simp) (by simp)⟩) (by simp)
  refine ret1 Tryz.results17 rfl (⟨f3.below, hs⟩)

set_option maxRecDepth 20000 in
theorem records_c {w : World} : Gives Tryz.prog 18 #[] w fun u w' => Below w.heap.size w w' ∧ SR w' u rc0 := by
  refine gives_of (vs := []) [] Tryz.func18 rfl Tryz.ntmps18 rfl rfl ?_
  refine CW.seq (CW.region ?_)
  refine TW.assign rfl rfl rfl ct ?_
  refine TW.nil (KW.pick [0] [(0, _, _)] rfl (KW.then_ ?_))
  refine CW.seq (CW.region ?_)
  refine TW.build [2, 3, 4] _ [.int .i64 0, .int .i64 0, .int .i64 1, .int .i64 100, .string bA, .slice none 0 0] rfl rfl rfl (Args.cons rfl ct (Args.cons rfl ct (Args.cons rfl ct Args.nil))) (by kernel_rfl) ?_
  refine TW.buildSlice 9 _ rfl rfl rfl eo35 (Args.cons rfl ct (Args.cons rfl ct Args.nil)) rfl rfl rfl rfl rfl ?_
  rintro g2 w2 f2
  refine TW.build [1, 2, 3, 4, 5] _ [.int .i64 0, .int .i64 1, .int .i64 2, .int .i64 160, .string bC, .slice (some ⟨g2, 0, none⟩) 2 2] rfl rfl rfl (Args.cons rfl ct (Args.cons rfl ct (Args.cons rfl ct (Args.cons rfl ct (Args.cons rfl ct Args.nil))))) (by kernel_rfl) ?_
  refine TW.build [0, 2, 3, 4] _ [.int .i64 1, .int .i64 0, .int .i64 1, .int .i64 220, .string bC, .slice none 0 0] rfl rfl rfl (Args.cons rfl ct (Args.cons rfl ct (Args.cons rfl ct (Args.cons rfl ct Args.nil)))) (by kernel_rfl) ?_
  refine TW.build [0, 1, 2, 3, 4] _ [.int .i64 1, .int .i64 1, .int .i64 1, .int .i64 230, .string bB, .slice none 0 0] rfl rfl rfl (Args.cons rfl ct (Args.cons rfl ct (Args.cons rfl ct (Args.cons rfl ct (Args.cons rfl ct Args.nil))))) (by kernel_rfl) ?_
  refine TW.buildSlice 37 _ rfl rfl rfl eo23 (Args.cons rfl ct (Args.cons rfl ct (Args.cons rfl ct (Args.cons rfl ct Args.nil)))) rfl rfl rfl rfl rfl ?_
  rintro g3 w3 f3
  refine TW.assign rfl rfl rfl ct ?_
  refine TW.nil (KW.pick [0] [(0, _, _)] rfl (KW.then_ ?_))
  refine CW.ret ?_
  have hc : ST w3 (.slice (some ⟨g2, 0, none⟩) 2 2) [bA, bB] := litP (T := strT) (by decide) [([.string bA], bA), ([.string bB], bB)] (f2.blk.next f3.below) rfl (fun p hp => by
    simp only [List.mem_cons, List.not_mem_nil, or_false] at hp
    rcases hp with rfl | rfl
    · exact ⟨rfl, by decide⟩
    · exact ⟨rfl, by decide⟩) (by simp)
  have hs : SR w3 (.slice (some ⟨g3, 0, none⟩) 4 4) rc0 := litP (T := rcT) (by decide) [([.int .i64 0, .int .i64 0, .int .i64 1, .int .i64 100, .string bA, .slice none 0 0], ⟨0, 0, 1, 100, bA, []⟩), ([.int .i64 0, .int .i64 1, .int .i64 2, .int .i64 160, .string bC, .slice (some ⟨g2, 0, none⟩) 2 2], ⟨0, 1, 2, 160, bC, [bA, bB]⟩), ([.int .i64 1, .int .i64 0, .int .i64 1, .int .i64 220, .string bC, .slice none 0 0], ⟨1, 0, 1, 220, bC, []⟩), ([.int .i64 1, .int .i64 1, .int .i64 1, .int .i64 230, .string bB, .slice none 0 0], ⟨1, 1, 1, 230, bB, []⟩)] f3.blk rfl (fun p hp => by
    simp only [List.mem_cons, List.not_mem_nil, or_false] at hp
    rcases hp with rfl | rfl | rfl | rfl
    · exact ⟨_, rfl, i64_sm (by simp) (by simp), i64_sm (by simp) (by simp), i64_sm (by simp) (by simp), i64_sm (by simp) (by simp), by decide, SL.nil _ _ _⟩
    · exact ⟨_, rfl, i64_sm (by simp) (by simp), i64_sm (by simp) (by simp), i64_sm (by simp) (by simp), i64_sm (by simp) (by simp), (show bC.size ≤ 9223372036854775807 by decide), hc⟩
    · exact ⟨_, rfl, i64_sm (by simp) (by simp), i64_sm (by simp) (by simp), i64_sm (by simp) (by simp), i64_sm (by simp) (by simp), by decide, SL.nil _ _ _⟩
    · exact ⟨_, rfl, i64_sm (by simp) (by simp), i64_sm (by simp) (by simp), i64_sm (by simp) (by simp), i64_sm (by simp) (by simp), by decide, SL.nil _ _ _⟩) (by simp)
  refine ret1 Tryz.results18 rfl (⟨f2.below.step f3.below, hs⟩)

theorem evs0 {lab : ByteArray} {z : List Ev} (h : canon (extL (fun _ => true) sc0 rc0 3 [] lab) = z) : evsOf sc0 rc0 lab = z.take 14 := by
  unfold evsOf
  rw [← h]
  congr 1
  exact canon_ext fun e => by rw [mem_folL, mem_ext0 all0]
theorem evsA : evsOf sc0 rc0 bA = [eX, eY, eZ] := evs0 extA
theorem evsC : evsOf sc0 rc0 bC = [eY, eW] := evs0 extC
theorem evsD : evsOf sc0 rc0 bD = [] := evs0 extD

set_option maxRecDepth 40000 in
set_option maxHeartbeats 1000000 in
theorem head_c {w : World} (ht : Tabs w) : Gives Tryz.prog 5 #[] w fun u w' => Below w.heap.size w w' ∧ u = .bool true := by
  refine gives_of (vs := []) [] Tryz.func5 rfl Tryz.ntmps5 rfl rfl ?_
  refine CW.seq (CW.region ?_)
  refine TW.assign rfl rfl rfl ct ?_
  refine TW.nil (KW.pick [0] [(0, _, _)] rfl (KW.then_ ?_))
  refine CW.seq (CW.region ?_)
  refine TW.call0 (cap := []) rfl rfl en17 rfl Args.nil (scanners_c) ?_
  rintro s1 w1 ⟨b1, hs1⟩
  refine TW.call0 (cap := []) rfl rfl en18 rfl Args.nil (records_c) ?_
  rintro r2 w2 ⟨b2, hr2⟩
  refine TW.call0 (cap := []) rfl rfl en8 rfl (Args.cons rfl ct (Args.cons rfl ct (Args.cons rfl ct Args.nil))) (events_c (ss_step hs1 b2) hr2 (by decide) ((ht.below b1).below b2)) ?_
  rintro v3 w3 ⟨b3, h3⟩
  rw [show evsOf sc0 rc0 (⟨#[65]⟩ : ByteArray) = [eX, eY, eZ] from evsA] at h3
  have ht3 := ((ht.below b1).below b2).below b3
  refine TW.assign rfl rfl rfl ct ?_
  refine TW.nil (KW.pick [0, 1] [(0, _, _), (1, _, _)] rfl (KW.then_ ?_))
  refine CW.seq (CW.region ?_)
  refine TW.call0 (cap := []) rfl rfl en17 rfl Args.nil (scanners_c) ?_
  rintro s4 w4 ⟨b4, hs4⟩
  refine TW.call0 (cap := []) rfl rfl en18 rfl Args.nil (records_c) ?_
  rintro r5 w5 ⟨b5, hr5⟩
  refine TW.call0 (cap := []) rfl rfl en8 rfl (Args.cons rfl ct (Args.cons rfl ct (Args.cons rfl ct Args.nil))) (events_c (ss_step hs4 b5) hr5 (by decide) ((ht3.below b4).below b5)) ?_
  rintro v6 w6 ⟨b6, h6⟩
  rw [show evsOf sc0 rc0 (⟨#[67, 48, 46, 49, 54, 48]⟩ : ByteArray) = [eY, eW] from evsC] at h6
  have ht6 := ((ht3.below b4).below b5).below b6
  have h36 := se_step h3 ((b4.step b5).step b6)
  have bb6 := ((b1.step b2).step b3).step ((b4.step b5).step b6)
  refine TW.assign rfl rfl rfl ct ?_
  refine TW.nil (KW.pick [0, 1, 2] [(0, _, _), (1, _, _), (2, _, _)] rfl (KW.then_ ?_))
  refine CW.seq (CW.region ?_)
  refine TW.buildSlice 3 _ rfl rfl rfl eo27 (Args.cons rfl ct Args.nil) rfl rfl rfl rfl rfl ?_
  rintro g7 w7 f7
  refine TW.build [1, 2, 3] _ [.int .i64 0, .int .i64 95, .int .i64 105, .slice (some ⟨g7, 0, none⟩) 1 1] rfl rfl rfl (Args.cons rfl ct (Args.cons rfl ct (Args.cons rfl ct Args.nil))) (by kernel_rfl) ?_
  refine TW.newVar rfl zc29 rfl sz29 rfl rfl ?_
  rintro g8 w8 f8
  refine TW.nil (KW.pick [0, 1, 2, 3] [(0, _, _), (1, _, _), (2, _, _), (3, _, _)] rfl (KW.then_ ?_))
  refine CW.seq (CW.region ?_)
  refine TW.buildSlice 3 _ rfl rfl rfl eo27 (Args.cons rfl ct Args.nil) rfl rfl rfl rfl rfl ?_
  rintro g9 w9 f9
  refine TW.build [1, 2, 3] _ [.int .i64 0, .int .i64 155, .int .i64 165, .slice (some ⟨g9, 0, none⟩) 1 1] rfl rfl rfl (Args.cons rfl ct (Args.cons rfl ct (Args.cons rfl ct Args.nil))) (by kernel_rfl) ?_
  refine TW.newVar rfl zc29 rfl sz29 rfl rfl ?_
  rintro g10 w10 f10
  refine TW.nil (KW.pick [0, 1, 2, 3, 4] [(0, _, _), (1, _, _), (2, _, _), (3, _, _), (4, _, _)] rfl (KW.then_ ?_))
  refine CW.seq (CW.region ?_)
  refine TW.buildSlice 3 _ rfl rfl rfl eo27 (Args.cons rfl ct (Args.cons rfl ct Args.nil)) rfl rfl rfl rfl rfl ?_
  rintro g11 w11 f11
  refine TW.build [0, 1, 2, 3] _ [.int .i64 1, .int .i64 220, .int .i64 220, .slice (some ⟨g11, 0, none⟩) 2 2] rfl rfl rfl (Args.cons rfl ct (Args.cons rfl ct (Args.cons rfl ct (Args.cons rfl ct Args.nil)))) (by kernel_rfl) ?_
  refine TW.newVar rfl zc29 rfl sz29 rfl rfl ?_
  rintro g12 w12 f12
  refine TW.nil (KW.pick [0, 1, 2, 3, 4, 5] [(0, _, _), (1, _, _), (2, _, _), (3, _, _), (4, _, _), (5, _, _)] rfl (KW.then_ ?_))
  refine CW.seq (CW.region ?_)
  refine TW.loadS _ rfl rfl Tryz.underlying29 sz29 rfl ct (fun _ => (fun _ _ hv => f12.blk.fld hv)) rfl ?_
  refine TW.newVar rfl zc29 rfl sz29 rfl rfl ?_
  rintro g13 w13 f13
  refine TW.nil (KW.pick [0, 1, 2, 3, 4, 5, 6] [(0, _, _), (1, _, _), (2, _, _), (3, _, _), (4, _, _), (5, _, _), (6, _, _)] rfl (KW.then_ ?_))
  refine CW.seq (CW.region ?_)
  refine TW.buildSlice 3 _ rfl rfl rfl eo27 (Args.cons rfl ct Args.nil) rfl rfl rfl rfl rfl ?_
  rintro g14 w14 f14
  refine TW.fieldAddr rfl rfl fo29_3 rfl ct ?_
  refine TW.storeFld rfl sz27 rfl rfl (f13.blk.next f14.below) (by show 3 < 4; decide) rfl ?_
  rintro w15 hB15 hbut15 hsz15
  refine TW.nil (KW.pick [0, 1, 2, 3, 4, 5, 6] [(0, _, _), (1, _, _), (2, _, _), (3, _, _), (4, _, _), (5, _, _), (6, _, _)] rfl (KW.then_ ?_))
  refine CW.seq (CW.region ?_)
  refine TW.move rfl rfl rfl ct ?_
  have k13 := f13.at_
  have c78 := f7.below.step f8.below
  have c910 := f9.below.step f10.below
  have c1112 := f11.below.step f12.below
  have c1314 := f13.below.step f14.below
  have hb13 : Below w12.heap.size w12 w15 := c1314.grown hbut15 c1314.size (fun k hk => by cases hk; omega)
  have hb11 : Below w10.heap.size w10 w15 := c1112.step hb13
  have hb9 : Below w8.heap.size w8 w15 := c910.step hb11
  have hb7 : Below w6.heap.size w6 w15 := c78.step hb9
  have hBx := f8.blk.next hb9
  have hBy := f10.blk.next hb11
  have hBz := f12.blk.next hb13
  have nX : SI w15 (.slice (some ⟨g7, 0, none⟩) 1 1) [0] := litI _ (f7.blk.next (f8.below.step hb9)) rfl (by decide) (by decide)
  have nY : SI w15 (.slice (some ⟨g9, 0, none⟩) 1 1) [1] := litI _ (f9.blk.next (f10.below.step hb11)) rfl (by decide) (by decide)
  have nZ : SI w15 (.slice (some ⟨g11, 0, none⟩) 2 2) [1, 2] := litI _ (f11.blk.next (f12.below.step hb13)) rfl (by decide) (by decide)
  have nW : SI w15 (.slice (some ⟨g14, 0, none⟩) 1 1) [2] := litI _ (hbut15.blk f14.blk (by have := f14.at_; have := f13.size; omega)) rfl (by decide) (by decide)
  have h3' := se_step h36 hb7
  have h6' := se_step h6 hb7
  obtain ⟨V3, vc3, rfl, _⟩ := h3'.form
  obtain ⟨V6, vc6, rfl, _⟩ := h6'.form
  have ht15 := ht6.below hb7
  have bb15 := bb6.step hb7
  refine TW.loadS _ rfl rfl Tryz.underlying29 sz29 rfl ct (fun _ => (fun _ _ hv => hBx.fld hv)) rfl ?_
  refine TW.loadS _ rfl rfl Tryz.underlying29 sz29 rfl ct (fun _ => (fun _ _ hv => hBy.fld hv)) rfl ?_
  refine TW.loadS _ rfl rfl Tryz.underlying29 sz29 rfl ct (fun _ => (fun _ _ hv => hBz.fld hv)) rfl ?_
  refine TW.buildSlice 29 _ rfl rfl rfl eo24 (Args.cons rfl ct (Args.cons rfl ct (Args.cons rfl ct Args.nil))) rfl rfl rfl rfl rfl ?_
  rintro g16 w16 f16
  have hI : ∀ x : Int, -1000000 ≤ x → x ≤ 1000000 → I64 x := fun x => i64_sm
  have r16 : SE w16 (.slice (some ⟨g16, 0, none⟩) 3 3) [eX, eY, eZ] := litP (T := evT) (by decide) [([.int .i64 0, .int .i64 95, .int .i64 105, .slice (some ⟨g7, 0, none⟩) 1 1], eX), ([.int .i64 0, .int .i64 155, .int .i64 165, .slice (some ⟨g9, 0, none⟩) 1 1], eY), ([.int .i64 1, .int .i64 220, .int .i64 220, .slice (some ⟨g11, 0, none⟩) 2 2], eZ)] f16.blk rfl (fun p hp => by
    simp only [List.mem_cons, List.not_mem_nil, or_false] at hp
    rcases hp with rfl | rfl | rfl
    · exact ⟨_, rfl, hI 0 (by omega) (by omega), hI 95 (by omega) (by omega), hI 105 (by omega) (by omega), si_step nX f16.below⟩
    · exact ⟨_, rfl, hI 0 (by omega) (by omega), hI 155 (by omega) (by omega), hI 165 (by omega) (by omega), si_step nY f16.below⟩
    · exact ⟨_, rfl, hI 1 (by omega) (by omega), hI 220 (by omega) (by omega), hI 220 (by omega) (by omega), si_step nZ f16.below⟩) (by simp)
  refine TW.call0 (cap := []) rfl rfl en7 rfl (Args.cons rfl ct (Args.cons rfl ct Args.nil)) (rsame_c (se_step h3' f16.below) r16 (by decide) (by decide)) ?_
  rintro y w17 ⟨c17, rfl⟩
  rw [dec_pos rfl]
  have d17 := f16.below.step c17
  have hBy17 := hBy.next d17
  have hBw17 := hB15.next d17
  refine TW.move rfl rfl rfl ct ?_
  refine TW.known rfl rfl ?_
  refine TW.move rfl rfl rfl ct ?_
  refine TW.known rfl rfl ?_
  refine TW.loadS _ rfl rfl Tryz.underlying29 sz29 rfl ct (fun _ => (fun _ _ hv => hBy17.fld hv)) rfl ?_
  refine TW.known rfl rfl ?_
  refine TW.loadS _ rfl rfl Tryz.underlying29 sz29 rfl ct (fun _ => (fun _ _ hv => hBw17.fld hv)) rfl ?_
  refine TW.known rfl rfl ?_
  refine TW.buildSlice 29 _ rfl rfl rfl eo24 (Args.cons rfl ct (Args.cons rfl ct Args.nil)) rfl rfl rfl rfl rfl ?_
  rintro g18 w18 f18
  refine TW.known rfl rfl ?_
  have d18 := d17.step f18.below
  have r18 : SE w18 (.slice (some ⟨g18, 0, none⟩) 2 2) [eY, eW] := litP (T := evT) (by decide) [([.int .i64 0, .int .i64 155, .int .i64 165, .slice (some ⟨g9, 0, none⟩) 1 1], eY), ([.int .i64 1, .int .i64 220, .int .i64 220, .slice (some ⟨g14, 0, none⟩) 1 1], eW)] f18.blk rfl (fun p hp => by
    simp only [List.mem_cons, List.not_mem_nil, or_false] at hp
    rcases hp with rfl | rfl
    · exact ⟨_, rfl, hI 0 (by omega) (by omega), hI 155 (by omega) (by omega), hI 165 (by omega) (by omega), si_step nY d18⟩
    · exact ⟨_, rfl, hI 1 (by omega) (by omega), hI 220 (by omega) (by omega), hI 220 (by omega) (by omega), si_step nW d18⟩) (by simp)
  refine TW.call0 (cap := []) rfl rfl en7 rfl (Args.cons rfl ct (Args.cons rfl ct Args.nil)) (rsame_c (se_step h6' d18) r18 (by decide) (by decide)) ?_
  rintro y w19 ⟨c19, rfl⟩
  rw [dec_pos rfl]
  have d19 := d18.step c19
  have ht19 := ht15.below d19
  refine TW.pickAnd rfl rfl rfl ct rfl pT ?_
  refine TW.move rfl rfl rfl ct ?_
  refine TW.known rfl rfl ?_
  refine TW.call0 (cap := []) rfl rfl en17 rfl Args.nil (scanners_c) ?_
  rintro s20 w20 ⟨c20, hs20⟩
  refine TW.known rfl rfl ?_
  refine TW.call0 (cap := []) rfl rfl en18 rfl Args.nil (records_c) ?_
  rintro r21 w21 ⟨c21, hr21⟩
  refine TW.known rfl rfl ?_
  refine TW.call0 (cap := []) rfl rfl en8 rfl (Args.cons rfl ct (Args.cons rfl ct (Args.cons rfl ct Args.nil))) (events_c (ss_step hs20 c21) hr21 (by decide) ((ht19.below c20).below c21)) ?_
  rintro v22 w22 ⟨c22, h22⟩
  rw [show evsOf sc0 rc0 (⟨#[68]⟩ : ByteArray) = [] from evsD] at h22
  obtain ⟨V22, vc22, rfl, _⟩ := h22.form
  have d22 := (c20.step c21).step c22
  have d22' := d19.step d22
  refine TW.known rfl rfl ?_
  refine TW.lenSlice rfl rfl Tryz.underlying24 rfl ct ?_
  refine TW.known rfl rfl ?_
  refine TW.eql rfl rfl rfl ct rfl ct ?_
  refine TW.pickAnd rfl rfl rfl ct rfl pT ?_
  refine TW.move rfl rfl rfl ct ?_
  refine TW.known rfl rfl ?_
  refine TW.move rfl rfl rfl ct ?_
  refine TW.known rfl rfl ?_
  refine TW.call0 (cap := []) rfl rfl en11 rfl (Args.cons rfl ct Args.nil) (about_c (se_step h3' d22') (by decide) (by decide)) ?_
  rintro v23 w23 ⟨c23, h23, _⟩
  have h23i : SI w23 v23 [0, 1, 2] := OwnS.toInts (l := [0, 1, 2]) h23 (fun x hx => hI x (by simp at hx; omega) (by simp at hx; omega)) (fun g hg => h23.lt hg) (by decide)
  refine TW.known rfl rfl ?_
  refine TW.buildSlice 3 _ rfl rfl rfl eo27 (Args.cons rfl ct (Args.cons rfl ct (Args.cons rfl ct Args.nil))) rfl rfl rfl rfl rfl ?_
  rintro g24 w24 f24
  refine TW.known rfl rfl ?_
  refine TW.call0 (cap := []) rfl rfl en10 rfl (Args.cons rfl ct (Args.cons rfl ct Args.nil)) (rints_c (b := [0, 1, 2]) (si_step h23i f24.below) (litI _ f24.blk rfl (by decide) (by decide))) ?_
  rintro y w25 ⟨c25, rfl⟩
  have d25 := (c23.step f24.below).step c25
  refine TW.pickAnd rfl rfl rfl ct rfl pT ?_
  refine TW.move rfl rfl rfl ct ?_
  refine TW.known rfl rfl ?_
  refine TW.call0 (cap := []) rfl rfl en17 rfl Args.nil (scanners_c) ?_
  rintro s26 w26 ⟨c26, hs26⟩
  refine TW.known rfl rfl ?_
  refine TW.call0 (cap := []) rfl rfl en18 rfl Args.nil (records_c) ?_
  rintro r27 w27 ⟨c27, hr27⟩
  obtain ⟨R27, rc27, rfl, _⟩ := hr27.form
  obtain ⟨ad, rfl⟩ := hr27.addr (by decide)
  obtain ⟨xv, hcells, hok⟩ := SR.get hr27 (i := 1) (e := ⟨0, 1, 2, 160, bC, [bA, bB]⟩) rfl
  have hlR : rc0.length = 4 := rfl
  refine TW.known rfl rfl ?_
  refine TW.indexAddr rfl rfl Tryz.underlying23 sz37 rfl ct rfl ct (fun _ => by (try dsimp only); omega) ?_
  refine TW.known rfl rfl ?_
  refine TW.loadS _ rfl rfl Tryz.underlying37 sz37 rfl ct (fun _ => hcells) rfl ?_
  refine TW.known rfl rfl ?_
  refine TW.call0 (cap := []) rfl rfl en13 rfl (Args.cons rfl ct (Args.cons rfl ct Args.nil)) (valid_c (ss_step hs26 c27) hok) ?_
  rintro y w28 ⟨c28, rfl⟩
  rw [dec_pos (val0 _ (by simp [rc0]))]
  refine TW.pickAnd rfl rfl rfl ct rfl pT ?_
  refine TW.assign rfl rfl rfl ct ?_
  refine TW.nil (KW.pick [0, 1, 2, 3, 4, 5, 6] [(0, _, _), (1, _, _), (2, _, _), (3, _, _), (4, _, _), (5, _, _), (6, _, _)] rfl (KW.then_ ?_))
  refine CW.ret ?_
  refine ret1 Tryz.results5 rfl (⟨(((bb15.step d22').step d25).step (c26.step c27)).step c28, rfl⟩)
end Go.Proofs.YthjcgmjcpmodlaaGreatDoor
