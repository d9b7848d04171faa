import Derived.Test.YtegmhdabedgloaaE
namespace Go.Proofs.Ytegmhdabedgloaa
open Go.PF Go.RowKit

set_option maxRecDepth 20000 in
theorem rinside_c {F : Nat → Prop} {v : Value} {l : List Box} {w : World} (box : Int) (hl : SL boxT F w v l) :
    Gives Try.prog 31 #[v, .int .i64 box] w fun u w' => Below w.heap.size w w' ∧ SL intT (fun k => w.heap.size ≤ k) w' u ((insideI l box).map fun (k : Nat) => (k : Int)) := by
  obtain ⟨A, cap, rfl, h1, h2, h3⟩ := id hl
  refine gives_of (vs := [.slice A l.length cap, .int .i64 box]) [(0, none, _), (1, none, _)] Try.func31 rfl Try.ntmps31 rfl rfl ?_
  refine CW.seq (CW.region ?_)
  refine TW.assign rfl rfl rfl ct ?_
  refine TW.nil (KW.pick [0, 1, 4] [(0, _, _), (1, _, _), (4, _, _)] rfl (KW.then_ ?_))
  refine CW.seq (CW.seq (CW.region ?_))
  refine TW.move rfl rfl rfl ct ?_
  refine TW.move rfl rfl rfl ct ?_
  refine TW.callF (cap := []) rfl rfl en48 rfl ct (Args.cons rfl ct (Args.cons rfl ct Args.nil)) (fun _ => rhas_c box hl) ?_
  rintro w1 hb1
  refine TW.not rfl rfl rfl ct ?_
  refine TW.nil (KW.pick [0, 1, 4, 10] [(0, _, _), (1, _, _), (4, _, _), (10, _, _)] rfl (KW.then_ ?_))
  refine CW.cond rfl (fun hno => ?_) (fun hyes => ?_)
  · refine CW.seq (CW.region ?_)
    refine TW.assign rfl rfl rfl ct ?_
    refine TW.nil (KW.pick [0, 1, 4] [(0, _, _), (1, _, _), (4, _, _)] rfl (KW.then_ ?_))
    refine CW.ret (KW.thenR ?_)
    refine ret1 Try.results31 rfl (⟨hb1, ?_⟩)
    unfold insideI
    rw [if_neg (fun h => by rw [dec_pos h] at hno; cases hno)]
    exact SL.nil _ _ _
  · have hh : BHas l box := dec_iff.1 (by simpa using hyes)
    obtain ⟨n, rfl⟩ : ∃ n : Nat, box = n := ⟨box.toNat, by have := hh.2.1; omega⟩
    have hfew := hh.1.few
    refine CW.skip (KW.then_ (CW.seq (CW.region ?_)))
    refine TW.assign rfl rfl rfl ct ?_
    refine TW.nil (KW.pick [0, 1, 4, 5] [(0, _, _), (1, _, _), (4, _, _), (5, _, _)] rfl (KW.then_ ?_))
    refine CW.seq (CW.seq (CW.region ?_))
    refine TW.assign rfl rfl rfl ct ?_
    refine TW.nil (KW.pick [0, 1, 4, 5, 6] [(0, _, _), (1, _, _), (4, _, _), (5, _, _), (6, _, _)] rfl (KW.then_ ?_))
    refine CW.block ?_
    -- the ghost: how many boxes have been looked at, the result's value
    refine CW.loopS (fun x : Nat × Value => [(0, none, .slice A l.length cap), (1, none, .int .i64 (n : Int)), (5, none, x.2), (6, none, .int .i64 (x.1 : Int))])
      (fun x W => x.1 ≤ l.length ∧ Below w.heap.size w W ∧ OwnS W 3 1 x.2 (((List.range x.1).filter fun i => (outside l i).contains n).length) (((List.range x.1).filter fun i => (outside l i).contains n).map fun (k : Nat) => Value.int .i64 (k : Int)) ∧ ∀ g, x.2.ownBlock = some g → w.heap.size ≤ g)
      (fun x => l.length - x.1) (0, .slice none 0 0) [0, 1, 5, 6] ⟨by simp, hb1, OwnS.nil _ _ _, fun g hg => by simp [Value.ownBlock] at hg⟩ rfl ?_
    rintro ⟨k, u⟩ W ⟨hk, hbW, hown, hfr⟩
    dsimp only at hk hown hfr
    have hlW := hl.below hbW
    refine CW.seq (CW.seq (CW.region ?_))
    refine TW.move rfl rfl rfl ct ?_
    refine TW.move rfl rfl rfl ct ?_
    refine TW.lenSlice rfl rfl Try.underlying22 rfl ct ?_
    refine TW.lss rfl rfl rfl ct rfl ct ?_
    refine TW.nil (KW.pick [0, 1, 5, 6, 14] [(0, _, _), (1, _, _), (5, _, _), (6, _, _), (14, _, _)] rfl (KW.then_ ?_))
    refine CW.condP rfl (fun hlt => ?_) (fun hge => ?_)
    · dsimp only at hlt
      have hkl : k < l.length := by omega
      refine CW.skip (KW.then_ (CW.seq (CW.block (CW.seq (CW.region ?_)))))
      refine TW.move rfl rfl rfl ct ?_
      refine TW.move rfl rfl rfl ct ?_
      refine TW.call0 (cap := []) rfl rfl en59 rfl (Args.cons rfl ct (Args.cons rfl ct Args.nil)) (routside_c k hlW hh.1 hkl) ?_
      rintro o W1 ⟨hb1', hown1, hfr1⟩
      have ho := own_nats (F := fun _ => True) hown1 (fun x hx => by have := outside_lt x hx; omega) (fun _ _ => trivial) (by have := outside_len (l := l) (i := k); omega)
      refine TW.move rfl rfl rfl ct ?_
      refine TW.callF (cap := []) rfl rfl en60 rfl ct (Args.cons rfl ct (Args.cons rfl ct Args.nil)) (fun _ => rin_c (n : Int) ho) ?_
      rintro W2 hb2'
      refine TW.nil (KW.pick [0, 1, 5, 6, 21] [(0, _, _), (1, _, _), (5, _, _), (6, _, _), (21, _, _)] rfl (KW.then_ ?_))
      have hbW2 := (hbW.step hb1').step hb2'
      have hown2 := (hown.below hb1').below hb2'
      have hmem : ((n : Int) ∈ (outside l k).map fun (k : Nat) => (k : Int)) ↔ (outside l k).contains n = true := by
        constructor
        · intro h
          simp only [List.mem_map] at h
          obtain ⟨k', hk', e⟩ := h
          have : k' = n := by omega
          subst this
          simpa using hk'
        · intro h
          simp at h
          exact List.mem_map.2 ⟨n, h, rfl⟩
      have hrange : (List.range (k + 1)).filter (fun i => (outside l i).contains n) = (List.range k).filter (fun i => (outside l i).contains n) ++ if (outside l k).contains n then [k] else [] := by
        rw [List.range_succ, List.filter_append]; simp only [List.filter_cons, List.filter_nil]
      have hcnt : ((List.range k).filter fun i => (outside l i).contains n).length ≤ k := by
        have := List.length_filter_le (fun i => (outside l i).contains n) (List.range k)
        simpa using this
      refine CW.condP rfl (fun hin => ?_) (fun hnin => ?_)
      · refine CW.region ?_
        refine TW.move rfl rfl rfl ct ?_
        refine TW.move rfl rfl rfl ct ?_
        refine TW.buildSlice 3 [.tmp 23] rfl rfl rfl eo25 (Args.cons rfl ct Args.nil) rfl rfl rfl rfl rfl ?_
        rintro g1 W3 f3
        refine TW.append [.int .i64 (k : Int)] rfl rfl go25 rfl (hown2.below f3.below) rfl rfl (fun j v hj => ⟨⟨g1, 0, none⟩, rfl, f3.blk.fld hj⟩) (fun v hv => by simp at hv; subst hv; rfl) (by omega) (by omega) ?_
        rintro u2 W4 hown4 hg4 hnew4
        have hbW3 := hbW2.step f3.below
        have hbW4 : Below w.heap.size w W4 := grown_below hg4 hbW3 hfr
        refine TW.assign rfl rfl rfl ct ?_
        refine TW.nil (KW.pick [0, 1, 5, 6] [(0, _, _), (1, _, _), (5, _, _), (6, _, _)] rfl (KW.blockN (KW.then_ ?_)))
        refine CW.region ?_
        refine TW.move rfl rfl rfl ct ?_
        refine TW.add rfl rfl rfl ct rfl ct (fun _ => by (try dsimp only); omega) ?_
        refine TW.assign rfl rfl rfl ct ?_
        refine TW.nil (KW.pick [0, 1, 5, 6] [(0, _, _), (1, _, _), (5, _, _), (6, _, _)] rfl ?_)
        refine KW.round (k + 1, u2) [0, 1, 5, 6] rfl ⟨by show k + 1 ≤ _; omega, hbW4, ?_, new_own hnew4 hfr hbW3.size⟩ (by show _ - (k + 1) < _ - k; omega)
        dsimp only
        rw [hrange, if_pos (hmem.1 hin)]
        simpa using hown4
      · refine CW.skip (KW.blockN (KW.then_ (CW.region ?_)))
        refine TW.move rfl rfl rfl ct ?_
        refine TW.add rfl rfl rfl ct rfl ct (fun _ => by (try dsimp only); omega) ?_
        refine TW.assign rfl rfl rfl ct ?_
        refine TW.nil (KW.pick [0, 1, 5, 6] [(0, _, _), (1, _, _), (5, _, _), (6, _, _)] rfl ?_)
        refine KW.round (k + 1, u) [0, 1, 5, 6] rfl ⟨by show k + 1 ≤ _; omega, hbW2, ?_, hfr⟩ (by show _ - (k + 1) < _ - k; omega)
        dsimp only
        rw [hrange, if_neg (fun h => hnin (hmem.2 h))]
        simpa using hown2
    · refine CW.exit (KW.thenX (KW.thenX (KW.blockX (KW.then_ (CW.seq (CW.region ?_))))))
      refine TW.move rfl rfl rfl ct ?_
      refine TW.assign rfl rfl rfl ct ?_
      refine TW.nil (KW.pick [0, 1, 4, 5, 6] [(0, _, _), (1, _, _), (4, _, _), (5, _, _), (6, _, _)] rfl (KW.then_ ?_))
      refine CW.ret ?_
      dsimp only at hge
      have : k = l.length := by omega
      subst this
      refine ret1 Try.results31 rfl (⟨hbW, ?_⟩)
      unfold insideI
      rw [if_pos hh, Int.toNat_natCast]
      have hcnt : ((List.range l.length).filter fun i => (outside l i).contains n).length ≤ l.length := by
        have := List.length_filter_le (fun i => (outside l i).contains n) (List.range l.length)
        simpa using this
      exact own_nats (xs := inside l n) hown (fun x hx => by have := (List.mem_filter.1 hx).1; simp at this; omega) hfr (by show (List.filter _ _).length ≤ _; omega)

theorem rints_c {F F' : Nat → Prop} {v v' : Value} {l l' : List Int} {w : World} (hl : SL intT F w v l) (hl' : SL intT F' w v' l') :
    Gives Try.prog 16 #[v, v'] w fun u w' => Below w.heap.size w w' ∧ u = .bool (decide (l = l')) := by
  obtain ⟨A, cap, rfl, h1, h2, h3⟩ := id hl
  obtain ⟨A', cap', rfl, h1', h2', h3'⟩ := id hl'
  refine gives_of (vs := [.slice A l.length cap, .slice A' l'.length cap']) [(0, none, _), (1, none, _)] Try.func16 rfl Try.ntmps16 rfl rfl ?_
  refine CW.seq (CW.region ?_)
  refine TW.assign rfl rfl rfl ct ?_
  refine TW.nil (KW.pick [0, 1, 4] [(0, _, _), (1, _, _), (4, _, _)] rfl (KW.then_ ?_))
  refine CW.seq (CW.seq (CW.region ?_))
  refine TW.move rfl rfl rfl ct ?_
  refine TW.lenSlice rfl rfl Try.underlying25 rfl ct ?_
  refine TW.move rfl rfl rfl ct ?_
  refine TW.lenSlice rfl rfl Try.underlying25 rfl ct ?_
  refine TW.neq rfl rfl rfl ct rfl ct ?_
  refine TW.nil (KW.pick [0, 1, 4, 10] [(0, _, _), (1, _, _), (4, _, _), (10, _, _)] rfl (KW.then_ ?_))
  refine CW.condP rfl (fun hne => ?_) (fun heq => ?_)
  · refine CW.seq (CW.region ?_)
    refine TW.assign rfl rfl rfl ct ?_
    refine TW.nil (KW.pick [0, 1, 4] [(0, _, _), (1, _, _), (4, _, _)] rfl (KW.then_ ?_))
    refine CW.ret (KW.thenR ?_)
    refine ret1 Try.results16 rfl (⟨Below.refl _ _, by simp; rintro rfl; exact hne rfl⟩)
  · have hll : l.length = l'.length := by simp at heq; omega
    refine CW.skip (KW.then_ (CW.seq (CW.seq (CW.region ?_))))
    refine TW.assign rfl rfl rfl ct ?_
    refine TW.nil (KW.pick [0, 1, 4, 5] [(0, _, _), (1, _, _), (4, _, _), (5, _, _)] rfl (KW.then_ ?_))
    refine CW.block ?_
    refine CW.loopS (fun k : Nat => [(0, none, .slice A l.length cap), (1, none, .slice A' l'.length cap'), (5, none, .int .i64 (k : Int))]) (fun k W => Below w.heap.size w W ∧ k ≤ l.length ∧ ∀ i < k, l[i]? = l'[i]?) (fun k => l.length - k) 0 [0, 1, 5] ⟨Below.refl _ _, by omega, fun i hi => by omega⟩ rfl ?_
    rintro k W ⟨hbW, hk, hsame⟩
    refine CW.seq (CW.seq (CW.region ?_))
    refine TW.move rfl rfl rfl ct ?_
    refine TW.move rfl rfl rfl ct ?_
    refine TW.lenSlice rfl rfl Try.underlying25 rfl ct ?_
    refine TW.lss rfl rfl rfl ct rfl ct ?_
    refine TW.nil (KW.pick [0, 1, 5, 14] [(0, _, _), (1, _, _), (5, _, _), (14, _, _)] rfl (KW.then_ ?_))
    refine CW.condP rfl (fun hlt => ?_) (fun hge => ?_)
    · have hkl : k < l.length := by omega
      have hkl' : k < l'.length := by omega
      obtain ⟨a, rfl, hcell, _⟩ := (hl.below hbW).int (List.getElem?_eq_getElem hkl)
      obtain ⟨a', rfl, hcell', _⟩ := (hl'.below hbW).int (List.getElem?_eq_getElem hkl')
      refine CW.skip (KW.then_ (CW.seq (CW.block (CW.seq (CW.draw mixed (by kernel_rfl) ?_)))))
      refine DW.move rfl rfl rfl ct ?_
      refine DW.move rfl rfl rfl ct ?_
      refine DW.indexAddr rfl rfl Try.underlying25 sz3 rfl ct rfl ct (fun _ => by (try dsimp only); omega) ?_
      refine DW.load rfl rfl one3 rfl ct (fun _ => hcell) ?_
      refine DW.move rfl rfl rfl ct ?_
      refine DW.move rfl rfl rfl ct ?_
      refine DW.indexAddr rfl rfl Try.underlying25 sz3 rfl ct rfl ct (fun _ => by (try dsimp only); omega) ?_
      refine DW.load rfl rfl one3 rfl ct (fun _ => hcell') ?_
      refine DW.neq rfl rfl rfl ct rfl ct ?_
      refine DW.nil (DW.fin [0, 1, 5, 25] [(0, _, _), (1, _, _), (5, _, _), (25, _, _)] rfl (fun W1 hb1 => KW.then_ ?_))
      refine CW.condP rfl (fun hd => ?_) (fun hs => ?_)
      · refine CW.seq (CW.region ?_)
        refine TW.assign rfl rfl rfl ct ?_
        refine TW.nil (KW.pick [0, 1, 4, 5] [(0, _, _), (1, _, _), (4, _, _), (5, _, _)] rfl (KW.then_ ?_))
        refine CW.ret (KW.blockR (KW.thenR (KW.thenR (KW.blockR (KW.thenR ?_)))))
        refine ret1 Try.results16 rfl (⟨hbW.step hb1, by simp; rintro rfl; exact hd rfl⟩)
      · refine CW.skip (KW.blockN (KW.then_ (CW.region ?_)))
        refine TW.move rfl rfl rfl ct ?_
        refine TW.add rfl rfl rfl ct rfl ct (fun _ => by (try dsimp only); omega) ?_
        refine TW.assign rfl rfl rfl ct ?_
        refine TW.nil (KW.pick [0, 1, 5] [(0, _, _), (1, _, _), (5, _, _)] rfl ?_)
        refine KW.round (k + 1) [0, 1, 5] rfl ⟨hbW.step hb1, by omega, ?_⟩ (by omega)
        intro i hi
        by_cases h : i = k
        · subst h; rw [List.getElem?_eq_getElem hkl, List.getElem?_eq_getElem hkl']; simp at hs; rw [hs]
        · exact hsame i (by omega)
    · refine CW.exit (KW.thenX (KW.thenX (KW.blockX (KW.then_ (CW.seq (CW.region ?_))))))
      refine TW.assign rfl rfl rfl ct ?_
      refine TW.nil (KW.pick [0, 1, 4, 5] [(0, _, _), (1, _, _), (4, _, _), (5, _, _)] rfl (KW.then_ ?_))
      refine CW.ret ?_
      have : l = l' := by
        apply List.ext_getElem?
        intro i
        rcases Nat.lt_or_ge i l.length with h | h
        · exact hsame i (by omega)
        · rw [List.getElem?_eq_none h, List.getElem?_eq_none (by omega)]
      refine ret1 Try.results16 rfl (⟨hbW, by simp [this]⟩)

theorem rsame_c {F F' : Nat → Prop} {v v' : Value} {l l' : List Box} {w : World} (hl : SL boxT F w v l) (hl' : SL boxT F' w v' l') :
    Gives Try.prog 20 #[v, v'] w fun u w' => Below w.heap.size w w' ∧ u = .bool (dec (l = l')) := by
  obtain ⟨A, cap, rfl, h1, h2, h3⟩ := id hl
  obtain ⟨A', cap', rfl, h1', h2', h3'⟩ := id hl'
  refine gives_of (vs := [.slice A l.length cap, .slice A' l'.length cap']) [(0, none, _), (1, none, _)] Try.func20 rfl Try.ntmps20 rfl rfl ?_
  refine CW.seq (CW.region ?_)
  refine TW.assign rfl rfl rfl ct ?_
  refine TW.nil (KW.pick [0, 1, 4] [(0, _, _), (1, _, _), (4, _, _)] rfl (KW.then_ ?_))
  refine CW.seq (CW.seq (CW.region ?_))
  refine TW.move rfl rfl rfl ct ?_
  refine TW.lenSlice rfl rfl Try.underlying22 rfl ct ?_
  refine TW.move rfl rfl rfl ct ?_
  refine TW.lenSlice rfl rfl Try.underlying22 rfl ct ?_
  refine TW.neq rfl rfl rfl ct rfl ct ?_
  refine TW.nil (KW.pick [0, 1, 4, 10] [(0, _, _), (1, _, _), (4, _, _), (10, _, _)] rfl (KW.then_ ?_))
  refine CW.condP rfl (fun hne => ?_) (fun heq => ?_)
  · refine CW.seq (CW.region ?_)
    refine TW.assign rfl rfl rfl ct ?_
    refine TW.nil (KW.pick [0, 1, 4] [(0, _, _), (1, _, _), (4, _, _)] rfl (KW.then_ ?_))
    refine CW.ret (KW.thenR ?_)
    refine ret1 Try.results20 rfl (⟨Below.refl _ _, by rw [dec_neg]; rintro rfl; exact hne rfl⟩)
  · have hll : l.length = l'.length := by simp at heq; omega
    refine CW.skip (KW.then_ (CW.seq (CW.seq (CW.region ?_))))
    refine TW.assign rfl rfl rfl ct ?_
    refine TW.nil (KW.pick [0, 1, 4, 5] [(0, _, _), (1, _, _), (4, _, _), (5, _, _)] rfl (KW.then_ ?_))
    refine CW.block ?_
    refine CW.loopS (fun k : Nat => [(0, none, .slice A l.length cap), (1, none, .slice A' l'.length cap'), (5, none, .int .i64 (k : Int))]) (fun k W => Below w.heap.size w W ∧ k ≤ l.length ∧ ∀ i < k, l[i]? = l'[i]?) (fun k => l.length - k) 0 [0, 1, 5] ⟨Below.refl _ _, by omega, fun i hi => by omega⟩ rfl ?_
    rintro k W ⟨hbW, hk, hsame⟩
    refine CW.seq (CW.seq (CW.region ?_))
    refine TW.move rfl rfl rfl ct ?_
    refine TW.move rfl rfl rfl ct ?_
    refine TW.lenSlice rfl rfl Try.underlying22 rfl ct ?_
    refine TW.lss rfl rfl rfl ct rfl ct ?_
    refine TW.nil (KW.pick [0, 1, 5, 14] [(0, _, _), (1, _, _), (5, _, _), (14, _, _)] rfl (KW.then_ ?_))
    refine CW.condP rfl (fun hlt => ?_) (fun hge => ?_)
    · obtain ⟨b, hb⟩ : ∃ b, l[k]? = some b := ⟨l[k], List.getElem?_eq_getElem (by omega)⟩
      obtain ⟨c, hc⟩ : ∃ c, l'[k]? = some c := ⟨l'[k], List.getElem?_eq_getElem (by omega)⟩
      obtain ⟨a, rfl, _, hcell, _⟩ := box_at (hl.below hbW) hb
      obtain ⟨a', rfl, _, hcell', _⟩ := box_at (hl'.below hbW) hc
      refine CW.skip (KW.then_ (CW.seq (CW.block (CW.seq (CW.draw mixed (by kernel_rfl) ?_)))))
      refine DW.move rfl rfl rfl ct ?_
      refine DW.move rfl rfl rfl ct ?_
      refine DW.indexAddr rfl rfl Try.underlying22 sz28 rfl ct rfl ct (fun _ => by (try dsimp only); omega) ?_
      refine DW.loadS _ rfl rfl Try.underlying28 sz28 rfl ct (fun _ => hcell) rfl ?_
      refine DW.move rfl rfl rfl ct ?_
      refine DW.move rfl rfl rfl ct ?_
      refine DW.indexAddr rfl rfl Try.underlying22 sz28 rfl ct rfl ct (fun _ => by (try dsimp only); omega) ?_
      refine DW.loadS _ rfl rfl Try.underlying28 sz28 rfl ct (fun _ => hcell') rfl ?_
      refine DW.neqT rfl rfl rfl ct rfl ct (by kernel_rfl) ?_
      refine DW.nil (DW.fin [0, 1, 5, 25] [(0, _, _), (1, _, _), (5, _, _), (25, _, _)] rfl (fun W1 hb1 => KW.then_ ?_))
      refine CW.cond rfl (fun hd => ?_) (fun hs => ?_)
      · refine CW.seq (CW.region ?_)
        refine TW.assign rfl rfl rfl ct ?_
        refine TW.nil (KW.pick [0, 1, 4, 5] [(0, _, _), (1, _, _), (4, _, _), (5, _, _)] rfl (KW.then_ ?_))
        refine CW.ret (KW.blockR (KW.thenR (KW.thenR (KW.blockR (KW.thenR ?_)))))
        refine ret1 Try.results20 rfl (⟨hbW.step hb1, ?_⟩)
        rw [dec_neg]
        rintro rfl
        rw [hb] at hc
        simp only [Option.some.injEq] at hc
        subst hc
        rw [eqV_box, dec_pos ⟨rfl, rfl, rfl, rfl, rfl⟩] at hd
        cases hd
      · refine CW.skip (KW.blockN (KW.then_ (CW.region ?_)))
        refine TW.move rfl rfl rfl ct ?_
        refine TW.add rfl rfl rfl ct rfl ct (fun _ => by (try dsimp only); omega) ?_
        refine TW.assign rfl rfl rfl ct ?_
        refine TW.nil (KW.pick [0, 1, 5] [(0, _, _), (1, _, _), (5, _, _)] rfl ?_)
        refine KW.round (k + 1) [0, 1, 5] rfl ⟨hbW.step hb1, by omega, ?_⟩ (by omega)
        intro i hi
        by_cases h : i = k
        · subst h
          rw [hb, hc]
          congr 1
          rw [eqV_box] at hs
          exact box_ext (dec_iff.1 (by simpa using hs))
        · exact hsame i (by omega)
    · refine CW.exit (KW.thenX (KW.thenX (KW.blockX (KW.then_ (CW.seq (CW.region ?_))))))
      refine TW.assign rfl rfl rfl ct ?_
      refine TW.nil (KW.pick [0, 1, 4, 5] [(0, _, _), (1, _, _), (4, _, _), (5, _, _)] rfl (KW.then_ ?_))
      refine CW.ret ?_
      have : l = l' := by
        apply List.ext_getElem?
        intro i
        rcases Nat.lt_or_ge i l.length with h | h
        · exact hsame i (by omega)
        · rw [List.getElem?_eq_none h, List.getElem?_eq_none (by omega)]
      refine ret1 Try.results20 rfl (⟨hbW, by rw [dec_pos this]⟩)

theorem rfew_c {F : Nat → Prop} {v : Value} {l : List Box} {w : World} (hl : SL boxT F w v l) :
    Gives Try.prog 17 #[v] w fun u w' => Below w.heap.size w w' ∧ u = .bool (dec (Few l)) := by
  obtain ⟨A, cap, rfl, h1, h2, h3⟩ := id hl
  refine gives_of (vs := [.slice A l.length cap]) [(0, none, _)] Try.func17 rfl Try.ntmps17 rfl rfl ?_
  refine CW.seq (CW.region ?_)
  refine TW.assign rfl rfl rfl ct ?_
  refine TW.nil (KW.pick [0, 2] [(0, _, _), (2, _, _)] rfl (KW.then_ ?_))
  refine CW.seq (CW.seq (CW.region ?_))
  refine TW.move rfl rfl rfl ct ?_
  refine TW.lenSlice rfl rfl Try.underlying22 rfl ct ?_
  refine TW.gtr rfl rfl rfl ct rfl ct ?_
  refine TW.nil (KW.pick [0, 2, 6] [(0, _, _), (2, _, _), (6, _, _)] rfl (KW.then_ ?_))
  refine CW.condP rfl (fun hbig => ?_) (fun hsm => ?_)
  · refine CW.seq (CW.region ?_)
    refine TW.assign rfl rfl rfl ct ?_
    refine TW.nil (KW.pick [0, 2] [(0, _, _), (2, _, _)] rfl (KW.then_ ?_))
    refine CW.ret (KW.thenR ?_)
    refine ret1 Try.results17 rfl (⟨Below.refl _ _, by rw [dec_neg (fun h => by have := h.1; omega)]⟩)
  · refine CW.skip (KW.then_ (CW.seq (CW.seq (CW.region ?_))))
    refine TW.assign rfl rfl rfl ct ?_
    refine TW.nil (KW.pick [0, 2, 3] [(0, _, _), (2, _, _), (3, _, _)] rfl (KW.then_ ?_))
    refine CW.block ?_
    refine CW.loopS (fun k : Nat => [(0, none, .slice A l.length cap), (3, none, .int .i64 (k : Int))]) (fun k W => Below w.heap.size w W ∧ k ≤ l.length ∧ ∀ (i : Nat) (b : Box), i < k → l[i]? = some b → b.label.size ≤ 40) (fun k => l.length - k) 0 [0, 3] ⟨Below.refl _ _, by omega, fun i b hi => by omega⟩ rfl ?_
    rintro k W ⟨hbW, hk, hsame⟩
    refine CW.seq (CW.seq (CW.region ?_))
    refine TW.move rfl rfl rfl ct ?_
    refine TW.move rfl rfl rfl ct ?_
    refine TW.lenSlice rfl rfl Try.underlying22 rfl ct ?_
    refine TW.lss rfl rfl rfl ct rfl ct ?_
    refine TW.nil (KW.pick [0, 3, 10] [(0, _, _), (3, _, _), (10, _, _)] rfl (KW.then_ ?_))
    refine CW.condP rfl (fun hlt => ?_) (fun hge => ?_)
    · obtain ⟨b, hb⟩ : ∃ b, l[k]? = some b := ⟨l[k], List.getElem?_eq_getElem (by omega)⟩
      have hlW := hl.below hbW
      obtain ⟨a, rfl, _, hcell, _⟩ := box_at hlW hb
      refine CW.skip (KW.then_ (CW.seq (CW.block (CW.seq (CW.region ?_)))))
      refine TW.move rfl rfl rfl ct ?_
      refine TW.move rfl rfl rfl ct ?_
      refine TW.indexAddr rfl rfl Try.underlying22 sz28 rfl ct rfl ct (fun _ => by (try dsimp only); omega) ?_
      refine TW.fieldAddr rfl rfl fo28_0 rfl ct ?_
      refine TW.load rfl rfl one9 rfl ct (fun _ => box_cell hlW hb rfl) ?_
      refine TW.lenString rfl rfl Try.underlying9 rfl ct ?_
      refine TW.gtr rfl rfl rfl ct rfl ct ?_
      refine TW.nil (KW.pick [0, 3, 19] [(0, _, _), (3, _, _), (19, _, _)] rfl (KW.then_ ?_))
      refine CW.condP rfl (fun hd => ?_) (fun hs => ?_)
      · refine CW.seq (CW.region ?_)
        refine TW.assign rfl rfl rfl ct ?_
        refine TW.nil (KW.pick [0, 2, 3] [(0, _, _), (2, _, _), (3, _, _)] rfl (KW.then_ ?_))
        refine CW.ret (KW.blockR (KW.thenR (KW.thenR (KW.blockR (KW.thenR ?_)))))
        refine ret1 Try.results17 rfl (⟨hbW, ?_⟩)
        rw [dec_neg]
        intro h
        have := h.2 k b hb
        omega
      · refine CW.skip (KW.blockN (KW.then_ (CW.region ?_)))
        refine TW.move rfl rfl rfl ct ?_
        refine TW.add rfl rfl rfl ct rfl ct (fun _ => by (try dsimp only); omega) ?_
        refine TW.assign rfl rfl rfl ct ?_
        refine TW.nil (KW.pick [0, 3] [(0, _, _), (3, _, _)] rfl ?_)
        refine KW.round (k + 1) [0, 3] rfl ⟨hbW, by omega, ?_⟩ (by omega)
        intro i c hi hc
        by_cases h : i = k
        · subst h
          rw [hb] at hc
          simp only [Option.some.injEq] at hc
          subst hc
          omega
        · exact hsame i c (by omega) hc
    · refine CW.exit (KW.thenX (KW.thenX (KW.blockX (KW.then_ (CW.seq (CW.region ?_))))))
      refine TW.assign rfl rfl rfl ct ?_
      refine TW.nil (KW.pick [0, 2, 3] [(0, _, _), (2, _, _), (3, _, _)] rfl (KW.then_ ?_))
      refine CW.ret ?_
      refine ret1 Try.results17 rfl (⟨hbW, ?_⟩)
      rw [dec_pos]
      exact ⟨by omega, fun i b hb => hsame i b (by have := (List.getElem?_eq_some_iff.1 hb).1; omega) hb⟩
end Go.Proofs.Ytegmhdabedgloaa
