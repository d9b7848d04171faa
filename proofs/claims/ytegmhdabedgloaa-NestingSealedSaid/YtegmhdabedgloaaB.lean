import Derived.Test.YtegmhdabedgloaaA
namespace Go.Proofs.Ytegmhdabedgloaa
open Go.PF Go.RowKit

set_option maxRecDepth 20000 in
theorem rvalid_c {F : Nat → Prop} {v : Value} {l : List Box} {w : World} (hl : SL boxT F w v l) :
    Gives Try.prog 29 #[v] w fun u w' => Below w.heap.size w w' ∧ u = .bool (dec (Valid l)) := by
  obtain ⟨A, cap, rfl, h1, h2, h3⟩ := id hl
  refine gives_of (vs := [.slice A l.length cap]) [(0, none, _)] Try.func29 rfl Try.ntmps29 rfl rfl ?_
  refine CW.seq (CW.region ?_)
  refine TW.assign rfl rfl rfl ct ?_
  refine TW.nil (KW.pick [0, 2] [(0, _, _), (2, _, _)] rfl (KW.then_ ?_))
  refine CW.seq (CW.seq (CW.region ?_))
  refine TW.move rfl rfl rfl ct ?_
  refine TW.lenSlice rfl rfl Try.underlying22 rfl ct ?_
  refine TW.gtr rfl rfl rfl ct rfl ct ?_
  refine TW.nil (KW.pick [0, 2, 8] [(0, _, _), (2, _, _), (8, _, _)] rfl (KW.then_ ?_))
  refine CW.condP rfl (fun hbig => ?_) (fun hsm => ?_)
  · refine CW.seq (CW.region ?_)
    refine TW.assign rfl rfl rfl ct ?_
    refine TW.nil (KW.pick [0, 2] [(0, _, _), (2, _, _)] rfl (KW.then_ ?_))
    refine CW.ret (KW.thenR ?_)
    refine ret1 Try.results29 rfl (⟨Below.refl _ _, by rw [dec_neg (fun hv => by have := hv.few; omega)]⟩)
  · refine CW.skip (KW.then_ (CW.seq (CW.seq (CW.region ?_))))
    refine TW.assign rfl rfl rfl ct ?_
    refine TW.nil (KW.pick [0, 2, 3] [(0, _, _), (2, _, _), (3, _, _)] rfl (KW.then_ ?_))
    refine CW.block ?_
    refine CW.loopS (fun k : Nat => [(0, none, .slice A l.length cap), (3, none, .int .i64 (k : Int))])
      (fun k W => k ≤ l.length ∧ Below w.heap.size w W ∧ (∀ (i : Nat) (b : Box), i < k → l[i]? = some b → BoxOK l b) ∧ (∀ (i j : Nat) (b c : Box), i < k → j < k → l[i]? = some b → l[j]? = some c → b.label.toList = c.label.toList → i = j))
      (fun k => l.length - k) 0 [0, 3] ⟨by omega, Below.refl _ _, fun i b hi => by omega, fun i j b c hi => by omega⟩ rfl ?_
    rintro k W ⟨hk, hbW, hok, hap⟩
    refine CW.seq (CW.seq (CW.region ?_))
    refine TW.move rfl rfl rfl ct ?_
    refine TW.move rfl rfl rfl ct ?_
    refine TW.lenSlice rfl rfl Try.underlying22 rfl ct ?_
    refine TW.lss rfl rfl rfl ct rfl ct ?_
    refine TW.nil (KW.pick [0, 3, 12] [(0, _, _), (3, _, _), (12, _, _)] rfl (KW.then_ ?_))
    refine CW.condP rfl (fun hlt => ?_) (fun hge => ?_)
    · have hkl : k < l.length := by omega
      obtain ⟨b, hb⟩ : ∃ b, l[k]? = some b := ⟨l[k], List.getElem?_eq_getElem hkl⟩
      have hlW := hl.below hbW
      obtain ⟨ad, rfl, _, hcell, hr1, hr2, hr3, hr4⟩ := box_at hlW hb
      refine CW.skip (KW.then_ (CW.seq (CW.block (CW.seq (CW.region ?_)))))
      refine TW.move rfl rfl rfl ct ?_
      refine TW.move rfl rfl rfl ct ?_
      refine TW.indexAddr rfl rfl Try.underlying22 sz28 rfl ct rfl ct (fun _ => by (try dsimp only); omega) ?_
      refine TW.loadS _ rfl rfl Try.underlying28 sz28 rfl ct (fun _ => hcell) rfl ?_
      refine TW.newVar rfl zc28 rfl sz28 rfl rfl ?_
      rintro g W1 f1
      refine TW.nil (KW.pick [0, 3, 4] [(0, _, _), (3, _, _), (4, _, _)] rfl (KW.then_ ?_))
      refine CW.seq (CW.seq (CW.region ?_))
      refine TW.fieldAddr rfl rfl fo28_0 rfl ct ?_
      have hbW1 := hbW.step f1.below
      have hlW1 := hl.below hbW1
      have hB := f1.blk
      refine TW.load rfl rfl one9 rfl ct (fun _ => hB.fld rfl) ?_
      refine TW.lenString rfl rfl Try.underlying9 rfl ct ?_
      refine TW.lss rfl rfl rfl ct rfl ct ?_
      refine TW.move rfl rfl rfl ct ?_
      refine TW.fieldAddr rfl rfl fo28_0 rfl ct ?_
      refine TW.load rfl rfl one9 rfl id (fun _ => hB.fld rfl) ?_
      refine TW.lenString rfl rfl Try.underlying9 rfl id ?_
      refine TW.gtr rfl rfl rfl id rfl ct ?_
      refine TW.pickOr rfl rfl rfl ct rfl pOr0 ?_
      refine TW.move rfl rfl rfl ct ?_
      refine TW.fieldAddr rfl rfl fo28_1 rfl ct ?_
      refine TW.load rfl rfl one3 rfl id (fun _ => hB.fld rfl) ?_
      refine TW.lss rfl rfl rfl id rfl ct ?_
      refine TW.pickOr rfl rfl rfl ct rfl pOr0 ?_
      refine TW.move rfl rfl rfl ct ?_
      refine TW.fieldAddr rfl rfl fo28_1 rfl ct ?_
      refine TW.load rfl rfl one3 rfl id (fun _ => hB.fld rfl) ?_
      refine TW.gtr rfl rfl rfl id rfl ct ?_
      refine TW.pickOr rfl rfl rfl ct rfl pOr0 ?_
      refine TW.move rfl rfl rfl ct ?_
      refine TW.fieldAddr rfl rfl fo28_3 rfl ct ?_
      refine TW.load rfl rfl one3 rfl id (fun _ => hB.fld rfl) ?_
      refine TW.lss rfl rfl rfl id rfl ct ?_
      refine TW.pickOr rfl rfl rfl ct rfl pOr0 ?_
      refine TW.move rfl rfl rfl ct ?_
      refine TW.fieldAddr rfl rfl fo28_3 rfl ct ?_
      refine TW.load rfl rfl one3 rfl id (fun _ => hB.fld rfl) ?_
      refine TW.gtr rfl rfl rfl id rfl ct ?_
      refine TW.pickOr rfl rfl rfl ct rfl pOr0 ?_
      refine TW.move rfl rfl rfl ct ?_
      refine TW.fieldAddr rfl rfl fo28_2 rfl ct ?_
      refine TW.load rfl rfl one3 rfl id (fun _ => hB.fld rfl) ?_
      refine TW.lss rfl rfl rfl id rfl ct ?_
      refine TW.pickOr rfl rfl rfl ct rfl pOr0 ?_
      refine TW.move rfl rfl rfl ct ?_
      refine TW.fieldAddr rfl rfl fo28_2 rfl ct ?_
      refine TW.load rfl rfl one3 rfl id (fun _ => hB.fld rfl) ?_
      refine TW.move rfl rfl rfl ct ?_
      refine TW.lenSlice rfl rfl Try.underlying22 rfl id ?_
      refine TW.geq rfl rfl rfl id rfl id ?_
      refine TW.pickOr rfl rfl rfl ct rfl pOr0 ?_
      refine TW.move rfl rfl rfl ct ?_
      refine TW.fieldAddr rfl rfl fo28_4 rfl ct ?_
      refine TW.load rfl rfl one4 rfl id (fun _ => hB.fld rfl) ?_
      refine TW.move rfl rfl rfl id ?_
      refine TW.fieldAddr rfl rfl fo28_1 rfl ct ?_
      refine TW.load rfl rfl one3 rfl id (fun _ => hB.fld rfl) ?_
      refine TW.eql rfl rfl rfl id rfl ct ?_
      refine TW.pickAnd rfl rfl rfl id rfl pAnd1 ?_
      refine TW.pickOr rfl rfl rfl ct rfl pOr0 ?_
      refine TW.nil (KW.pick [0, 3, 4, 69] [(0, _, _), (3, _, _), (4, _, _), (69, _, _)] rfl (KW.then_ ?_))
      refine CW.cond rfl (fun hbad => ?_) (fun hgood => ?_)
      · refine CW.seq (CW.region ?_)
        refine TW.assign rfl rfl rfl ct ?_
        refine TW.nil (KW.pick [0, 2, 3, 4] [(0, _, _), (2, _, _), (3, _, _), (4, _, _)] rfl (KW.then_ ?_))
        refine CW.ret (KW.thenR (KW.blockR (KW.thenR (KW.thenR (KW.blockR (KW.thenR ?_))))))
        refine ret1 Try.results29 rfl (⟨hbW1, ?_⟩)
        rw [dec_neg]
        intro hv
        have hB := hv.each k b hb
        have := hB.l1
        have := hB.l2
        have := hB.k1
        have := hB.k2
        have := hB.p1
        have := hB.p2
        have := hB.q1
        have := hB.q2
        have hcl := hB.cl
        simp only [Bool.or_eq_true, Bool.and_eq_true, decide_eq_true_eq] at hbad
        rcases hbad with hbad | hbad
        · omega
        · exact hcl hbad
      · simp only [Bool.or_eq_false_iff, Bool.and_eq_false_iff, decide_eq_false_iff_not] at hgood
        obtain ⟨hgood, p3⟩ := hgood
        have hq : 0 ≤ b.parent → l[b.parent.toNat]? = some (l[b.parent.toNat]?.getD b) := fun h => by
          have : b.parent.toNat < l.length := by omega
          rw [List.getElem?_eq_getElem this]; rfl
        generalize l[b.parent.toNat]?.getD b = q at hq
        refine CW.skip (KW.then_ (CW.seq (CW.seq (CW.draw mixed (by kernel_rfl) ?_))))
        refine DW.fieldAddr rfl rfl fo28_2 rfl ct ?_
        refine DW.load rfl rfl one3 rfl ct (fun _ => hB.fld rfl) ?_
        refine DW.geq rfl rfl rfl ct rfl ct ?_
        refine DW.move rfl rfl rfl ct ?_
        refine DW.move rfl rfl rfl ct ?_
        refine DW.fieldAddr rfl rfl fo28_2 rfl ct ?_
        refine DW.load rfl rfl one3 rfl id (fun _ => hB.fld rfl) ?_
        refine DW.indexAddr rfl rfl Try.underlying22 sz28 rfl id rfl id (fun hG => ⟨of_decide_eq_true hG, by omega⟩) ?_
        refine DW.fieldAddr rfl rfl fo28_1 rfl id ?_
        refine DW.load rfl rfl one3 rfl id (fun hG => box_cell hlW1 (hq (of_decide_eq_true hG)) rfl) ?_
        refine DW.fieldAddr rfl rfl fo28_1 rfl ct ?_
        refine DW.load rfl rfl one3 rfl id (fun _ => hB.fld rfl) ?_
        refine DW.leq rfl rfl rfl id rfl id ?_
        refine DW.move rfl rfl rfl id ?_
        refine DW.move rfl rfl rfl ct ?_
        refine DW.fieldAddr rfl rfl fo28_2 rfl ct ?_
        refine DW.load rfl rfl one3 rfl id (fun _ => hB.fld rfl) ?_
        refine DW.indexAddr rfl rfl Try.underlying22 sz28 rfl id rfl id (fun hG => by simp [Cnd] at hG; omega) ?_
        refine DW.fieldAddr rfl rfl fo28_3 rfl id ?_
        refine DW.load rfl rfl one3 rfl id (fun hG => box_cell hlW1 (hq (by simp [Cnd] at hG; exact hG.1)) rfl) ?_
        refine DW.fieldAddr rfl rfl fo28_3 rfl ct ?_
        refine DW.load rfl rfl one3 rfl id (fun _ => hB.fld rfl) ?_
        refine DW.neq rfl rfl rfl id rfl id ?_
        refine DW.pickOr rfl rfl rfl id rfl pOr1 ?_
        refine DW.pickAnd rfl rfl rfl ct rfl pAnd0 ?_
        refine DW.nil (DW.fin [0, 3, 4, 94] [(0, _, _), (3, _, _), (4, _, _), (94, _, _)] rfl (fun W2 hb2 => KW.then_ ?_))
        have hbW2 := hbW1.step hb2
        have hlW2 := hl.below hbW2
        have hB2 := hB.next hb2
        refine CW.cond rfl (fun hbad => ?_) (fun hgood3 => ?_)
        · refine CW.seq (CW.region ?_)
          refine TW.assign rfl rfl rfl ct ?_
          refine TW.nil (KW.pick [0, 2, 3, 4] [(0, _, _), (2, _, _), (3, _, _), (4, _, _)] rfl (KW.then_ ?_))
          refine CW.ret (KW.thenR (KW.blockR (KW.thenR (KW.thenR (KW.blockR (KW.thenR ?_))))))
          refine ret1 Try.results29 rfl (⟨hbW2, ?_⟩)
          rw [dec_neg]
          intro hv
          have hB := hv.each k b hb
          simp only [Bool.or_eq_true, Bool.and_eq_true, decide_eq_true_eq] at hbad
          obtain ⟨q', hq', h1, h2⟩ := hB.up hbad.1
          rw [hq hbad.1] at hq'
          simp only [Option.some.injEq] at hq'
          subst hq'
          omega
        · simp only [Bool.or_eq_false_iff, Bool.and_eq_false_iff, decide_eq_false_iff_not] at hgood3
          refine CW.skip (KW.then_ (CW.seq (CW.region ?_)))
          refine TW.assign rfl rfl rfl ct ?_
          refine TW.nil (KW.pick [0, 3, 4, 5] [(0, _, _), (3, _, _), (4, _, _), (5, _, _)] rfl (KW.then_ ?_))
          refine CW.block ?_
          refine CW.loopS (fun j : Nat => [(0, none, .slice (some ad) l.length cap), (3, none, .int .i64 (k : Int)), (4, none, .pointer (some ⟨g, 0, none⟩)), (5, none, .int .i64 (j : Int))])
            (fun j W => j ≤ k ∧ Below W2.heap.size W2 W ∧ ∀ (i : Nat) (c : Box), i < j → l[i]? = some c → ¬ c.label.toList = b.label.toList)
            (fun j => k - j) 0 [0, 3, 4, 5] ⟨by omega, Below.refl _ _, fun i c hi => by omega⟩ rfl ?_
          rintro j W3 ⟨hj, hb3, hne⟩
          refine CW.seq (CW.seq (CW.region ?_))
          refine TW.move rfl rfl rfl ct ?_
          refine TW.move rfl rfl rfl ct ?_
          refine TW.lss rfl rfl rfl ct rfl ct ?_
          refine TW.nil (KW.pick [0, 3, 4, 5, 97] [(0, _, _), (3, _, _), (4, _, _), (5, _, _), (97, _, _)] rfl (KW.then_ ?_))
          have hB3 := hB2.next hb3
          have hlW3 := hlW2.below hb3
          refine CW.condP rfl (fun hjlt => ?_) (fun hjge => ?_)
          · obtain ⟨c, hc⟩ : ∃ c, l[j]? = some c := ⟨l[j], List.getElem?_eq_getElem (by omega)⟩
            refine CW.skip (KW.then_ (CW.seq (CW.block (CW.seq (CW.draw mixed (by kernel_rfl) ?_)))))
            refine DW.move rfl rfl rfl ct ?_
            refine DW.move rfl rfl rfl ct ?_
            refine DW.indexAddr rfl rfl Try.underlying22 sz28 rfl ct rfl ct (fun _ => by (try dsimp only); omega) ?_
            refine DW.fieldAddr rfl rfl fo28_0 rfl ct ?_
            refine DW.load rfl rfl one9 rfl ct (fun _ => box_cell hlW3 hc rfl) ?_
            refine DW.fieldAddr rfl rfl fo28_0 rfl ct ?_
            refine DW.load rfl rfl one9 rfl ct (fun _ => hB3.fld rfl) ?_
            refine DW.eqlS rfl rfl rfl ct rfl ct ?_
            refine DW.nil (DW.fin [0, 3, 4, 5, 107] [(0, _, _), (3, _, _), (4, _, _), (5, _, _), (107, _, _)] rfl (fun W4 hb4 => KW.then_ ?_))
            refine CW.cond rfl (fun heq => ?_) (fun hnq => ?_)
            · refine CW.seq (CW.region ?_)
              refine TW.assign rfl rfl rfl ct ?_
              refine TW.nil (KW.pick [0, 2, 3, 4, 5] [(0, _, _), (2, _, _), (3, _, _), (4, _, _), (5, _, _)] rfl (KW.then_ ?_))
              refine CW.ret (KW.blockR (KW.thenR (KW.thenR (KW.blockR (KW.blockR (KW.thenR (KW.thenR (KW.blockR (KW.thenR ?_)))))))))
              refine ret1 Try.results29 rfl (⟨(hbW2.step hb3).step hb4, ?_⟩)
              rw [dec_neg]
              intro hv
              have := hv.apart j k c b hc hb (by simpa using heq)
              omega
            · refine CW.skip (KW.blockN (KW.then_ (CW.region ?_)))
              refine TW.move rfl rfl rfl ct ?_
              refine TW.add rfl rfl rfl ct rfl ct (fun _ => by (try dsimp only); omega) ?_
              refine TW.assign rfl rfl rfl ct ?_
              refine TW.nil (KW.pick [0, 3, 4, 5] [(0, _, _), (3, _, _), (4, _, _), (5, _, _)] rfl ?_)
              refine KW.round (j + 1) [0, 3, 4, 5] rfl ⟨by omega, hb3.step hb4, ?_⟩ (by omega)
              intro i c' hi hc'
              by_cases hij : i = j
              · subst hij
                rw [hc] at hc'
                simp only [Option.some.injEq] at hc'
                subst hc'
                simpa using hnq
              · exact hne i c' (by omega) hc'
          · refine CW.exit (KW.thenX (KW.thenX (KW.blockX (KW.blockN (KW.then_ (CW.region ?_))))))
            refine TW.move rfl rfl rfl ct ?_
            refine TW.add rfl rfl rfl ct rfl ct (fun _ => by (try dsimp only); omega) ?_
            refine TW.assign rfl rfl rfl ct ?_
            refine TW.nil (KW.pick [0, 3, 4, 5] [(0, _, _), (3, _, _), (4, _, _), (5, _, _)] rfl ?_)
            have hjk : j = k := by omega
            subst hjk
            refine KW.round (j + 1) [0, 3] rfl ⟨by omega, hbW2.step hb3, ?_, ?_⟩ (by omega)
            · intro i c hi hc
              by_cases hik : i = j
              · subst hik
                rw [hb] at hc
                simp only [Option.some.injEq] at hc
                subst hc
                refine ⟨by omega, by omega, by omega, by omega, by omega, by omega, by omega, by omega, fun h => ?_, fun h => ⟨q, hq h, ?_, ?_⟩⟩
                · rcases p3 with p3 | p3
                  · rw [h.1] at p3; cases p3
                  · exact p3 h.2
                · rcases hgood3 with h' | h'
                  · omega
                  · omega
                · rcases hgood3 with h' | h'
                  · omega
                  · omega
              · exact hok i c (by omega) hc
            · intro i i' c c' hi hi' hc hc' he
              by_cases hik : i = j
              · subst hik
                rw [hb] at hc
                simp only [Option.some.injEq] at hc
                subst hc
                by_cases hjk : i' = i
                · exact hjk.symm
                · exact absurd he.symm (hne i' c' (by omega) hc')
              · by_cases hjk : i' = j
                · subst hjk
                  rw [hb] at hc'
                  simp only [Option.some.injEq] at hc'
                  subst hc'
                  exact absurd he (hne i c (by omega) hc)
                · exact hap i i' c c' (by omega) (by omega) hc hc' he
    · refine CW.exit (KW.thenX (KW.thenX (KW.blockX (KW.then_ (CW.seq (CW.region ?_))))))
      refine TW.assign rfl rfl rfl ct ?_
      refine TW.nil (KW.pick [0, 2, 3] [(0, _, _), (2, _, _), (3, _, _)] rfl (KW.then_ ?_))
      refine CW.ret ?_
      refine ret1 Try.results29 rfl (⟨hbW, ?_⟩)
      have : k = l.length := by omega
      subst this
      rw [dec_pos]
      refine ⟨by omega, fun i b hb => hok i b (List.getElem?_eq_some_iff.1 hb).1 hb, fun i j b c hb hc he => hap i j b c (List.getElem?_eq_some_iff.1 hb).1 (List.getElem?_eq_some_iff.1 hc).1 hb hc he⟩

theorem rhas_c {F : Nat → Prop} {v : Value} {l : List Box} {w : World} (i : Int) (hl : SL boxT F w v l) :
    Gives Try.prog 48 #[v, .int .i64 i] w fun u w' => Below w.heap.size w w' ∧ u = .bool (dec (BHas l i)) := by
  obtain ⟨A, cap, rfl, h1, h2, h3⟩ := id hl
  refine gives_of (vs := [.slice A l.length cap, .int .i64 i]) [(0, none, _), (1, none, _)] Try.func48 rfl Try.ntmps48 rfl rfl ?_
  refine CW.seq (CW.region ?_)
  refine TW.assign rfl rfl rfl ct ?_
  refine TW.nil (KW.pick [0, 1, 4] [(0, _, _), (1, _, _), (4, _, _)] rfl (KW.then_ ?_))
  refine CW.seq (CW.region ?_)
  refine TW.move rfl rfl rfl ct ?_
  refine TW.callF (cap := []) rfl rfl en29 rfl ct (Args.cons rfl ct Args.nil) (fun _ => rvalid_c hl) ?_
  rintro w1 hb1
  refine TW.move rfl rfl rfl ct ?_
  refine TW.move rfl rfl rfl ct ?_
  refine TW.geq rfl rfl rfl id rfl ct ?_
  refine TW.pickAnd rfl rfl rfl ct rfl pAnd0 ?_
  refine TW.move rfl rfl rfl ct ?_
  refine TW.move rfl rfl rfl ct ?_
  refine TW.move rfl rfl rfl ct ?_
  refine TW.lenSlice rfl rfl Try.underlying22 rfl id ?_
  refine TW.lss rfl rfl rfl id rfl id ?_
  refine TW.pickAnd rfl rfl rfl ct rfl pAnd0 ?_
  refine TW.assign rfl rfl rfl ct ?_
  refine TW.nil (KW.pick [0, 1, 4] [(0, _, _), (1, _, _), (4, _, _)] rfl (KW.then_ ?_))
  refine CW.ret ?_
  refine ret1 Try.results48 rfl (⟨hb1, ?_⟩)
  congr 1
  unfold BHas
  by_cases hv : Valid l
  · by_cases h : 0 ≤ i ∧ i < l.length
    · rw [dec_pos hv, dec_pos ⟨hv, h⟩]; simp [h]
    · rw [dec_pos hv, dec_neg (fun hh => h hh.2)]; simp; omega
  · rw [dec_neg hv, dec_neg (fun hh => hv hh.1)]; simp

set_option maxRecDepth 20000 in
theorem routside_c {F : Nat → Prop} {v : Value} {l : List Box} {w : World} (i : Nat) (hl : SL boxT F w v l) (hv : Valid l) (hi : i < l.length) :
    Gives Try.prog 59 #[v, .int .i64 (i : Int)] w fun u w' => Below w.heap.size w w' ∧ OwnS w' 3 1 u (outside l i).length ((outside l i).map fun (k : Nat) => Value.int .i64 (k : Int)) ∧ ∀ g, u.ownBlock = some g → w.heap.size ≤ g := by
  obtain ⟨A, cap, rfl, h1, h2, h3⟩ := id hl
  obtain ⟨b, hb⟩ : ∃ b, l[i]? = some b := ⟨l[i], List.getElem?_eq_getElem hi⟩
  obtain ⟨ad, rfl, _, hcell, hr1, hr2, hr3, hr4⟩ := box_at hl hb
  have hok := hv.each i b hb
  refine gives_of (vs := [.slice (some ad) l.length cap, .int .i64 (i : Int)]) [(0, none, _), (1, none, _)] Try.func59 rfl Try.ntmps59 rfl rfl ?_
  refine CW.seq (CW.region ?_)
  refine TW.assign rfl rfl rfl ct ?_
  refine TW.nil (KW.pick [0, 1, 4] [(0, _, _), (1, _, _), (4, _, _)] rfl (KW.then_ ?_))
  refine CW.seq (CW.region ?_)
  refine TW.assign rfl rfl rfl ct ?_
  refine TW.nil (KW.pick [0, 1, 4, 5] [(0, _, _), (1, _, _), (4, _, _), (5, _, _)] rfl (KW.then_ ?_))
  refine CW.seq (CW.seq (CW.region ?_))
  refine TW.move rfl rfl rfl ct ?_
  refine TW.move rfl rfl rfl ct ?_
  refine TW.indexAddr rfl rfl Try.underlying22 sz28 rfl ct rfl ct (fun _ => by (try dsimp only); omega) ?_
  refine TW.fieldAddr rfl rfl fo28_2 rfl ct ?_
  refine TW.load rfl rfl one3 rfl ct (fun _ => box_cell hl hb rfl) ?_
  refine TW.assign rfl rfl rfl ct ?_
  refine TW.nil (KW.pick [0, 1, 4, 5, 6] [(0, _, _), (1, _, _), (4, _, _), (5, _, _), (6, _, _)] rfl (KW.then_ ?_))
  refine CW.block ?_
  -- the ghost: what has come, the box at which we are
  refine CW.loopS (fun x : List Nat × Value × Int => [(0, none, .slice (some ad) l.length cap), (5, none, x.2.1), (6, none, .int .i64 x.2.2)])
    (fun x W => Below w.heap.size w W ∧ OwnS W 3 1 x.2.1 x.1.length (x.1.map fun (k : Nat) => Value.int .i64 (k : Int)) ∧ (∀ g, x.2.1.ownBlock = some g → w.heap.size ≤ g) ∧ -1 ≤ x.2.2 ∧ x.2.2 < l.length ∧
      outside l i = x.1 ++ (if x.2.2 < 0 then [] else x.2.2.toNat :: outside l x.2.2.toNat))
    (fun x => (outside l i).length - x.1.length + if x.2.2 < 0 then 0 else 1) ([], .slice none 0 0, b.parent) [0, 5, 6]
    ⟨Below.refl _ _, OwnS.nil _ _ _, fun g hg => by simp [Value.ownBlock] at hg, hok.q1, hok.q2, by rw [outside_eq hv hb]; simp⟩ rfl ?_
  rintro ⟨xs, u, p⟩ W ⟨hbW, hown, hfr, hp1, hp2, heq⟩
  dsimp only at hown hfr hp1 hp2 heq
  refine CW.seq (CW.seq (CW.region ?_))
  refine TW.move rfl rfl rfl ct ?_
  refine TW.geq rfl rfl rfl ct rfl ct ?_
  refine TW.nil (KW.pick [0, 5, 6, 13] [(0, _, _), (5, _, _), (6, _, _), (13, _, _)] rfl (KW.then_ ?_))
  refine CW.condP rfl (fun hpos => ?_) (fun hneg => ?_)
  · dsimp only at hpos
    obtain ⟨n, rfl⟩ : ∃ n : Nat, p = n := ⟨p.toNat, by omega⟩
    have hlW := hl.below hbW
    have hlen : xs.length < 5 := by
      have h5 : (outside l i).length ≤ 4 := by unfold outside; rw [hb]; exact ups_len _ _ _
      rw [heq, List.length_append] at h5; omega
    refine CW.skip (KW.then_ (CW.seq (CW.block (CW.region ?_))))
    refine TW.move rfl rfl rfl ct ?_
    refine TW.move rfl rfl rfl ct ?_
    refine TW.buildSlice 3 [.tmp 20] rfl rfl rfl eo25 (Args.cons rfl ct Args.nil) rfl rfl rfl rfl rfl ?_
    rintro g1 W1 f1
    refine TW.append [.int .i64 (n : Int)] rfl rfl go25 rfl (hown.below f1.below) rfl rfl (fun j v hj => ?_) (fun v hv => ?_) (by omega) (by omega) ?_
    · refine ⟨⟨g1, 0, none⟩, rfl, f1.blk.fld hj⟩
    · simp at hv; subst hv; rfl
    rintro u2 W2 hown2 hg2 hnew2
    have hbW1 := hbW.step f1.below
    have hbW2 : Below w.heap.size w W2 := grown_below hg2 hbW1 hfr
    have hlW2 := hl.below hbW2
    obtain ⟨q, hq⟩ : ∃ q, l[n]? = some q := ⟨l[n], List.getElem?_eq_getElem (by omega)⟩
    have hokq := hv.each n q hq
    refine TW.assign rfl rfl rfl ct ?_
    refine TW.nil (KW.pick [0, 5, 6] [(0, _, _), (5, _, _), (6, _, _)] rfl (KW.blockN (KW.then_ ?_)))
    refine CW.region ?_
    refine TW.move rfl rfl rfl ct ?_
    refine TW.move rfl rfl rfl ct ?_
    refine TW.indexAddr rfl rfl Try.underlying22 sz28 rfl ct rfl ct (fun _ => by (try dsimp only); omega) ?_
    refine TW.fieldAddr rfl rfl fo28_2 rfl ct ?_
    refine TW.load rfl rfl one3 rfl ct (fun _ => box_cell hlW2 hq rfl) ?_
    refine TW.assign rfl rfl rfl ct ?_
    refine TW.nil (KW.pick [0, 5, 6] [(0, _, _), (5, _, _), (6, _, _)] rfl ?_)
    refine KW.round (xs ++ [n], u2, q.parent) [0, 5, 6] rfl ⟨hbW2, ?_, ?_, hokq.q1, hokq.q2, ?_⟩ ?_
    · have e : (xs ++ [n]).length = xs.length + 1 := by simp
      simp only [e]
      simpa using hown2
    · exact new_own hnew2 hfr (by have := hbW1.size; exact this)
    · dsimp only
      rw [heq, if_neg (by omega), Int.toNat_natCast, outside_eq hv hq]
      simp
    · have e2 := congrArg List.length heq
      rw [if_neg (by omega)] at e2
      simp only [List.length_append, List.length_cons] at e2 ⊢
      rw [if_neg (show ¬ (n : Int) < 0 by omega)]
      simp only [Int.toNat_natCast] at e2
      split <;> simp <;> omega
  · refine CW.exit (KW.thenX (KW.thenX (KW.blockX (KW.then_ (CW.seq (CW.region ?_))))))
    refine TW.move rfl rfl rfl ct ?_
    refine TW.assign rfl rfl rfl ct ?_
    refine TW.nil (KW.pick [0, 4, 5, 6] [(0, _, _), (4, _, _), (5, _, _), (6, _, _)] rfl (KW.then_ ?_))
    refine CW.ret ?_
    refine ret1 Try.results59 rfl (⟨hbW, ?_, hfr⟩)
    dsimp only at hneg
    have : xs = outside l i := by rw [heq, if_pos (by omega)]; simp
    rw [← this]
    exact hown
end Go.Proofs.Ytegmhdabedgloaa
