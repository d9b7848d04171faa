import Derived.Test.YtegmhdabedgloaaSpec
import Derived.Test.YtegmhdabedgloaaFacts
namespace Go.Proofs.Ytegmhdabedgloaa
open Go.PF Go.RowKit

noncomputable def sK : Key Try.prog 9 ByteArray := strKey Try.prog 9 Try.underlying9

/-- the labels that have come: the map's entries -/
def labs (l : List Box) (k : Nat) : List (ByteArray × Value) := (l.take k).map fun b => (b.label, .bool true)

theorem mget_labs (l : List Box) (k : Nat) (s : ByteArray) : (mget sK (labs l k) s).getD (.bool false) = .bool (dec (∃ (i : Nat) (b : Box), i < k ∧ l[i]? = some b ∧ b.label.toList = s.toList)) := by
  have key : ∀ m : List Box, (mget sK (m.map fun b => (b.label, Value.bool true)) s).getD (.bool false) = .bool (dec (∃ b ∈ m, b.label.toList = s.toList)) := by
    intro m
    induction m with
    | nil => simp [mget]; exact (dec_neg (by simp))
    | cons b m ih =>
      simp only [List.map_cons, mget]
      by_cases h : s.toList = b.label.toList
      · have : sK.eqb s b.label = true := by simpa [sK, strKey] using h
        rw [this]
        simp only [if_true, Option.getD_some]
        rw [dec_pos ⟨b, by simp, h.symm⟩]
      · have : sK.eqb s b.label = false := by simpa [sK, strKey] using h
        rw [this]
        simp only [Bool.false_eq_true, if_false]
        rw [ih]
        congr 1
        apply dec_congr
        constructor
        · rintro ⟨c, hc, e⟩; exact ⟨c, by simp [hc], e⟩
        · rintro ⟨c, hc, e⟩
          simp at hc
          rcases hc with rfl | hc
          · exact absurd e.symm h
          · exact ⟨c, hc, e⟩
  unfold labs
  rw [key]
  congr 1
  apply dec_congr
  constructor
  · rintro ⟨b, hb, e⟩
    obtain ⟨i, hi, hbi⟩ := List.getElem_of_mem hb
    have hi' : i < k ∧ i < l.length := by simp at hi; omega
    refine ⟨i, b, hi'.1, ?_, e⟩
    rw [List.getElem_take] at hbi
    rw [List.getElem?_eq_getElem hi'.2, hbi]
  · rintro ⟨i, b, hi, hb, e⟩
    have hil : i < l.length := (List.getElem?_eq_some_iff.1 hb).1
    refine ⟨b, ?_, e⟩
    rw [List.mem_iff_getElem?]
    exact ⟨i, by rw [List.getElem?_take_of_lt hi]; exact hb⟩

theorem mput_labs (l : List Box) (k : Nat) (b : Box) (hb : l[k]? = some b) (hn : ¬ ∃ (i : Nat) (c : Box), i < k ∧ l[i]? = some c ∧ c.label.toList = b.label.toList) : mput sK (labs l k) b.label (.bool true) = labs l (k + 1) := by
  have hk : k < l.length := (List.getElem?_eq_some_iff.1 hb).1
  rw [mput_new]
  · unfold labs
    rw [List.take_add_one, hb]
    simp
  · rintro ⟨s, v⟩ hp
    unfold labs at hp
    rw [List.mem_map] at hp
    obtain ⟨c, hc, e⟩ := hp
    simp only [Prod.mk.injEq] at e
    obtain ⟨rfl, _⟩ := e
    rw [List.mem_iff_getElem?] at hc
    obtain ⟨i, hi⟩ := hc
    have hik : i < k := by
      have := (List.getElem?_eq_some_iff.1 hi).1
      simp at this; omega
    rw [List.getElem?_take_of_lt hik] at hi
    have : ¬ b.label.toList = c.label.toList := fun e => hn ⟨i, c, hik, hi, e.symm⟩
    simpa [sK, strKey] using this

set_option maxRecDepth 20000 in
theorem valid_c {F : Nat → Prop} {v : Value} {l : List Box} {w : World} (hl : SL boxT F w v l) :
    Gives Try.prog 28 #[v] w fun u w' => Below w.heap.size w w' ∧ u = .bool (dec (Valid l)) := by
  obtain ⟨A, cap, rfl, h1, h2, h3⟩ := id hl
  refine gives_of (vs := [.slice A l.length cap]) [(0, none, _)] Try.func28 rfl Try.ntmps28 rfl rfl ?_
  refine CW.seq (CW.region ?_)
  refine TW.assign rfl rfl rfl ct ?_
  refine TW.nil (KW.pick [0, 2] [(0, _, _), (2, _, _)] rfl (KW.then_ ?_))
  refine CW.seq (CW.seq (CW.region ?_))
  refine TW.move rfl rfl rfl ct ?_
  refine TW.lenSlice rfl rfl Try.underlying22 rfl ct ?_
  refine TW.gtr rfl rfl rfl ct rfl ct ?_
  refine TW.nil (KW.pick [0, 2, 8] [(0, _, _), (2, _, _), (8, _, _)] rfl (KW.then_ ?_))
  refine CW.condP rfl (fun hbig => ?_) (fun hsm => ?_)
  · refine CW.seq (CW.region ?_)
    refine TW.assign rfl rfl rfl ct ?_
    refine TW.nil (KW.pick [0, 2] [(0, _, _), (2, _, _)] rfl (KW.then_ ?_))
    refine CW.ret (KW.thenR ?_)
    refine ret1 Try.results28 rfl (⟨Below.refl _ _, by rw [dec_neg (fun hv => by have := hv.few; omega)]⟩)
  · refine CW.skip (KW.then_ (CW.seq (CW.region ?_)))
    refine TW.makeMap sK rfl rfl ?_
    rintro mb w1 rfl hs1 hb1 hm1
    refine TW.assign rfl rfl rfl ct ?_
    refine TW.nil (KW.pick [0, 2, 3] [(0, _, _), (2, _, _), (3, _, _)] rfl (KW.then_ ?_))
    refine CW.seq (CW.seq (CW.region ?_))
    refine TW.move rfl rfl rfl ct ?_
    refine TW.lenSlice rfl rfl Try.underlying22 rfl ct ?_
    refine TW.move rfl rfl rfl ct ?_
    refine TW.nil (KW.pick [0, 2, 3, 10, 11, 12] [(0, _, _), (2, _, _), (3, _, _), (10, _, _), (11, _, _), (12, _, _)] rfl (KW.then_ ?_))
    refine CW.block ?_
    refine CW.loopS (fun k : Nat => [(0, none, .slice A l.length cap), (3, none, .map (some w.heap.size)), (10, none, .slice A l.length cap), (11, none, .int .i64 (l.length : Int)), (12, none, .int .i64 (k : Int))])
      (fun k W => k ≤ l.length ∧ Below w.heap.size w W ∧ MapIs sK W w.heap.size (labs l k) ∧ (∀ (i : Nat) (b : Box), i < k → l[i]? = some b → BoxOK l b) ∧ (∀ (i j : Nat) (b c : Box), i < k → j < k → l[i]? = some b → l[j]? = some c → b.label.toList = c.label.toList → i = j))
      (fun k => l.length - k) 0 [0, 3, 10, 11, 12] ⟨by omega, hb1, hm1, fun i b hi => by omega, fun i j b c hi => by omega⟩ rfl ?_
    rintro k W ⟨hk, hbW, hmW, hok, hap⟩
    refine CW.seq (CW.region ?_)
    refine TW.lss rfl rfl rfl ct rfl ct ?_
    refine TW.nil (KW.pick [0, 3, 10, 11, 12, 13] [(0, _, _), (3, _, _), (10, _, _), (11, _, _), (12, _, _), (13, _, _)] rfl (KW.then_ ?_))
    refine CW.seq ?_
    refine CW.condP rfl (fun hlt => ?_) (fun hge => ?_)
    · have hkl : k < l.length := by omega
      obtain ⟨b, hb⟩ : ∃ b, l[k]? = some b := ⟨l[k], List.getElem?_eq_getElem hkl⟩
      have hlW := hl.below hbW
      obtain ⟨ad, rfl, _, hcell, hr1, hr2, hr3, hr4⟩ := box_at hlW hb
      refine CW.skip (KW.then_ (CW.seq (CW.block (CW.seq (CW.region ?_)))))
      refine TW.indexAddr rfl rfl Try.underlying22 sz28 rfl ct rfl ct (fun _ => by (try dsimp only); omega) ?_
      refine TW.loadS _ rfl rfl Try.underlying28 sz28 rfl ct (fun _ => hcell) rfl ?_
      refine TW.newVar rfl zc28 rfl sz28 rfl rfl ?_
      rintro g W1 f1
      refine TW.nil (KW.pick [0, 3, 5, 10, 11, 12] [(0, _, _), (3, _, _), (5, _, _), (10, _, _), (11, _, _), (12, _, _)] rfl (KW.then_ ?_))
      refine CW.seq (CW.seq (CW.region ?_))
      refine TW.fieldAddr rfl rfl fo28_0 rfl ct ?_
      have hm1 := hmW.below f1.below
      refine TW.load rfl rfl one9 rfl ct (fun _ => f1.blk.fld rfl) ?_
      refine TW.lenString rfl rfl Try.underlying9 rfl ct ?_
      refine TW.lss rfl rfl rfl ct rfl ct ?_
      refine TW.move rfl rfl rfl ct ?_
      refine TW.fieldAddr rfl rfl fo28_0 rfl ct ?_
      refine TW.load rfl rfl one9 rfl id (fun _ => f1.blk.fld rfl) ?_
      refine TW.lenString rfl rfl Try.underlying9 rfl id ?_
      refine TW.gtr rfl rfl rfl id rfl ct ?_
      refine TW.pickOr rfl rfl rfl ct rfl pOr0 ?_
      refine TW.move rfl rfl rfl ct ?_
      refine TW.move rfl rfl rfl ct ?_
      refine TW.fieldAddr rfl rfl fo28_0 rfl ct ?_
      refine TW.load rfl rfl one9 rfl id (fun _ => f1.blk.fld rfl) ?_
      refine TW.lookup sK b.label rfl rfl Try.underlying58 ze4 rfl id rfl id hm1 (mget_labs l k b.label) ?_
      refine TW.pickOr rfl rfl rfl ct rfl pOr0 ?_
      refine TW.nil (KW.pick [0, 3, 5, 10, 11, 12, 31] [(0, _, _), (3, _, _), (5, _, _), (10, _, _), (11, _, _), (12, _, _), (31, _, _)] rfl (KW.then_ ?_))
      refine CW.cond rfl (fun hbad => ?_) (fun hgood => ?_)
      · refine CW.seq (CW.region ?_)
        refine TW.assign rfl rfl rfl ct ?_
        refine TW.nil (KW.pick [0, 2, 3, 5, 10, 11, 12] [(0, _, _), (2, _, _), (3, _, _), (5, _, _), (10, _, _), (11, _, _), (12, _, _)] rfl (KW.then_ ?_))
        refine CW.ret (KW.thenR (KW.blockR (KW.thenR (KW.thenR (KW.blockR (KW.thenR ?_))))))
        refine ret1 Try.results28 rfl (⟨hbW.step f1.below, ?_⟩)
        rw [dec_neg]
        intro hv
        have hB := hv.each k b hb
        have := hB.l1
        have := hB.l2
        simp only [Bool.or_eq_true, decide_eq_true_eq, dec_iff] at hbad
        rcases hbad with (h | h) | ⟨i, c, hi, hc, he⟩
        · omega
        · omega
        · have := hv.apart i k c b hc hb he
          omega
      · simp only [Bool.or_eq_false_iff, decide_eq_false_iff_not] at hgood
        obtain ⟨⟨g1, g2⟩, g3⟩ := hgood
        have hnew : ¬ ∃ (i : Nat) (c : Box), i < k ∧ l[i]? = some c ∧ c.label.toList = b.label.toList := fun h => by rw [dec_pos h] at g3; cases g3
        refine CW.skip (KW.then_ (CW.seq (CW.region ?_)))
        refine TW.move rfl rfl rfl ct ?_
        refine TW.fieldAddr rfl rfl fo28_0 rfl ct ?_
        refine TW.load rfl rfl one9 rfl ct (fun _ => f1.blk.fld rfl) ?_
        refine TW.mapUpdate sK b.label rfl Try.underlying58 rfl rfl rfl hm1 ?_
        rintro W2 hs2 hg2 hm2
        rw [mput_labs l k b hb hnew] at hm2
        have hmg : w.heap.size ≠ g := by have := f1.at_; have := hmW.lt; omega
        have hB2 : Blk W2 g 28 (boxCells b) := (hg2.block g f1.blk.lt (by simp; omega)).trans f1.blk
        have hbW2 : Below w.heap.size w W2 := (hbW.step f1.below).grown hg2 (by have := hbW.size; have := f1.size; have := f1.at_; omega) (fun k hk => by cases hk; exact Nat.le_refl _)
        have hlW2 := hl.below hbW2
        clear hlW hm1 hmW
        refine TW.nil (KW.pick [0, 3, 5, 10, 11, 12] [(0, _, _), (3, _, _), (5, _, _), (10, _, _), (11, _, _), (12, _, _)] rfl (KW.then_ ?_))
        refine CW.seq (CW.seq (CW.region ?_))
        refine TW.fieldAddr rfl rfl fo28_1 rfl ct ?_
        refine TW.load rfl rfl one3 rfl ct (fun _ => hB2.fld rfl) ?_
        refine TW.lss rfl rfl rfl ct rfl ct ?_
        refine TW.move rfl rfl rfl ct ?_
        refine TW.fieldAddr rfl rfl fo28_1 rfl ct ?_
        refine TW.load rfl rfl one3 rfl id (fun _ => hB2.fld rfl) ?_
        refine TW.gtr rfl rfl rfl id rfl ct ?_
        refine TW.pickOr rfl rfl rfl ct rfl pOr0 ?_
        refine TW.move rfl rfl rfl ct ?_
        refine TW.fieldAddr rfl rfl fo28_3 rfl ct ?_
        refine TW.load rfl rfl one3 rfl id (fun _ => hB2.fld rfl) ?_
        refine TW.lss rfl rfl rfl id rfl ct ?_
        refine TW.pickOr rfl rfl rfl ct rfl pOr0 ?_
        refine TW.move rfl rfl rfl ct ?_
        refine TW.fieldAddr rfl rfl fo28_3 rfl ct ?_
        refine TW.load rfl rfl one3 rfl id (fun _ => hB2.fld rfl) ?_
        refine TW.geq rfl rfl rfl id rfl ct ?_
        refine TW.pickOr rfl rfl rfl ct rfl pOr0 ?_
        refine TW.nil (KW.pick [0, 3, 5, 10, 11, 12, 52] [(0, _, _), (3, _, _), (5, _, _), (10, _, _), (11, _, _), (12, _, _), (52, _, _)] rfl (KW.then_ ?_))
        refine CW.cond rfl (fun hbad => ?_) (fun hgood => ?_)
        · refine CW.seq (CW.region ?_)
          refine TW.assign rfl rfl rfl ct ?_
          refine TW.nil (KW.pick [0, 2, 3, 5, 10, 11, 12] [(0, _, _), (2, _, _), (3, _, _), (5, _, _), (10, _, _), (11, _, _), (12, _, _)] rfl (KW.then_ ?_))
          refine CW.ret (KW.thenR (KW.blockR (KW.thenR (KW.thenR (KW.blockR (KW.thenR ?_))))))
          refine ret1 Try.results28 rfl (⟨hbW2, ?_⟩)
          rw [dec_neg]
          intro hv
          have hB := hv.each k b hb
          have := hB.k1
          have := hB.k2
          have := hB.p1
          have := hB.p2
          simp only [Bool.or_eq_true, decide_eq_true_eq] at hbad
          omega
        · simp only [Bool.or_eq_false_iff, decide_eq_false_iff_not] at hgood
          refine CW.skip (KW.then_ (CW.seq (CW.seq (CW.region ?_))))
          refine TW.fieldAddr rfl rfl fo28_2 rfl ct ?_
          refine TW.load rfl rfl one3 rfl ct (fun _ => hB2.fld rfl) ?_
          refine TW.lss rfl rfl rfl ct rfl ct ?_
          refine TW.move rfl rfl rfl ct ?_
          refine TW.fieldAddr rfl rfl fo28_2 rfl ct ?_
          refine TW.load rfl rfl one3 rfl id (fun _ => hB2.fld rfl) ?_
          refine TW.move rfl rfl rfl ct ?_
          refine TW.lenSlice rfl rfl Try.underlying22 rfl id ?_
          refine TW.geq rfl rfl rfl id rfl id ?_
          refine TW.pickOr rfl rfl rfl ct rfl pOr0 ?_
          refine TW.move rfl rfl rfl ct ?_
          refine TW.fieldAddr rfl rfl fo28_4 rfl ct ?_
          refine TW.load rfl rfl one4 rfl id (fun _ => hB2.fld rfl) ?_
          refine TW.move rfl rfl rfl id ?_
          refine TW.fieldAddr rfl rfl fo28_1 rfl ct ?_
          refine TW.load rfl rfl one3 rfl id (fun _ => hB2.fld rfl) ?_
          refine TW.eql rfl rfl rfl id rfl ct ?_
          refine TW.pickAnd rfl rfl rfl id rfl pAnd1 ?_
          refine TW.pickOr rfl rfl rfl ct rfl pOr0 ?_
          refine TW.nil (KW.pick [0, 3, 5, 10, 11, 12, 71] [(0, _, _), (3, _, _), (5, _, _), (10, _, _), (11, _, _), (12, _, _), (71, _, _)] rfl (KW.then_ ?_))
          refine CW.cond rfl (fun hbad => ?_) (fun hgood2 => ?_)
          · refine CW.seq (CW.region ?_)
            refine TW.assign rfl rfl rfl ct ?_
            refine TW.nil (KW.pick [0, 2, 3, 5, 10, 11, 12] [(0, _, _), (2, _, _), (3, _, _), (5, _, _), (10, _, _), (11, _, _), (12, _, _)] rfl (KW.then_ ?_))
            refine CW.ret (KW.thenR (KW.blockR (KW.thenR (KW.thenR (KW.blockR (KW.thenR ?_))))))
            refine ret1 Try.results28 rfl (⟨hbW2, ?_⟩)
            rw [dec_neg]
            intro hv
            have hB := hv.each k b hb
            have := hB.q1
            have := hB.q2
            have hcl := hB.cl
            simp only [Bool.or_eq_true, Bool.and_eq_true, decide_eq_true_eq] at hbad
            rcases hbad with (h | h) | h
            · omega
            · omega
            · exact hcl h
          · simp only [Bool.or_eq_false_iff, Bool.and_eq_false_iff, decide_eq_false_iff_not] at hgood2
            obtain ⟨⟨p1, p2⟩, p3⟩ := hgood2
            have hq : 0 ≤ b.parent → l[b.parent.toNat]? = some (l[b.parent.toNat]?.getD b) := fun h => by
              have : b.parent.toNat < l.length := by omega
              rw [List.getElem?_eq_getElem this]; rfl
            generalize l[b.parent.toNat]?.getD b = q at hq
            refine CW.skip (KW.then_ (CW.seq (CW.draw mixed (by kernel_rfl) ?_)))
            refine DW.fieldAddr rfl rfl fo28_2 rfl ct ?_
            refine DW.load rfl rfl one3 rfl ct (fun _ => hB2.fld rfl) ?_
            refine DW.geq rfl rfl rfl ct rfl ct ?_
            refine DW.move rfl rfl rfl ct ?_
            refine DW.move rfl rfl rfl ct ?_
            refine DW.fieldAddr rfl rfl fo28_2 rfl ct ?_
            refine DW.load rfl rfl one3 rfl id (fun _ => hB2.fld rfl) ?_
            refine DW.indexAddr rfl rfl Try.underlying22 sz28 rfl id rfl id (fun hG => ⟨of_decide_eq_true hG, by omega⟩) ?_
            refine DW.fieldAddr rfl rfl fo28_1 rfl id ?_
            refine DW.load rfl rfl one3 rfl id (fun hG => box_cell hlW2 (hq (of_decide_eq_true hG)) rfl) ?_
            refine DW.fieldAddr rfl rfl fo28_1 rfl ct ?_
            refine DW.load rfl rfl one3 rfl id (fun _ => hB2.fld rfl) ?_
            refine DW.leq rfl rfl rfl id rfl id ?_
            refine DW.move rfl rfl rfl id ?_
            refine DW.move rfl rfl rfl ct ?_
            refine DW.fieldAddr rfl rfl fo28_2 rfl ct ?_
            refine DW.load rfl rfl one3 rfl id (fun _ => hB2.fld rfl) ?_
            refine DW.indexAddr rfl rfl Try.underlying22 sz28 rfl id rfl id (fun hG => by simp [Cnd] at hG; omega) ?_
            refine DW.fieldAddr rfl rfl fo28_3 rfl id ?_
            refine DW.load rfl rfl one3 rfl id (fun hG => box_cell hlW2 (hq (by simp [Cnd] at hG; exact hG.1)) rfl) ?_
            refine DW.fieldAddr rfl rfl fo28_3 rfl ct ?_
            refine DW.load rfl rfl one3 rfl id (fun _ => hB2.fld rfl) ?_
            refine DW.neq rfl rfl rfl id rfl id ?_
            refine DW.pickOr rfl rfl rfl id rfl pOr1 ?_
            refine DW.pickAnd rfl rfl rfl ct rfl pAnd0 ?_
            refine DW.nil (DW.fin [0, 3, 5, 10, 11, 12, 96] [(0, _, _), (3, _, _), (5, _, _), (10, _, _), (11, _, _), (12, _, _), (96, _, _)] rfl (fun W3 hb3 => KW.then_ ?_))
            refine CW.cond rfl (fun hbad => ?_) (fun hgood3 => ?_)
            · refine CW.seq (CW.region ?_)
              refine TW.assign rfl rfl rfl ct ?_
              refine TW.nil (KW.pick [0, 2, 3, 5, 10, 11, 12] [(0, _, _), (2, _, _), (3, _, _), (5, _, _), (10, _, _), (11, _, _), (12, _, _)] rfl (KW.then_ ?_))
              refine CW.ret (KW.blockR (KW.thenR (KW.thenR (KW.blockR (KW.thenR ?_)))))
              refine ret1 Try.results28 rfl (⟨hbW2.step hb3, ?_⟩)
              rw [dec_neg]
              intro hv
              have hB := hv.each k b hb
              simp only [Bool.or_eq_true, Bool.and_eq_true, decide_eq_true_eq] at hbad
              obtain ⟨q', hq', h1, h2⟩ := hB.up hbad.1
              rw [hq hbad.1] at hq'
              simp only [Option.some.injEq] at hq'
              subst hq'
              omega
            · simp only [Bool.or_eq_false_iff, Bool.and_eq_false_iff, decide_eq_false_iff_not] at hgood3
              refine CW.skip (KW.blockN (KW.then_ (CW.region ?_)))
              refine TW.add rfl rfl rfl ct rfl ct (fun _ => by (try dsimp only); omega) ?_
              refine TW.move rfl rfl rfl ct ?_
              refine TW.nil (KW.pick [0, 3, 5, 10, 11, 12] [(0, _, _), (3, _, _), (5, _, _), (10, _, _), (11, _, _), (12, _, _)] rfl ?_)
              refine KW.round (k + 1) [0, 3, 10, 11, 12] rfl ⟨by omega, hbW2.step hb3, hm2.below hb3, ?_, ?_⟩ (by omega)
              · intro i c hi hc
                by_cases hik : i = k
                · subst hik
                  rw [hb] at hc
                  simp only [Option.some.injEq] at hc
                  subst hc
                  refine ⟨by omega, by omega, by omega, by omega, by omega, by omega, by omega, by omega, fun h => ?_, fun h => ⟨q, hq h, ?_, ?_⟩⟩
                  · rcases p3 with p3 | p3
                    · rw [h.1] at p3; cases p3
                    · exact p3 h.2
                  · rcases hgood3 with h' | h'
                    · omega
                    · omega
                  · rcases hgood3 with h' | h'
                    · omega
                    · omega
                · exact hok i c (by omega) hc
              · intro i j c c' hi hj hc hc' he
                by_cases hik : i = k
                · subst hik
                  rw [hb] at hc
                  simp only [Option.some.injEq] at hc
                  subst hc
                  by_cases hjk : j = i
                  · exact hjk.symm
                  · exact absurd ⟨j, c', by omega, hc', he.symm⟩ hnew
                · by_cases hjk : j = k
                  · subst hjk
                    rw [hb] at hc'
                    simp only [Option.some.injEq] at hc'
                    subst hc'
                    exact absurd ⟨i, c, by omega, hc, he⟩ hnew
                  · exact hap i j c c' (by omega) (by omega) hc hc' he
    · refine CW.exit (KW.thenX (KW.thenX (KW.blockX (KW.then_ (CW.seq (CW.region ?_))))))
      refine TW.assign rfl rfl rfl ct ?_
      refine TW.nil (KW.pick [0, 2, 3, 10, 11, 12] [(0, _, _), (2, _, _), (3, _, _), (10, _, _), (11, _, _), (12, _, _)] rfl (KW.then_ ?_))
      refine CW.ret ?_
      refine ret1 Try.results28 rfl (⟨hbW, ?_⟩)
      have : k = l.length := by omega
      subst this
      rw [dec_pos]
      refine ⟨by omega, fun i b hb => hok i b (List.getElem?_eq_some_iff.1 hb).1 hb, fun i j b c hb hc he => hap i j b c (List.getElem?_eq_some_iff.1 hb).1 (List.getElem?_eq_some_iff.1 hc).1 hb hc he⟩
end Go.Proofs.Ytegmhdabedgloaa
