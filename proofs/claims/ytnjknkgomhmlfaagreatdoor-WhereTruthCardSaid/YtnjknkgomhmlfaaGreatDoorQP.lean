/- Texts of this claim, joined. -/
import Derived.Test.YtnjknkgomhmlfaaGreatDoorQO
set_option linter.unusedSimpArgs false
set_option linter.unusedVariables false
set_option maxRecDepth 100000
set_option maxHeartbeats 4000000
namespace Go.Proofs.YtnjknkgomhmlfaaGreatDoor
open Go.PF Go.RowKit Go.Ord
attribute [local irreducible] TW CW KW DW
theorem oholds1_c {w : World} {dv lv tv : Value} {d : Dist} {l : List Ev} {ts : List Int} {F : Nat → Prop} {g1 g2 g3 : Nat} (hd : SD w dv d) (hl : SE w lv l) (ht : SL intT F w tv ts) (hw : WfE d l) (hB1 : Blk w g1 30 [dv]) (hB2 : Blk w g2 31 [lv]) (hB3 : Blk w g3 48 [tv])
  {i j : Nat} {a b : Ev} {s t : Int} (ha : l[i]? = some a) (hs : ts[i]? = some s) (hb : l[j]? = some b) (htt : ts[j]? = some t) (hws : 0 ≤ s ∧ s ≤ 1000000) (hwt : 0 ≤ t ∧ t ≤ 1000000) :
  Gives Tryz.prog 62 #[.int .i64 (i : Int), .int .i64 (j : Int), .pointer (some ⟨g1, 0, none⟩), .pointer (some ⟨g2, 0, none⟩), .pointer (some ⟨g3, 0, none⟩)] w fun u w' => Below w.heap.size w w' ∧ u = .bool (dec (Aft d (a, s) (b, t))) := by
 obtain ⟨A, cap, rfl, _⟩ := hd.form
 obtain ⟨B, bcap, rfl, _⟩ := hl.form
 obtain ⟨C, ccap, rfl, _⟩ := ht.form
 have hil := (List.getElem?_eq_some_iff.1 ha).1
 have hjl := (List.getElem?_eq_some_iff.1 hb).1
 have hil' := (List.getElem?_eq_some_iff.1 hs).1
 have hjl' := (List.getElem?_eq_some_iff.1 htt).1
 have hea := hw.each a (List.mem_of_getElem? ha)
 have heb := hw.each b (List.mem_of_getElem? hb)
 obtain ⟨ad, rfl⟩ := hl.addr (by omega)
 obtain ⟨td, rfl⟩ := ht.addr (by omega)
 obtain ⟨nv, hca, _, _, _, _⟩ := SE.get hl ha
 obtain ⟨nv', hcb, _, _, _, _⟩ := SE.get hl hb
 obtain ⟨ao, a1, a2, a3⟩ := a
 obtain ⟨bo, b1, b2, b3⟩ := b
 obtain ⟨o, rfl⟩ : ∃ o : Nat, ao = o := ⟨ao.toNat, by have : 0 ≤ ao := hea.o1; omega⟩
 obtain ⟨p, rfl⟩ : ∃ o : Nat, bo = o := ⟨bo.toNat, by have : 0 ≤ bo := heb.o1; omega⟩
 have ho : o < d.length := by have : (o : Int) < d.length := hea.o2; omega
 have hp : p < d.length := by have : (p : Int) < d.length := heb.o2; omega
 obtain ⟨r, hr⟩ : ∃ r, d[o]? = some r := ⟨d[o], List.getElem?_eq_getElem ho⟩
 have hrl := hw.wd.row _ _ hr
 obtain ⟨z, hz⟩ : ∃ z, r[p]? = some z := ⟨r[p]'(by omega), List.getElem?_eq_getElem (by omega)⟩
 have hat : at2 d o p = z := at2_eq hr hz
 have hrng := hw.wd.rng o p ho hp
 rw [hat] at hrng
 obtain ⟨dd, rfl⟩ := hd.addr (by omega)
 obtain ⟨rv, hcell, hrow⟩ := hd.row hr
 obtain ⟨R, rcap, rfl, _⟩ := hrow.form
 obtain ⟨rd, rfl⟩ := hrow.addr (by omega)
 refine gv Tryz.func62 Tryz.ntmps62 ?_
 refine rnT ?_
 refine CW.pk [0, 1, 2, 3, 4, 7] rfl ?_
 refine CW.draw mixed (by kernel_rfl) ?_
 refine DW.ld rfl (hB1.cell 0) ?_
 refine DW.ld rfl (hB2.cell 0) ?_
 refine rnD ?_
 refine DW.ld rfl (hca 0 _ rfl) ?_
 refine rnD ?_
 refine DW.ld rfl (hcell) ?_
 refine DW.ld rfl (hB2.cell 0) ?_
 refine rnD ?_
 refine DW.ld rfl (hcb 0 _ rfl) ?_
 refine rnD ?_
 refine DW.ld rfl (hrow.getI hz) ?_
 refine rnD ?_
 refine DW.fi [0, 1, 2, 3, 4, 7, 8] rfl fun w1 c1 => ?_
 refine rnT ?_
 refine CW.draw mixed (by kernel_rfl) ?_
 refine rnD ?_
 have hB31 := hB3.next c1
 have ht1 := ht.below c1
 refine DW.ld rfl (hB31.cell 0) ?_
 refine rnD ?_
 refine DW.ld rfl (ht1.getI htt) ?_
 refine DW.ld rfl (hB31.cell 0) ?_
 refine rnD ?_
 refine DW.ld rfl (ht1.getI hs) ?_
 refine DW.sub rfl rfl rfl id rfl id (fun _ => by omega) ?_
 refine rnD ?_
 refine DW.fi [0, 1, 2, 3, 4, 7, 8] rfl fun w2 c2 => ?_
 refine rnT ?_
 refine ret1 Tryz.results62 rfl (⟨c1.step c2, ?_⟩)
 congr 1
 rw [dec_congr aft_iff]
 show _ = dec (AftO d o s p t)
 unfold AftO
 rw [hat, dec_eq_decide]
 by_cases h1 : z ≥ 0
 ·by_cases h2 : t - s ≥ z
  ·have h3 : z ≠ -1 := by omega
   simp [h1, h2, h3]
  ·simp [h1, h2]
 ·have h3 : z = -1 := by omega
  simp [h1, h3]
theorem oholds_c {w : World} {dv lv tv : Value} {d : Dist} {l : List Ev} {ts : List Int} {F : Nat → Prop} (hd : SD w dv d) (hl : SE w lv l) (ht : SL intT F w tv ts) :
  Gives Tryz.prog 29 #[dv, lv, .slice none 0 0, tv] w fun u w' => Below w.heap.size w w' ∧ u = .bool (dec (HoldsI d l ts)) := by
 obtain ⟨A, cap, rfl, _⟩ := hd.form
 obtain ⟨B, bcap, rfl, _⟩ := hl.form
 obtain ⟨C, ccap, rfl, _⟩ := ht.form
 have htmax := ht.len.2.2
 have hlmax := hl.len.2.2
 refine gv Tryz.func29 Tryz.ntmps29 ?_
 refine rnT ?_
 refine TW.box rfl rfl rfl rfl ?_
 rintro g1 w1 f1
 refine TW.box rfl rfl rfl rfl ?_
 rintro g2 w2 f2
 refine TW.box rfl rfl rfl rfl ?_
 rintro g3 w3 f3
 refine rnT ?_
 refine TW.pk [0, 1, 2, 3, 4, 5, 7, 8] rfl ?_
 have q2 := f1.below.step f2.below
 have q3 := q2.step f3.below
 have hB1 := (f1.blk.next f2.below).next f3.below
 have hB2 := f2.blk.next f3.below
 have hB3 := f3.blk
 have hd3 := sd_step hd q3
 have hl3 := se_step hl q3
 have ht3 := ht.below q3
 refine TW.ld rfl (hB1.cell 0) ?_
 refine TW.ld rfl (hB2.cell 0) ?_
 refine rnT ?_
 refine TW.cl en47 rfl (owell_c hd3 hl3) ?_
 rintro y w4 ⟨c4, rfl⟩
 have q4 := q3.step c4
 have hB14 := hB1.next c4
 have hB24 := hB2.next c4
 have hB34 := hB3.next c4
 refine rnT ?_
 refine TW.ld rfl (hB34.cell 0) ?_
 refine rnT ?_
 refine TW.ld rfl (hB24.cell 0) ?_
 refine rnT ?_
 refine CW.pk [0, 1, 2, 3, 4, 5, 7, 8, 30] rfl ?_
 refine CW.cond rfl (fun hbad => ?_) (fun hgood => ?_)
 ·refine rnT ?_
  refine ret1 Tryz.results29 rfl (⟨q4, ?_⟩)
  rw [dec_neg]
  intro h
  simp [dec_pos h.wf] at hbad
  have := h.len
  omega
 have hwf : WfE d l := dec_iff.1 (by cases hq : dec (WfE d l) <;> simp_all)
 have hlen : ts.length = l.length := by
  simp [dec_pos hwf] at hgood
  omega
 have hl16 := hwf.few
 have hd4 := sd_step hd3 c4
 have hl4 := se_step hl3 c4
 have ht4 := ht3.below c4
 refine rnT ?_
 refine TW.ld rfl (hB24.cell 0) ?_
 refine rnT ?_
 refine CW.pk [0, 1, 2, 3, 4, 5, 7, 8, 31, 32, 33] rfl ?_
 refine CW.loopS (fun k : Nat => [(2, none, .slice none 0 0), (4, none, .pointer (some ⟨g1, 0, none⟩)), (5, none, .pointer (some ⟨g2, 0, none⟩)), (7, none, .pointer (some ⟨g3, 0, none⟩)), (31, none, .slice B l.length bcap), (32, none, .int .i64 (l.length : Int)), (33, none, .int .i64 (k : Int))])
  (fun k W => k ≤ l.length ∧ Below w4.heap.size w4 W ∧ ∀ (i : Nat) e t, i < k → l[i]? = some e → ts[i]? = some t → Win e t) (fun k => l.length - k) 0 [2, 4, 5, 7, 31, 32, 33] ⟨by omega, Below.refl _ _, fun i e t hi => by omega⟩ rfl ?_
 rintro k W ⟨hk, hB, hwin⟩
 refine rnT ?_
 refine CW.pk [2, 4, 5, 7, 31, 32, 33, 34] rfl ?_
 refine CW.condP rfl (fun hlt => ?_) (fun hge => ?_)
 ·obtain ⟨e, he, hem⟩ := getx (l := l) (k := k) (by omega)
  obtain ⟨t, htt, _⟩ := getx (l := ts) (k := k) (by omega)
  have hlW := se_step hl4 hB
  have htW := ht4.below hB
  obtain ⟨ad, rfl⟩ := hlW.addr (by omega)
  obtain ⟨td, rfl⟩ := htW.addr (by omega)
  obtain ⟨nv, hcells, i1, i2, i3, hneeds⟩ := SE.get hlW he
  obtain ⟨N, ncap, rfl, _⟩ := hneeds.form
  have hBW := hB34.next hB
  refine rnT ?_
  refine TW.loadS _ rfl rfl Tryz.underlying50 sz50 rfl ct (fun _ => hcells) rfl ?_
  refine TW.alloc rfl rfl zc50 ?_
  rintro g5 w5 f5
  refine rnT ?_
  refine TW.storeBlkF rfl rfl rfl f5.blk sz50 rfl rfl rfl ?_
  rintro w6 hB6 hbut6 hsz6
  refine rnT ?_
  refine CW.pk [2, 4, 5, 7, 9, 10, 31, 32, 33] rfl ?_
  refine CW.draw mixed (by kernel_rfl) ?_
  have ha5 := f5.at_
  have hs5 := f5.size
  have hW6 : Below W.heap.size W w6 := f5.below.grown hbut6 f5.below.size (fun q hq => by cases hq; omega)
  have hBW6 := hBW.next hW6
  have htW6 := htW.below hW6
  refine DW.ld rfl (hBW6.cell 0) ?_
  refine rnD ?_
  refine DW.ld rfl (htW6.getI htt) ?_
  refine rnD ?_
  refine DW.ld rfl (hB6.fld rfl) ?_
  refine DW.maxI rfl rfl rfl ct rfl ct ?_
  refine rnD ?_
  refine DW.ld rfl (hBW6.cell 0) ?_
  refine rnD ?_
  refine DW.ld rfl (htW6.getI htt) ?_
  refine rnD ?_
  refine DW.ld rfl (hB6.fld rfl) ?_
  refine DW.minI rfl rfl rfl id rfl ct ?_
  refine rnD ?_
  refine DW.fi [2, 4, 5, 7, 9, 10, 31, 32, 33, 55] rfl fun w7 b7 => ?_
  refine KW.then_ ?_
  have hB7 := hB.step (hW6.step b7)
  refine CW.cond rfl (fun hbad2 => ?_) (fun hgood2 => ?_)
  ·refine rnT ?_
   refine ret1 Tryz.results29 rfl (⟨q4.step hB7, ?_⟩)
   rw [dec_neg]
   intro h
   obtain ⟨q1, q2, q3, q4⟩ := h.win k e t he htt
   simp at hbad2
   omega
  ·refine rnT ?_
   refine KW.round (k + 1) [2, 4, 5, 7, 31, 32, 33] rfl ⟨by omega, hB7, fun i e' t' hi he' ht' => ?_⟩ (by omega)
   by_cases hik : i < k
   ·exact hwin i e' t' hik he' ht'
   ·have : i = k := by omega
    subst this
    rw [he] at he'
    rw [htt] at ht'
    cases he'
    cases ht'
    simp at hgood2
    unfold Win
    omega
 have hwin' : ∀ (i : Nat) e t, l[i]? = some e → ts[i]? = some t → Win e t := fun i e t h1 h2 => hwin i e t (by have := (List.getElem?_eq_some_iff.1 h1).1; omega) h1 h2
 have hB2W := hB24.next hB
 refine rnT ?_
 refine TW.makeFunc rfl rfl (Args.cons rfl ct (Args.cons rfl ct (Args.cons rfl ct Args.nil))) ?_
 refine rnT ?_
 refine TW.pk [2, 4, 5, 7, 11, 31, 32, 33] rfl ?_
 refine TW.ld rfl (hB2W.cell 0) ?_
 refine rnT ?_
 refine CW.pk [2, 4, 5, 7, 11, 31, 32, 33, 59, 60] rfl ?_
 refine CW.loopS (fun k : Nat => [(2, none, .slice none 0 0), (11, none, .func (.func 62) #[] #[.pointer (some ⟨g1, 0, none⟩), .pointer (some ⟨g2, 0, none⟩), .pointer (some ⟨g3, 0, none⟩)]), (59, none, .int .i64 (l.length : Int)), (60, none, .int .i64 (k : Int))])
  (fun k W => k ≤ l.length ∧ Below w4.heap.size w4 W ∧ ∀ j i, j < i → i < k → Two d l ts j i) (fun k => l.length - k) 0 [2, 11, 59, 60] ⟨by omega, hB, fun j i _ hi => by omega⟩ rfl ?_
 rintro i W2 ⟨hi, hB2', htwo⟩
 refine rnT ?_
 refine CW.pk [2, 11, 59, 60, 61] rfl ?_
 refine CW.condP rfl (fun hlt2 => ?_) (fun hge2 => ?_)
 ·refine rnT ?_
  refine CW.pk [2, 11, 12, 59, 60, 63, 64] rfl ?_
  refine CW.loopS (fun k : Nat => [(2, none, .slice none 0 0), (11, none, .func (.func 62) #[] #[.pointer (some ⟨g1, 0, none⟩), .pointer (some ⟨g2, 0, none⟩), .pointer (some ⟨g3, 0, none⟩)]), (12, none, .int .i64 (i : Int)), (59, none, .int .i64 (l.length : Int)), (60, none, .int .i64 (i : Int)), (63, none, .int .i64 (i : Int)), (64, none, .int .i64 (k : Int))])
   (fun k W => k ≤ i ∧ Below w4.heap.size w4 W ∧ ∀ j, j < k → Two d l ts j i) (fun k => i - k) 0 [2, 11, 12, 59, 60, 63, 64] ⟨by omega, hB2', fun j hj => by omega⟩ rfl ?_
  rintro k W3 ⟨hk3, hB3', htw⟩
  refine rnT ?_
  refine CW.pk [2, 11, 12, 59, 60, 63, 64, 65] rfl ?_
  refine CW.condP rfl (fun hlt3 => ?_) (fun hge3 => ?_)
  ·obtain ⟨e, he, hem⟩ := getx (l := l) (k := i) (by omega)
   obtain ⟨f, hf, hfm⟩ := getx (l := l) (k := k) (by omega)
   obtain ⟨t, htt, _⟩ := getx (l := ts) (k := i) (by omega)
   obtain ⟨s, hss, _⟩ := getx (l := ts) (k := k) (by omega)
   have hwe := hwin' i e t he htt
   have hwf' := hwin' k f s hf hss
   have hte : 0 ≤ t ∧ t ≤ 1000000 := ⟨hwe.1, hwe.2.1⟩
   have htf : 0 ≤ s ∧ s ≤ 1000000 := ⟨hwf'.1, hwf'.2.1⟩
   refine rnT ?_
   refine TW.call0 rfl rfl en62 rfl (Args.cons rfl ct (Args.cons rfl ct Args.nil)) (oholds1_c (sd_step hd4 hB3') (se_step hl4 hB3') (ht4.below hB3') hwf (hB14.next hB3') (hB24.next hB3') (hB34.next hB3') hf hss he htt htf hte) ?_
   rintro y w5 ⟨c5, rfl⟩
   have hB5 := hB3'.step c5
   refine rnT ?_
   refine TW.callF rfl rfl en62 rfl id (Args.cons rfl id (Args.cons rfl id Args.nil)) (fun _ => oholds1_c (sd_step hd4 hB5) (se_step hl4 hB5) (ht4.below hB5) hwf (hB14.next hB5) (hB24.next hB5) (hB34.next hB5) he htt hf hss hte htf) ?_
   rintro w6 c6
   refine rnT ?_
   refine CW.pk [2, 11, 12, 13, 59, 60, 63, 64, 78] rfl ?_
   have hB6 := hB5.step c6
   refine CW.cond rfl (fun hbad3 => ?_) (fun hgood3 => ?_)
   ·refine rnT ?_
    refine ret1 Tryz.results29 rfl (⟨q4.step hB6, ?_⟩)
    rw [dec_neg]
    intro h
    have := h.two k i (by omega) _ _ _ _ hf hss he htt
    rcases this with q | q
    ·simp [dec_pos q] at hbad3
    ·simp [dec_pos q] at hbad3
   ·refine rnT ?_
    refine KW.round (k + 1) [2, 11, 12, 59, 60, 63, 64] rfl ⟨by omega, hB6, fun j hj => ?_⟩ (by omega)
    by_cases hjk : j < k
    ·exact htw j hjk
    ·have : j = k := by omega
     subst this
     intro a' s' b' t' q1 q2 q3 q4
     rw [hf] at q1; rw [hss] at q2; rw [he] at q3; rw [htt] at q4
     cases q1; cases q2; cases q3; cases q4
     by_cases h1 : Aft d (f, s) (e, t)
     ·exact .inl h1
     ·by_cases h2 : Aft d (e, t) (f, s)
      ·exact .inr h2
      ·rw [dec_neg h1, dec_neg h2] at hgood3
       simp at hgood3
  ·refine rnT ?_
   refine KW.round (i + 1) [2, 11, 59, 60] rfl ⟨by omega, hB3', fun j i' hj hi' => ?_⟩ (by omega)
   by_cases hii : i' < i
   ·exact htwo j i' hj hii
   ·have : i' = i := by omega
    subst this
    exact htw j (by omega)
 have hall : HoldsI d l ts := ⟨hwf, hlen, hwin', fun j i' hj => by
  by_cases hii : i' < ts.length
  ·exact htwo j i' hj (by omega)
  ·intro a s b t _ _ _ h4
   rw [List.getElem?_eq_none (by omega)] at h4
   cases h4⟩
 refine rnT ?_
 refine CW.pk [2, 11, 59, 60, 81, 82, 83] rfl ?_
 refine CW.loopS (fun k : Nat => [(2, none, .slice none 0 0), (81, none, .slice none 0 0), (82, none, .int .i64 0), (83, none, .int .i64 (k : Int))])
  (fun k W => k = 0 ∧ Below w4.heap.size w4 W) (fun k => k) 0 [2, 81, 82, 83] ⟨rfl, hB2'⟩ rfl ?_
 rintro k W5 ⟨rfl, hB5⟩
 refine rnT ?_
 refine CW.pk [2, 81, 82, 83, 84] rfl ?_
 refine CW.condP rfl (fun hlt5 => ?_) (fun hge5 => ?_)
 ·exact absurd hlt5 (by decide)
 refine rnT ?_
 refine ret1 Tryz.results29 rfl (⟨q4.step hB5, by rw [dec_pos hall]⟩)
end Go.Proofs.YtnjknkgomhmlfaaGreatDoor
namespace Go.Proofs.YtnjknkgomhmlfaaGreatDoor
open Go.PF Go.RowKit Go.Ord
variable {W W' : World} {b : Nat} {lv : Value} {rs : List (Value × List Int)}
structure Tab (W : World) (b : Nat) (lv : Value) (rs : List (Value × List Int)) : Prop where
 own : OwnS W 48 1 lv rs.length (rs.map (·.1))
 lb : ∀ g, lv.ownBlock = some g → b ≤ g
 row : ∀ p ∈ rs, OwnS W 3 1 p.1 p.2.length (p.2.map (Value.int .i64)) ∧ (∀ x ∈ p.2, I64 x) ∧ ∀ g, p.1.ownBlock = some g → b ≤ g ∧ lv.ownBlock ≠ some g
 dis : rs.Pairwise fun p q => ∀ g, p.1.ownBlock = some g → q.1.ownBlock ≠ some g
theorem Tab.step (h : Tab W b lv rs) (hb : Below W.heap.size W W') : Tab W' b lv rs :=
 ⟨h.own.below hb, h.lb, fun p hp => ⟨(h.row p hp).1.below hb, (h.row p hp).2⟩, h.dis⟩
theorem Tab.sdF (h : Tab W b lv rs) (hs : rs.length ≤ 1000) (hr : ∀ p ∈ rs, p.2.length ≤ 1000) : SL (sliceT intT) (fun k => b ≤ k ∧ k < W.heap.size) W lv (rs.map (·.2)) := by
 have key : SL (sliceT intT) (fun k => b ≤ k ∧ k < W.heap.size) W lv ((rs.map fun p => ([p.1], p.2)).map (·.2)) := by
  refine OwnS.toSLp (T := sliceT intT) (e := 48) (n := rs.length) (rs.map fun p => ([p.1], p.2)) (fun q hq => ?_) (by show 0 < 1; decide) ?_ (by simp) (fun g hg => (⟨h.lb g hg, h.own.lt hg⟩ : b ≤ g ∧ g < W.heap.size)) (by simp; omega)
  ·obtain ⟨p, hp, rfl⟩ := List.mem_map.1 hq
   obtain ⟨h1, h2, h3⟩ := h.row p hp
   exact ⟨p.1, rfl, OwnS.toInts h1 h2 (fun g hg => (⟨(h3 g hg).1, h1.lt hg⟩ : b ≤ g ∧ g < W.heap.size)) (by have := hr p hp; show p.2.length ≤ _; omega)⟩
  ·have e : (rs.map fun p => ([p.1], p.2)).flatMap (·.1) = rs.map (·.1) := by
    clear h hs hr
    induction rs with
    | nil => rfl
    | cons p rs ih => simp only [List.map_cons, List.flatMap_cons, ih]; rfl
   rw [e]
   exact h.own
 rwa [List.map_map] at key
theorem Tab.sd (h : Tab W b lv rs) (hs : rs.length ≤ 1000) (hr : ∀ p ∈ rs, p.2.length ≤ 1000) : SD W lv (rs.map (·.2)) := (h.sdF hs hr).wider fun _ hk => hk.2
theorem Tab.app {lv' rv : Value} {r : List Int} (h : Tab W b lv rs) (hO : OwnS W' 48 1 lv' (rs.length + 1) (rs.map (·.1) ++ [rv])) (hg : W.grownBy W' lv.ownBlock) (hn : lv'.ownBlock = lv.ownBlock ∨ lv'.ownBlock = some W.heap.size) (hb : b ≤ W.heap.size)
 (hr : OwnS W 3 1 rv r.length (r.map (Value.int .i64))) (hI : ∀ x ∈ r, I64 x) (hrb : ∀ g, rv.ownBlock = some g → b ≤ g ∧ lv.ownBlock ≠ some g) (hd : ∀ p ∈ rs, ∀ g, p.1.ownBlock = some g → rv.ownBlock ≠ some g) : Tab W' b lv' (rs ++ [(rv, r)]) := by
 have out : ∀ (v : Value) (n : Nat) (xs : List Value), OwnS W 3 1 v n xs → (∀ g, v.ownBlock = some g → lv.ownBlock ≠ some g) → OwnS W' 3 1 v n xs ∧ ∀ g, v.ownBlock = some g → lv'.ownBlock ≠ some g := by
  intro v n xs ho hne
  refine ⟨ho.kept fun g hg' => hg.block g (ho.lt hg') (fun e => hne g hg' e.symm), fun g hg' e => ?_⟩
  rcases hn with h' | h'
  ·exact hne g hg' (by rw [← h']; exact e)
  ·rw [h'] at e; cases e; exact absurd (ho.lt hg') (Nat.lt_irrefl _)
 refine ⟨by simpa using hO, fun g hg' => ?_, fun p hp => ?_, ?_⟩
 ·rcases hn with h' | h'
  ·exact h.lb g (by rw [← h']; exact hg')
  ·rw [h'] at hg'; cases hg'; exact hb
 ·rcases List.mem_append.1 hp with hp | hp
  ·obtain ⟨h1, h2, h3⟩ := h.row p hp
   obtain ⟨h4, h5⟩ := out _ _ _ h1 (fun g hg' => (h3 g hg').2)
   exact ⟨h4, h2, fun g hg' => ⟨(h3 g hg').1, h5 g hg'⟩⟩
  ·rw [List.mem_singleton] at hp
   subst hp
   obtain ⟨h4, h5⟩ := out _ _ _ hr (fun g hg' => (hrb g hg').2)
   exact ⟨h4, hI, fun g hg' => ⟨(hrb g hg').1, h5 g hg'⟩⟩
 ·refine List.pairwise_append.2 ⟨h.dis, List.pairwise_singleton _ _, fun p hp q hq => ?_⟩
  rw [List.mem_singleton] at hq
  subst hq
  exact hd p hp
theorem Tab.set {W W' : World} {b i : Nat} {lv rv : Value} {rs : List (Value × List Int)} {r r' : List Int} {g : Nat} (h : Tab W b lv rs) (hi : rs[i]? = some (rv, r)) (hrv : rv.ownBlock = some g) (hb : But g W W') (hO : OwnS W' 3 1 rv r'.length (r'.map (Value.int .i64))) (hI : ∀ x ∈ r', I64 x) : Tab W' b lv (rs.set i (rv, r')) := by
 have hil : i < rs.length := (List.getElem?_eq_some_iff.1 hi).1
 have hie : rs[i] = (rv, r) := (List.getElem?_eq_some_iff.1 hi).2
 have hm := h.row (rv, r) (List.mem_of_getElem? hi)
 have hmap : (rs.set i (rv, r')).map (·.1) = rs.map (·.1) := by
  rw [List.map_set]
  apply List.ext_getElem?
  intro j
  rw [List.getElem?_set]
  split
  ·rename_i e
   subst e
   simp [hil, hie]
  ·rfl
 have hkeep : ∀ k, k ≠ g → k < W.heap.size → W'.heap[k]? = W.heap[k]? := fun k hk hlt => hb.block k hlt (fun e => hk (by cases e; rfl))
 refine ⟨by rw [hmap, List.length_set]; exact h.own.kept fun k hk => hkeep k (fun e => (hm.2.2 g hrv).2 (by rw [← e]; exact hk)) (h.own.lt hk), h.lb, fun p hp => ?_, ?_⟩
 ·obtain ⟨j, hj⟩ := List.mem_iff_getElem?.1 hp
  rw [List.getElem?_set] at hj
  by_cases hne : i = j
  ·subst hne
   simp [hil] at hj
   subst hj
   exact ⟨hO, hI, hm.2.2⟩
  ·rw [if_neg hne] at hj
   have hpm := h.row p (List.mem_of_getElem? hj)
   refine ⟨hpm.1.kept fun k hk => hkeep k (fun e => ?_) (hpm.1.lt hk), hpm.2⟩
   subst e
   obtain ⟨hjl, hje⟩ := List.getElem?_eq_some_iff.1 hj
   rcases Nat.lt_or_gt_of_ne hne with hlt | hlt
   ·have := List.pairwise_iff_getElem.1 h.dis i j hil hjl hlt
    rw [hie, hje] at this
    exact this k hrv hk
   ·have := List.pairwise_iff_getElem.1 h.dis j i hjl hil hlt
    rw [hie, hje] at this
    exact this k hk hrv
 ·have h1 : ((rs.set i (rv, r')).map (·.1)).Pairwise fun p q => ∀ g, p.ownBlock = some g → q.ownBlock ≠ some g := by
   rw [hmap, List.pairwise_map]
   exact h.dis
  rwa [List.pairwise_map] at h1
theorem Tab.nil {W : World} {b g : Nat} (hB : Blk W g 48 []) (hg : b ≤ g) : Tab W b (.slice (some ⟨g, 0, none⟩) 0 0) [] :=
 ⟨OwnS.of_blk hB rfl (by omega), (fun q hq => by simp [Value.ownBlock] at hq; omega), (fun p hp => by cases hp), List.Pairwise.nil⟩
theorem Tab.but {g : Nat} (h : Tab W b lv rs) (hb : But g W W') (h1 : lv.ownBlock ≠ some g) (h2 : ∀ p ∈ rs, p.1.ownBlock ≠ some g) : Tab W' b lv rs :=
 ⟨h.own.kept fun k hk => hb.block k (h.own.lt hk) (fun e => h1 (by rw [hk, e])), h.lb, fun p hp => ⟨(h.row p hp).1.kept fun k hk => hb.block k ((h.row p hp).1.lt hk) (fun e => h2 p hp (by rw [hk, e])), (h.row p hp).2⟩, h.dis⟩
theorem Tab.len (h : Tab W b lv rs) : (rs.map (·.1)).length = rs.length := List.length_map _
theorem Tab.put {i tg : Nat} {rv : Value} {r : List Int} (h : Tab W b lv rs) (hi : i < rs.length) (hlv : lv.ownBlock = some tg) (hb : But tg W W') (hO : OwnS W' 48 1 lv rs.length ((rs.map (·.1)).set i rv)) (hr : OwnS W' 3 1 rv r.length (r.map (Value.int .i64))) (hI : ∀ x ∈ r, I64 x)
 (hrb : ∀ g, rv.ownBlock = some g → b ≤ g ∧ lv.ownBlock ≠ some g) (hd : ∀ p ∈ rs, ∀ g, p.1.ownBlock = some g → rv.ownBlock ≠ some g) : Tab W' b lv (rs.set i (rv, r)) := by
 refine ⟨by rw [List.map_set, List.length_set]; exact hO, h.lb, fun p hp => ?_, ?_⟩
 ·rcases List.mem_or_eq_of_mem_set hp with hp | hp
  ·obtain ⟨h1, h2, h3⟩ := h.row p hp
   exact ⟨h1.kept fun k hk => hb.block k (h1.lt hk) (fun e => (h3 k hk).2 (by cases e; exact hlv)), h2, h3⟩
  ·subst hp
   exact ⟨hr, hI, hrb⟩
 ·rw [List.pairwise_iff_getElem]
  intro x y hx hy hxy
  have hx' : x < rs.length := by simpa using hx
  have hy' : y < rs.length := by simpa using hy
  rw [List.getElem_set, List.getElem_set]
  split
  ·rw [if_neg (by omega)]
   intro g hg e
   exact hd _ (List.getElem_mem hy') g e hg
  ·split
   ·intro g hg
    exact hd _ (List.getElem_mem hx') g hg
   ·exact List.pairwise_iff_getElem.1 h.dis x y hx' hy' hxy
theorem Tab.start {g n : Nat} (hB : Blk W g 48 (List.replicate n (.slice none 0 0))) (hg : b ≤ g) (hn : n ≤ 9223372036854775807) : Tab W b (.slice (some ⟨g, 0, none⟩) n n) (List.replicate n (.slice none 0 0, [])) := by
 refine ⟨?_, (fun q hq => by simp [Value.ownBlock] at hq; omega), (fun p hp => ?_), ?_⟩
 ·rw [List.length_replicate, List.map_replicate]
  exact OwnS.of_blk hB (by simp) hn
 ·rw [List.mem_replicate] at hp
  rw [hp.2]
  exact ⟨OwnS.nil _ _ _, (fun x hx => by cases hx), (fun g hg => by simp [Value.ownBlock] at hg)⟩
 ·rw [List.pairwise_iff_getElem]
  intro x y hx hy _
  simp [Value.ownBlock]
end Go.Proofs.YtnjknkgomhmlfaaGreatDoor
namespace Go.Proofs.YtnjknkgomhmlfaaGreatDoor
open Go.PF Go.RowKit Go.Ord
attribute [local irreducible] TW CW KW DW
variable {w : World} {M : Tab12} {n a : Nat} {s : ByteArray}
def rowG (M : Tab12) (n a : Nat) : List Int := (List.range n).map fun b => g12 M a b
def distG (M : Tab12) (n : Nat) : List (List Int) := (List.range n).map fun a => rowG M n a
def rowT (M : Tab12) (n a j : Nat) : List Int := (List.range n).map fun b => if b < j then g12 M a b else 0
theorem rowT_len (M : Tab12) (n a j : Nat) : (rowT M n a j).length = n := by simp [rowT]
theorem rowT_zero (M : Tab12) (n a : Nat) : rowT M n a 0 = List.replicate n 0 := by
 apply List.ext_getElem?
 intro i
 simp [rowT, List.getElem?_replicate]
 split
 ·rename_i h; simp [h]
 ·rename_i h; rw [List.getElem?_eq_none (by simpa using h)]; rfl
theorem rowT_all (M : Tab12) (n a : Nat) : rowT M n a n = rowG M n a := by
 unfold rowT rowG
 exact List.map_congr_left fun b hb => by rw [if_pos (List.mem_range.1 hb)]
theorem rowT_succ {j : Nat} (hj : j < n) : (rowT M n a j).set j (g12 M a j) = rowT M n a (j + 1) := by
 apply List.ext_getElem?
 intro i
 rw [List.getElem?_set, rowT_len]
 by_cases h : j = i
 ·subst h
  simp [rowT, hj]
 ·rw [if_neg h]
  unfold rowT
  rw [List.getElem?_map, List.getElem?_map]
  rcases Nat.lt_or_ge i n with hi | hi
  ·rw [List.getElem?_range hi]
   simp only [Option.map_some]
   congr 1
   by_cases h' : i < j
   ·rw [if_pos h', if_pos (by omega)]
   ·rw [if_neg h', if_neg (by omega)]
  ·rw [List.getElem?_eq_none (by simpa using hi)]; rfl
theorem rowT_rng {L : List Ln} {B : Int} (h : T12 L B M) (hB : B ≤ 1000000000) {j : Nat} (hn : n ≤ 12) (ha : a < 12) : ∀ x ∈ rowT M n a j, I64 x := by
 intro x hx
 obtain ⟨b, hb, rfl⟩ := List.mem_map.1 hx
 have hb' := List.mem_range.1 hb
 have := h.rng a b ha (by omega)
 split
 ·exact ⟨by omega, by omega⟩
 ·exact ⟨by decide, by decide⟩
structure Rows12 (M : Tab12) (n a : Nat) (rs : List (Value × List Int)) : Prop where
 len : rs.length = n
 at_ : ∀ i, i < a → (rs[i]?).map (·.2) = some (rowG M n i)
theorem Rows12.next {rs : List (Value × List Int)} (h : Rows12 M n a rs) (ha : a < n) (v : Value) : Rows12 M n (a + 1) (rs.set a (v, rowG M n a)) := by
 have hl := h.len
 refine ⟨by rw [List.length_set]; exact hl, fun i hi => ?_⟩
 rw [List.getElem?_set]
 by_cases e : a = i
 ·subst e
  rw [if_pos rfl, if_pos (by omega)]
  rfl
 ·rw [if_neg e]
  exact h.at_ i (by omega)
theorem Rows12.all {rs : List (Value × List Int)} (h : Rows12 M n n rs) : rs.map (·.2) = distG M n := by
 apply List.ext_getElem?
 intro i
 rw [List.getElem?_map]
 rcases Nat.lt_or_ge i n with hi | hi
 ·rw [h.at_ i hi]
  unfold distG
  rw [List.getElem?_map, List.getElem?_range hi]
  rfl
 ·rw [List.getElem?_eq_none (by have := h.len; omega), List.getElem?_eq_none (by unfold distG; simpa using hi)]
  rfl
theorem dist_c {v : NV} {N : Net} (ht : Tabs w) (hN : NetAt w v N) (hc : ConsOK keys11 N) : Gives Tryz.prog 31 #[.agg v.cells.toArray] w fun u w' => Below w.heap.size w w' ∧ SD w' u (distG (relaxed12 (lnOf N)) N.offs.length) := by
 have hform := NetIn.form hN
 obtain ⟨vc, vn, vo, vf, vl, vk⟩ := v
 obtain ⟨⟨A1, c1, e1⟩, ⟨A2, c2, e2⟩, ⟨A3, c3, e3⟩, ⟨A4, c4, e4⟩, ⟨A5, c5, e5⟩, ⟨A6, c6, e6⟩⟩ := id hform
 dsimp only at e1 e2 e3 e4 e5 e6
 subst e1 e2 e3 e4 e5 e6
 have hL := cons_ln12 hc
 have hn12 := hc.ln.2.1
 refine gv Tryz.func31 Tryz.ntmps31 ?_
 refine rnT ?_
 refine TW.box rfl rfl rfl rfl ?_
 rintro g1 w1 f1
 refine rnT ?_
 refine TW.pk [0, 1, 2] rfl ?_
 have hB1 := f1.blk
 have hN1 := net_step hN f1.below
 refine TW.loadS _ rfl rfl Tryz.underlying29 sz29 rfl ct (fun _ => (fun _ _ hv => hB1.fld hv)) rfl ?_
 refine TW.cl en63 rfl (incon_c (v := ⟨.slice A1 N.cals.length c1, .slice A2 N.names.length c2, .slice A3 N.ops.length c3, .slice A4 N.offs.length c4, .slice A5 N.lines.length c5, .slice A6 N.classes.length c6⟩) (ht.below f1.below) hN1) ?_
 rintro y2 w2 ⟨d2, n, hR, hn, hiff⟩
 obtain ⟨Y, yc, rfl⟩ := FRow.form hR
 have b2 := f1.below.step d2
 have hB2 := hB1.next d2
 have hn0 : n = 0 := hiff.2 hc
 subst hn0
 refine rnT ?_
 refine CW.pk [0, 1, 2, 10] rfl ?_
 refine CW.condP rfl (fun hbad => ?_) (fun hgood => ?_)
 ·exact absurd hbad (by simp)
 obtain ⟨rel, hrel⟩ : ∃ r, r = relaxed12 (lnOf N) := ⟨_, rfl⟩
 have hok := (relaxed12_ok hL).1
 rw [← hrel] at hok ⊢
 have hlen := tabV_len hok.len
 refine rnT ?_
 refine TW.loadS _ rfl rfl Tryz.underlying29 sz29 rfl ct (fun _ => (fun _ _ hv => hB2.fld hv)) rfl ?_
 refine TW.cl en64 rfl (relaxed_c (v := ⟨.slice A1 N.cals.length c1, .slice A2 N.names.length c2, .slice A3 N.ops.length c3, .slice A4 N.offs.length c4, .slice A5 N.lines.length c5, .slice A6 N.classes.length c6⟩) (net_step hN1 d2) hL (cons_nat hc)) ?_
 rintro y3 w3 ⟨d3, rfl⟩
 rw [← hrel]
 refine TW.newVar rfl zc124 rfl (hlen ▸ sz124) (by rw [hlen]; rfl) (tabV_one _) ?_
 rintro g4 w4 f4
 refine rnT ?_
 have hB4 := (hB2.next d3).next f4.below
 have b4 := (b2.step d3).step f4.below
 refine TW.ld rfl (hB4.fld rfl) ?_
 refine rnT ?_
 refine TW.makeSlice rfl rfl (zero1_of go30 ze48 rfl) rfl rfl (by omega) (by omega) ?_
 rintro g5 w5 f5
 refine rnT ?_
 refine CW.pk [0, 1, 2, 3, 4, 18, 19] rfl ?_
 have hT4 := f4.blk.next f5.below
 have hB5 := hB4.next f5.below
 have b5 := b4.step f5.below
 have hw05 := b4.size
 have hat5 := f5.at_
 have hD5 : Tab w5 w4.heap.size (.slice (some ⟨g5, 0, none⟩) N.offs.length N.offs.length) (List.replicate N.offs.length (.slice none 0 0, [])) := Tab.start f5.blk (by omega) (by omega)
 refine CW.loopS (fun x : Nat × List (Value × List Int) => [(1, none, .pointer (some ⟨g1, 0, none⟩)), (3, none, .pointer (some ⟨g4, 0, none⟩)), (4, none, .slice (some ⟨g5, 0, none⟩) N.offs.length N.offs.length), (18, none, .int .i64 (N.offs.length : Int)), (19, none, .int .i64 (x.1 : Int))])
  (fun x W => x.1 ≤ N.offs.length ∧ Below w4.heap.size w4 W ∧ Tab W w4.heap.size (.slice (some ⟨g5, 0, none⟩) N.offs.length N.offs.length) x.2 ∧ Rows12 rel N.offs.length x.1 x.2) (fun x => N.offs.length - x.1) (0, List.replicate N.offs.length (.slice none 0 0, [])) [1, 3, 4, 18, 19]
  ⟨Nat.zero_le _, f5.below, hD5, ⟨List.length_replicate, fun i hi => by omega⟩⟩ rfl ?_
 rintro ⟨a, rs⟩ W ⟨ha, hW, hD, hRs⟩
 dsimp only at ha hD hRs
 have hBW := hB4.next hW
 have hlrs := hRs.len
 have hbs := hW.size
 refine rnT ?_
 refine CW.pk [1, 3, 4, 18, 19, 20] rfl ?_
 refine CW.condP rfl (fun hlt => ?_) (fun hge => ?_)
 ·refine rnT ?_
  refine TW.ld rfl (hBW.fld rfl) ?_
  refine rnT ?_
  refine TW.makeSlice rfl rfl (zero1_of go48 ze3 rfl) rfl rfl (by omega) (by omega) ?_
  rintro gr wr fr
  refine rnT ?_
  have hDr := hD.step fr.below
  have hatr := fr.at_
  have hown := hDr.own
  rw [hlrs] at hown
  refine TW.storeRow1 rfl sz48 rfl rfl hown (by simp; omega) rfl ?_
  rintro W1 o1 hbut1 hsz1
  refine rnT ?_
  have hg5 := hD.own.lt (g := g5) rfl
  have hne : g5 ≠ gr := by omega
  have hr1 : OwnS W1 3 1 (.slice (some ⟨gr, 0, none⟩) N.offs.length N.offs.length) (rowT rel N.offs.length a 0).length ((rowT rel N.offs.length a 0).map (Value.int .i64)) := by
   rw [rowT_len, rowT_zero]
   have := OwnS.of_blk fr.blk (n := N.offs.length) (sz := 1) (by simp) (by omega)
   rw [List.map_replicate]
   exact this.kept fun k hk => hbut1.block k (this.lt hk) (fun e => by cases hk; cases e; exact hne rfl)
  have hD1 : Tab W1 w4.heap.size (.slice (some ⟨g5, 0, none⟩) N.offs.length N.offs.length) (rs.set a (.slice (some ⟨gr, 0, none⟩) N.offs.length N.offs.length, rowT rel N.offs.length a 0)) := by
   refine hDr.put (by omega) rfl hbut1 (by rw [hlrs]; simpa using o1) hr1 (rowT_rng hok (by decide) hn12 (by omega)) (fun g hg => ?_) (fun p hp g hg e => ?_)
   ·cases hg
    exact ⟨by show w4.heap.size ≤ gr; omega, fun e => by cases e; exact hne rfl⟩
   ·cases e
    have h9 : gr < W.heap.size := (hD.row p hp).1.lt hg
    omega
  have hW1 : Below w4.heap.size w4 W1 := (hW.step fr.below).grown hbut1 (hW.step fr.below).size (fun q hq => by cases hq; omega)
  have hB1W := hB4.next hW1
  have hcel0 : W1.cell? (Addr.add ⟨g5, 0, none⟩ ((a : Int).toNat * 1)) = some (.slice (some ⟨gr, 0, none⟩) N.offs.length N.offs.length) := by
   rw [Nat.mul_one, Int.toNat_natCast]
   have ho := hD1.own
   rw [List.length_set, hlrs] at ho
   exact ho.cell1 (by rw [List.getElem?_map, List.getElem?_set_self (by omega)]; rfl)
  refine TW.ld rfl (hcel0) ?_
  refine rnT ?_
  refine CW.pk [1, 3, 4, 5, 18, 19, 33, 34] rfl ?_
  refine CW.loopS (fun j : Nat => [(1, none, .pointer (some ⟨g1, 0, none⟩)), (3, none, .pointer (some ⟨g4, 0, none⟩)), (4, none, .slice (some ⟨g5, 0, none⟩) N.offs.length N.offs.length), (5, none, .int .i64 (a : Int)), (18, none, .int .i64 (N.offs.length : Int)), (19, none, .int .i64 (a : Int)), (33, none, .int .i64 (N.offs.length : Int)), (34, none, .int .i64 (j : Int))])
   (fun j W' => j ≤ N.offs.length ∧ Below w4.heap.size w4 W' ∧ Tab W' w4.heap.size (.slice (some ⟨g5, 0, none⟩) N.offs.length N.offs.length) (rs.set a (.slice (some ⟨gr, 0, none⟩) N.offs.length N.offs.length, rowT rel N.offs.length a j))) (fun j => N.offs.length - j) 0 [1, 3, 4, 5, 18, 19, 33, 34]
   ⟨Nat.zero_le _, hW1, hD1⟩ rfl ?_
  rintro j W2 ⟨hj, hW2, hD2⟩
  refine rnT ?_
  refine CW.pk [1, 3, 4, 5, 18, 19, 33, 34, 35] rfl ?_
  refine CW.condP rfl (fun hlt2 => ?_) (fun hge2 => ?_)
  ·have hri : (rs.set a (.slice (some ⟨gr, 0, none⟩) N.offs.length N.offs.length, rowT rel N.offs.length a j))[a]? = some (.slice (some ⟨gr, 0, none⟩) N.offs.length N.offs.length, rowT rel N.offs.length a j) := by
    rw [List.getElem?_set_self (by omega)]
   have hcel : W2.cell? (Addr.add ⟨g5, 0, none⟩ ((a : Int).toNat * 1)) = some (.slice (some ⟨gr, 0, none⟩) N.offs.length N.offs.length) := by
    rw [Nat.mul_one, Int.toNat_natCast]
    have ho := hD2.own
    rw [List.length_set, hlrs] at ho
    exact ho.cell1 (by rw [List.getElem?_map, hri]; rfl)
   have hcelt := tab_cell (a := a) (b := j) (f4.blk.next hW2) hok.len (by omega) (by omega)
   refine rnT ?_
   refine CW.pk [1, 3, 4, 5, 6, 18, 19, 33, 34] rfl ?_
   refine CW.drawR mixed fun W3 hb3 => ?_
   refine RW.draw .weak 11 (by kernel_rfl) (by kernel_rfl) rfl rfl hb3 ?_
   refine rnD ?_
   refine DW.ld rfl (hcel) ?_
   refine DW.move rfl rfl rfl ct ?_
   refine DW.move rfl rfl rfl ct ?_
   refine DW.move rfl rfl rfl ct ?_
   refine DW.indexAddrA rfl rfl Tryz.underlying124 sz123 rfl ct rfl ct (fun _ => by (try dsimp only); omega) ?_
   refine DW.indexAddrA rfl rfl Tryz.underlying123 sz3 rfl ct rfl ct (fun _ => by (try dsimp only); omega) ?_
   refine DW.ld rfl (hcelt) ?_
   refine rnD ?_
   refine DW.nil (DW.fin [1, 3, 4, 5, 6, 18, 19, 33, 34, 46, 47] [(1, _, _), (3, _, _), (4, _, _), (5, _, _), (6, _, _), (18, _, _), (19, _, _), (33, _, _), (34, _, _), (46, _, _), (47, _, _)] rfl (fun W4 hb4 => KW.rk' ?_))
   refine RW.one (by kernel_rfl) (by kernel_rfl) rfl ?_
   have hD4 := hD2.step hb4
   obtain ⟨ho4, hI4, hob4⟩ := hD4.row _ (List.mem_of_getElem? hri)
   dsimp only at ho4 hI4 hob4
   rw [rowT_len] at ho4
   refine TW.storeRow1 rfl sz3 rfl rfl ho4 (by simp [rowT_len]; omega) rfl ?_
   rintro W5 o5 hbut5 hsz5
   refine TW.nil (KW.pick [1, 3, 4, 5, 6, 18, 19, 33, 34] [(1, _, _), (3, _, _), (4, _, _), (5, _, _), (6, _, _), (18, _, _), (19, _, _), (33, _, _), (34, _, _)] rfl (KW.rk ?_))
   refine RW.end rfl (KW.pick [1, 3, 4, 5, 6, 18, 19, 33, 34] [(1, _, _), (3, _, _), (4, _, _), (5, _, _), (6, _, _), (18, _, _), (19, _, _), (33, _, _), (34, _, _)] rfl (KW.blockN (KW.then_ ?_)))
   refine rnT ?_
   have hW4 := hW2.step hb4
   have hD5 := hD4.set hri rfl hbut5 (r' := rowT rel N.offs.length a (j + 1)) (by
    rw [rowT_len, ← rowT_succ (by omega), List.map_set]
    have e : (j : Int).toNat * 1 = j := by omega
    rw [e] at o5
    exact o5) (rowT_rng hok (by decide) hn12 (by omega))
   rw [List.set_set] at hD5
   refine KW.round (j + 1) [1, 3, 4, 5, 18, 19, 33, 34] rfl ⟨by omega, hW4.grown hbut5 hW4.size (fun q hq => by cases hq; exact (hob4 _ rfl).1), hD5⟩ (by omega)
  ·have hje : j = N.offs.length := by omega
   subst hje
   rw [rowT_all] at hD2
   refine rnT ?_
   refine KW.round (a + 1, rs.set a (.slice (some ⟨gr, 0, none⟩) N.offs.length N.offs.length, rowG rel N.offs.length a)) [1, 3, 4, 18, 19] rfl ⟨by show a + 1 ≤ N.offs.length; omega, hW2, hD2, hRs.next (by omega) _⟩ (by show N.offs.length - (a + 1) < N.offs.length - a; omega)
 ·have hae : a = N.offs.length := by omega
  subst hae
  have hsd := hD.sd (by omega) (fun p hp => by
   have : p.2 ∈ rs.map (·.2) := List.mem_map_of_mem hp
   rw [hRs.all] at this
   obtain ⟨i, _, e⟩ := List.mem_map.1 this
   rw [← e]
   simp [rowG]
   omega)
  rw [hRs.all] at hsd
  refine rnT ?_
  refine ret1 Tryz.results31 rfl (⟨b4.step hW, hsd⟩)
theorem rdigit_c {b : Nat} : Gives Tryz.prog 179 #[.int .u8 (b : Int)] w fun u w' => Below w.heap.size w w' ∧ u = .bool (dec (isDg b)) := by
 refine gv Tryz.func179 Tryz.ntmps179 ?_
 refine rnT ?_
 refine ret1 Tryz.results179 rfl (⟨Below.refl _ _, ?_⟩)
 by_cases h : isDg b
 ·rw [dec_pos h]
  unfold isDg at h
  simp
  omega
 ·rw [dec_neg h]
  unfold isDg at h
  simp
  omega
theorem between_c {v a b : Int} : Gives Tryz.prog 183 #[.int .i64 v, .int .i64 a, .int .i64 b] w fun u w' => Below w.heap.size w w' ∧ u = .bool (decide (a ≤ v ∧ v ≤ b)) := by
 refine gv Tryz.func183 Tryz.ntmps183 ?_
 refine rnT ?_
 refine ret1 Tryz.results183 rfl (⟨Below.refl _ _, ?_⟩)
 by_cases h1 : a ≤ v <;> by_cases h2 : v ≤ b <;> simp [h1, h2]
theorem byteN (s : ByteArray) (k : Nat) : (s.data.getD ((k : Nat) : Int).toNat 0).toNat = byteA s k := by rw [Int.toNat_natCast]; rfl
theorem byte0 (s : ByteArray) : (s.data.getD (Int.toNat 0) 0).toNat = byteA s 0 := rfl
theorem code_test (b : Nat) : ((decide ((b : Int) < 65) || decide (90 < (b : Int))) && !dec (isDg b)) = true ↔ ¬ ((65 ≤ b ∧ b ≤ 90) ∨ isDg b) := by
 by_cases h : isDg b
 ·rw [dec_pos h]
  simp [h]
 ·rw [dec_neg h]
  simp [h]
  omega
theorem name_test (b : Nat) : ((decide ((b : Int) < 97) || decide (122 < (b : Int))) && !dec (isDg b) && decide ((b : Int) ≠ 95)) = true ↔ ¬ (isSm b ∨ isDg b ∨ b = 95) := by
 by_cases h : isDg b
 ·rw [dec_pos h]
  simp [h]
 ·rw [dec_neg h]
  simp [h, isSm]
  omega
theorem rcode_c : Gives Tryz.prog 191 #[.string s] w fun u w' => Below w.heap.size w w' ∧ u = .bool (dec (CodeOK s)) := by
 refine gv Tryz.func191 Tryz.ntmps191 ?_
 refine rnT ?_
 refine CW.pk [0, 2, 11] rfl ?_
 refine CW.cond rfl (fun hbad => ?_) (fun hgood => ?_)
 ·refine rnT ?_
  refine ret1 Tryz.results191 rfl (⟨Below.refl _ _, ?_⟩)
  rw [dec_neg fun h => ?_]
  have := h.n1
  have := h.n2
  simp at hbad
  omega
 have hsz : 1 ≤ s.size ∧ s.size ≤ 8 := by simp at hgood; omega
 refine rnT ?_
 refine CW.pk [0, 2, 3] rfl ?_
 refine CW.loopS (fun k : Nat => [(0, none, .string s), (3, none, .int .i64 (k : Int))])
  (fun k W => k ≤ s.size ∧ Below w.heap.size w W ∧ ∀ i, i < k → (65 ≤ byteA s i ∧ byteA s i ≤ 90) ∨ isDg (byteA s i)) (fun k => s.size - k) 0 [0, 3] ⟨Nat.zero_le _, Below.refl _ _, fun i hi => by omega⟩ rfl ?_
 rintro k W ⟨hk, hB, hok⟩
 refine rnT ?_
 refine CW.pk [0, 3, 15] rfl ?_
 refine CW.condP rfl (fun hlt => ?_) (fun hge => ?_)
 ·have hks : k < s.size := by omega
  refine rnT ?_
  refine TW.callF (cap := []) rfl rfl en179 rfl ct (Args.cons rfl id Args.nil) (fun _ => rdigit_c (b := byteA s k)) ?_
  rintro w2 c2
  refine rnT ?_
  refine CW.pk [0, 3, 34] rfl ?_
  refine CW.cond rfl (fun hbad2 => ?_) (fun hgood2 => ?_)
  ·rw [byteN, code_test] at hbad2
   refine rnT ?_
   refine ret1 Tryz.results191 rfl (⟨hB.step c2, ?_⟩)
   rw [dec_neg fun h => hbad2 (h.all k hks)]
  ·rw [byteN] at hgood2
   have hgd : (65 ≤ byteA s k ∧ byteA s k ≤ 90) ∨ isDg (byteA s k) := Classical.byContradiction fun h => by
    rw [← code_test] at h
    rw [h] at hgood2
    cases hgood2
   refine rnT ?_
   refine KW.round (k + 1) [0, 3] rfl ⟨by omega, hB.step c2, fun i hi => ?_⟩ (by omega)
   rcases Nat.lt_or_ge i k with h | h
   ·exact hok i h
   ·have : i = k := by omega
    subst this
    exact hgd
 ·have hke : k = s.size := by omega
  subst hke
  refine rnT ?_
  refine ret1 Tryz.results191 rfl (⟨hB, by rw [dec_pos ⟨hsz.1, hsz.2, hok⟩]⟩)
theorem rkeys_c : Gives Tryz.prog 190 #[] w fun u w' => Below w.heap.size w w' ∧ ∃ g, u = .slice (some ⟨g, 0, none⟩) 17 17 ∧ Blk w' g 9 (keys11.map Value.string) := by
 refine gv Tryz.func190 Tryz.ntmps190 ?_
 refine rnT ?_
 refine TW.pk [0] rfl ?_
 refine TW.buildSlice 9 (cs := keys11.map Value.string) _ rfl rfl rfl eo23 (Args.cons rfl ct (Args.cons rfl ct (Args.cons rfl ct (Args.cons rfl ct (Args.cons rfl ct (Args.cons rfl ct (Args.cons rfl ct (Args.cons rfl ct (Args.cons rfl ct (Args.cons rfl ct (Args.cons rfl ct (Args.cons rfl ct (Args.cons rfl ct (Args.cons rfl ct (Args.cons rfl ct (Args.cons rfl ct (Args.cons rfl ct Args.nil))))))))))))))))) rfl rfl rfl rfl (by kernel_rfl) ?_
 rintro g w1 f1
 refine rnT ?_
 refine ret1 Tryz.results190 rfl (⟨f1.below, g, rfl, f1.blk⟩)
theorem rkey_c : Gives Tryz.prog 178 #[.string s] w fun u w' => Below w.heap.size w w' ∧ u = .bool (dec (s ∈ keys11)) := by
 refine gv Tryz.func178 Tryz.ntmps178 ?_
 refine rnT ?_
 refine TW.pk [0, 2] rfl ?_
 refine TW.cl en190 rfl (rkeys_c) ?_
 rintro y1 w1 ⟨b1, g, rfl, hB1⟩
 refine rnT ?_
 refine CW.pk [0, 2, 3, 4] rfl ?_
 have hkl : keys11.length = 17 := rfl
 refine CW.loopS (fun k : Nat => [(0, none, .string s), (3, none, .slice (some ⟨g, 0, none⟩) 17 17), (4, none, .int .i64 (k : Int))])
  (fun k W => k ≤ 17 ∧ Below w1.heap.size w1 W ∧ ∀ i x, i < k → keys11[i]? = some x → s ≠ x) (fun k => 17 - k) 0 [0, 3, 4] ⟨Nat.zero_le _, Below.refl _ _, fun i x hi => by omega⟩ rfl ?_
 rintro k W ⟨hk, hB, hno⟩
 refine rnT ?_
 refine CW.pk [0, 3, 4, 9] rfl ?_
 refine CW.condP rfl (fun hlt => ?_) (fun hge => ?_)
 ·obtain ⟨x, hx, hxm⟩ := getx (l := keys11) (k := k) (by omega)
  have hxv : W.cell? (Addr.add ⟨g, 0, none⟩ ((k : Int).toNat * 1)) = some (.string x) := by
   rw [show (k : Int).toNat * 1 = k by omega]
   exact (hB1.next hB).fld (by rw [List.getElem?_map, hx]; rfl)
  refine rnT ?_
  refine TW.ld rfl (hxv) ?_
  refine rnT ?_
  refine CW.pk [0, 3, 4, 17] rfl ?_
  rw [beqL]
  refine CW.cond rfl (fun heq => ?_) (fun hne => ?_)
  ·refine rnT ?_
   refine ret1 Tryz.results178 rfl (⟨b1.step hB, ?_⟩)
   rw [dec_pos (p := s ∈ keys11) (of_decide_eq_true heq ▸ hxm)]
  ·refine rnT ?_
   refine KW.round (k + 1) [0, 3, 4] rfl ⟨by omega, hB, fun i z hi hz => ?_⟩ (by omega)
   rcases Nat.lt_or_ge i k with h | h
   ·exact hno i z h hz
   ·have : i = k := by omega
    subst this
    rw [hx] at hz
    cases hz
    exact fun e => of_decide_eq_false hne e.symm
 ·refine rnT ?_
  have hnk : s ∉ keys11 := fun h => by
   obtain ⟨i, hi⟩ := List.mem_iff_getElem?.1 h
   exact hno i s (by have := (List.getElem?_eq_some_iff.1 hi).1; omega) hi rfl
  refine ret1 Tryz.results178 rfl (⟨b1.step hB, by rw [dec_neg hnk]⟩)
theorem rname_c : Gives Tryz.prog 164 #[.string s] w fun u w' => Below w.heap.size w w' ∧ u = .bool (dec (NameOK keys11 s)) := by
 refine gv Tryz.func164 Tryz.ntmps164 ?_
 refine rnT ?_
 refine TW.callF (cap := []) rfl rfl en178 rfl ct (Args.cons rfl id Args.nil) (fun _ => rkey_c (s := s)) ?_
 rintro w1 c1
 refine rnT ?_
 refine CW.pk [0, 2, 25] rfl ?_
 refine CW.cond rfl (fun hbad => ?_) (fun hgood => ?_)
 ·refine rnT ?_
  refine ret1 Tryz.results164 rfl (⟨c1, ?_⟩)
  rw [dec_neg fun h => ?_]
  have h1 := h.n1
  have h2 := h.n2
  have h3 := h.fst
  have h4 := h.nokey
  rw [byte0] at hbad
  unfold isSm at h3
  rw [dec_neg h4] at hbad
  simp at hbad
  omega
 have hsz : 1 ≤ s.size ∧ s.size ≤ 16 ∧ isSm (byteA s 0) ∧ s ∉ keys11 := by
  rw [byte0] at hgood
  unfold isSm
  simp only [Bool.or_eq_false_iff, decide_eq_false_iff_not] at hgood
  exact ⟨by omega, by omega, by omega, fun h => by rw [dec_pos h] at hgood; cases hgood.2⟩
 refine rnT ?_
 refine CW.pk [0, 2, 3] rfl ?_
 refine CW.loopS (fun k : Nat => [(0, none, .string s), (3, none, .int .i64 (k : Int))])
  (fun k W => k ≤ s.size ∧ Below w.heap.size w W ∧ ∀ i, i < k → isSm (byteA s i) ∨ isDg (byteA s i) ∨ byteA s i = 95) (fun k => s.size - k) 0 [0, 3] ⟨Nat.zero_le _, c1, fun i hi => by omega⟩ rfl ?_
 rintro k W ⟨hk, hB, hok⟩
 refine rnT ?_
 refine CW.pk [0, 3, 29] rfl ?_
 refine CW.condP rfl (fun hlt => ?_) (fun hge => ?_)
 ·have hks : k < s.size := by omega
  refine rnT ?_
  refine TW.callF (cap := []) rfl rfl en179 rfl ct (Args.cons rfl id Args.nil) (fun _ => rdigit_c (b := byteA s k)) ?_
  rintro w2 c2
  refine rnT ?_
  refine CW.pk [0, 3, 54] rfl ?_
  refine CW.cond rfl (fun hbad2 => ?_) (fun hgood2 => ?_)
  ·rw [byteN, name_test] at hbad2
   refine rnT ?_
   refine ret1 Tryz.results164 rfl (⟨hB.step c2, ?_⟩)
   rw [dec_neg fun h => hbad2 (h.all k hks)]
  ·rw [byteN] at hgood2
   have hgd : isSm (byteA s k) ∨ isDg (byteA s k) ∨ byteA s k = 95 := Classical.byContradiction fun h => by
    rw [← name_test] at h
    rw [h] at hgood2
    cases hgood2
   refine rnT ?_
   refine KW.round (k + 1) [0, 3] rfl ⟨by omega, hB.step c2, fun i hi => ?_⟩ (by omega)
   rcases Nat.lt_or_ge i k with h | h
   ·exact hok i h
   ·have : i = k := by omega
    subst this
    exact hgd
 ·have hke : k = s.size := by omega
  subst hke
  refine rnT ?_
  refine ret1 Tryz.results164 rfl (⟨hB, by rw [dec_pos ⟨hsz.1, hsz.2.1, hsz.2.2.1, hok, hsz.2.2.2⟩]⟩)
theorem rcalValid_c {u v : Value} {c : Cal} {F : Nat → Prop} (h : CalIn F w u v c) : Gives Tryz.prog 180 #[.agg (calV c u v).toArray] w fun x w' => Below w.heap.size w w' ∧ x = .bool (dec (CalOK c)) := by
 obtain ⟨A, cap, rfl, _⟩ := h.wk.form
 obtain ⟨B, bcap, rfl, _⟩ := h.hol.form
 refine gv Tryz.func180 Tryz.ntmps180 ?_
 refine rnT ?_
 refine TW.box rfl rfl rfl rfl ?_
 rintro g1 w1 f1
 refine rnT ?_
 have hB := f1.blk
 have h1 := h.below f1.below
 refine TW.ld rfl (hB.fld rfl) ?_
 refine rnT ?_
 refine TW.ld rfl (hB.fld rfl) ?_
 refine rnT ?_
 refine TW.ld rfl (hB.fld rfl) ?_
 refine rnT ?_
 refine TW.ld rfl (hB.fld rfl) ?_
 refine rnT ?_
 refine CW.pk [0, 1, 2, 23] rfl ?_
 refine CW.cond rfl (fun hbad => ?_) (fun hgood => ?_)
 ·refine rnT ?_
  refine ret1 Tryz.results180 rfl (⟨f1.below, ?_⟩)
  rw [dec_neg fun h => ?_]
  have q1 := h.z1
  have q2 := h.z2
  have q3 := h.wk
  have q4 := h.few
  simp at hbad
  omega
 have hg : (-720 ≤ c.zone ∧ c.zone ≤ 840) ∧ c.week.length = 7 ∧ c.hol.length ≤ 40 := by simp at hgood; omega
 refine rnT ?_
 refine CW.pk [0, 1, 2, 3] rfl ?_
 refine CW.loopS (fun k : Nat => [(1, none, .pointer (some ⟨g1, 0, none⟩)), (3, none, .int .i64 ((k : Int) + 1))])
  (fun k W => k ≤ c.hol.length ∧ Below w1.heap.size w1 W ∧ ∀ (i : Nat) (x y : Int), i < k → c.hol[i]? = some x → c.hol[i + 1]? = some y → x < y) (fun k => c.hol.length - k) 0 [1, 3] ⟨Nat.zero_le _, Below.refl _ _, fun i x y hi => by omega⟩ rfl ?_
 rintro k W ⟨hk, hBW, hinc⟩
 have hB2 := hB.next hBW
 refine rnT ?_
 refine TW.ld rfl (hB2.fld rfl) ?_
 refine rnT ?_
 refine CW.pk [1, 3, 28] rfl ?_
 refine CW.condP rfl (fun hlt => ?_) (fun hge => ?_)
 ·obtain ⟨x, hx, _⟩ := getx (l := c.hol) (k := k) (by omega)
  obtain ⟨y, hy, _⟩ := getx (l := c.hol) (k := k + 1) (by omega)
  obtain ⟨ad, rfl⟩ := h.hol.addr (by omega)
  have hyc : W.cell? (ad.add (((k : Int) + 1).toNat * 1)) = some (.int .i64 y) := by
   have := (h1.hol.below hBW).getI hy
   rw [show ((k + 1 : Nat) : Int) = (k : Int) + 1 by omega] at this
   exact this
  have hxc : W.cell? (ad.add (((k : Int) + 1 - 1).toNat * 1)) = some (.int .i64 x) := by
   have := (h1.hol.below hBW).getI hx
   rw [show ((k : Nat) : Int) = (k : Int) + 1 - 1 by omega] at this
   exact this
  refine rnT ?_
  refine CW.draw mixed (by kernel_rfl) ?_
  refine rnD ?_
  refine DW.ld rfl (hB2.fld rfl) ?_
  refine rnD ?_
  refine DW.ld rfl (hxc) ?_
  refine rnD ?_
  refine DW.ld rfl (hB2.fld rfl) ?_
  refine rnD ?_
  refine DW.ld rfl (hyc) ?_
  refine rnD ?_
  refine DW.fi [1, 3, 42] rfl fun w3 b3 => ?_
  refine KW.then_ ?_
  refine CW.condP rfl (fun hbad2 => ?_) (fun hgood2 => ?_)
  ·refine rnT ?_
   refine ret1 Tryz.results180 rfl (⟨(f1.below.step hBW).step b3, ?_⟩)
   rw [dec_neg fun h => ?_]
   have := h.inc k x y hx hy
   omega
  ·refine rnT ?_
   rw [show ((k : Int) + 1 + 1) = ((k + 1 : Nat) : Int) + 1 by omega]
   refine KW.round (k + 1) [1, 3] rfl ⟨by omega, hBW.step b3, fun i p q hi hp hq => ?_⟩ (by omega)
   rcases Nat.lt_or_ge i k with h | h
   ·exact hinc i p q h hp hq
   ·have : i = k := by omega
    subst this
    rw [hx] at hp
    rw [hy] at hq
    cases hp
    cases hq
    omega
 ·refine rnT ?_
  refine ret1 Tryz.results180 rfl (⟨f1.below.step hBW, ?_⟩)
  rw [dec_pos ⟨hg.1.1, hg.1.2, hg.2.1, hg.2.2, fun i x y hx hy => hinc i x y (by have := (List.getElem?_eq_some_iff.1 hy).1; omega) hx hy⟩]
theorem rsmall_c {u v : Value} {c : Cal} {F : Nat → Prop} (h : CalIn F w u v c) : Gives Tryz.prog 65 #[.agg (calV c u v).toArray] w fun x w' => Below w.heap.size w w' ∧ x = .bool (decide (c.week.length ≤ 20 ∧ c.hol.length ≤ 60)) := by
 obtain ⟨A, cap, rfl, _⟩ := h.wk.form
 obtain ⟨B, bcap, rfl, _⟩ := h.hol.form
 refine gv Tryz.func65 Tryz.ntmps65 ?_
 refine rnT ?_
 refine TW.box rfl rfl rfl rfl ?_
 rintro g1 w1 f1
 refine rnT ?_
 have hB := f1.blk
 refine TW.ld rfl (hB.fld rfl) ?_
 refine rnT ?_
 refine TW.ld rfl (hB.fld rfl) ?_
 refine rnT ?_
 refine ret1 Tryz.results65 rfl (⟨f1.below, ?_⟩)
 by_cases h1 : c.week.length ≤ 20 <;> by_cases h2 : c.hol.length ≤ 60 <;> simp [h1, h2] <;> omega
end Go.Proofs.YtnjknkgomhmlfaaGreatDoor
namespace Go.Proofs.YtnjknkgomhmlfaaGreatDoor
open Go.PF Go.RowKit Go.Ord
variable {N : Net}
def namesK (N : Net) (k : Nat) : List ByteArray := if k = 1 then calNm N else if k = 2 then N.ops else if k = 3 then N.offs.map (·.name) else if k = 4 then N.lines.map (·.name) else N.classes.map (·.name)
def limN (k : Nat) : Nat := if k = 3 then 12 else if k = 4 then 40 else if k = 5 then 4 else 6
def numK (N : Net) (k i : Nat) : Prop := if k = 1 then ∀ x, N.cals[i]? = some x → CalOK x else if k = 2 then True else if k = 3 then ∀ x, N.offs[i]? = some x → OfOK N x else if k = 4 then ∀ x, N.lines[i]? = some x → LiOK N x else ∀ x, N.classes[i]? = some x → ClaOK x
def eOK (N : Net) (k i : Nat) : Prop := ∀ s, (namesK N k)[i]? = some s → NameOK keys11 s ∧ s ∉ (namesK N k).take i ∧ numK N k i
def KindR (N : Net) (k : Nat) : Prop := (namesK N k).length ≤ limN k ∧ ∀ j, j < min (namesK N k).length (limN k) → eOK N k j
theorem calNm_len (N : Net) : (calNm N).length = N.cals.length := by simp [calNm]
theorem eok_of {α : Type} {k i : Nat} {nm : List ByteArray} {l : List α} {G : α → Prop} (hnm : namesK N k = nm) (hl : nm.length = l.length) (hnum : numK N k i ↔ ∀ x, l[i]? = some x → G x) : eOK N k i ↔ GoodAt nm l G i := by
 unfold eOK GoodAt
 rw [hnm, hnum]
 constructor
 ·intro h x s hx hs
  obtain ⟨h1, h2, h3⟩ := h s hs
  exact ⟨h1, h2, h3 x hx⟩
 ·intro h s hs
  have hil := (List.getElem?_eq_some_iff.1 hs).1
  obtain ⟨h1, h2, h3⟩ := h l[i] s (List.getElem?_eq_getElem (by omega)) hs
  refine ⟨h1, h2, fun x hx => ?_⟩
  rw [List.getElem?_eq_getElem (by omega)] at hx
  cases hx
  exact h3
theorem kindR_of {α : Type} {k : Nat} {nm : List ByteArray} {l : List α} {G : α → Prop} (hnm : namesK N k = nm) (hl : nm.length = l.length) (hnum : ∀ i, numK N k i ↔ ∀ x, l[i]? = some x → G x) : KindR N k ↔ KindOK keys11 (limN k) nm l G := by
 rw [kind_iff hl]
 unfold KindR
 rw [hnm, hl]
 constructor
 ·rintro ⟨h1, h2⟩
  exact ⟨h1, fun j hj => (eok_of hnm hl (hnum j)).1 (h2 j hj)⟩
 ·rintro ⟨h1, h2⟩
  exact ⟨h1, fun j hj => (eok_of hnm hl (hnum j)).2 (h2 j hj)⟩
theorem cons_iff : ConsOK keys11 N ↔ N.names.length = N.cals.length ∧ ∀ k, 1 ≤ k → k ≤ 5 → KindR N k := by
 have k1 : KindR N 1 ↔ KindOK keys11 6 (calNm N) N.cals CalOK := kindR_of rfl (calNm_len N) fun i => Iff.rfl
 have k2 : KindR N 2 ↔ KindOK keys11 6 N.ops N.ops (fun _ => True) := kindR_of rfl rfl fun i => ⟨fun _ _ _ => trivial, fun _ => trivial⟩
 have k3 : KindR N 3 ↔ KindOK keys11 12 (N.offs.map (·.name)) N.offs (OfOK N) := kindR_of rfl (List.length_map _) fun i => Iff.rfl
 have k4 : KindR N 4 ↔ KindOK keys11 40 (N.lines.map (·.name)) N.lines (LiOK N) := kindR_of rfl (List.length_map _) fun i => Iff.rfl
 have k5 : KindR N 5 ↔ KindOK keys11 4 (N.classes.map (·.name)) N.classes ClaOK := kindR_of rfl (List.length_map _) fun i => Iff.rfl
 constructor
 ·intro h
  refine ⟨h.len, fun k h1 h5 => ?_⟩
  have : k = 1 ∨ k = 2 ∨ k = 3 ∨ k = 4 ∨ k = 5 := by omega
  rcases this with rfl | rfl | rfl | rfl | rfl
  ·rw [k1, calNm_eq h.len]; exact h.cals
  ·exact k2.2 h.ops
  ·exact k3.2 h.offs
  ·exact k4.2 h.lines
  ·exact k5.2 h.classes
 ·rintro ⟨h1, h2⟩
  have q1 := k1.1 (h2 1 (by omega) (by omega))
  rw [calNm_eq h1] at q1
  exact ⟨h1, q1, k2.1 (h2 2 (by omega) (by omega)), k3.1 (h2 3 (by omega) (by omega)), k4.1 (h2 4 (by omega) (by omega)), k5.1 (h2 5 (by omega) (by omega))⟩
structure FewN (N : Net) : Prop where
 c : N.cals.length ≤ 100
 n : N.names.length ≤ 100
 o : N.ops.length ≤ 100
 f : N.offs.length ≤ 100
 l : N.lines.length ≤ 100
 k : N.classes.length ≤ 100
theorem FewN.names (h : FewN N) (k : Nat) : (namesK N k).length ≤ 100 := by
 have h1 := h.c
 have h2 := h.o
 have h3 := h.f
 have h4 := h.l
 have h5 := h.k
 have := calNm_len N
 unfold namesK
 split
 ·omega
 split
 ·omega
 split
 ·rw [List.length_map]; omega
 split <;> rw [List.length_map] <;> omega
end Go.Proofs.YtnjknkgomhmlfaaGreatDoor
namespace Go.Proofs.YtnjknkgomhmlfaaGreatDoor
open Go.PF Go.RowKit Go.Ord
attribute [local irreducible] TW CW KW DW
variable {w : World} {v : NV} {N : Net}
structure StrRow (W : World) (b : Nat) (v : Value) (l : List ByteArray) : Prop where
 own : OwnS W 9 1 v l.length (l.map Value.string)
 lb : ∀ g, v.ownBlock = some g → b ≤ g
theorem StrRow.below {W W' : World} {b : Nat} {v : Value} {l : List ByteArray} (h : StrRow W b v l) (hb : Below W.heap.size W W') : StrRow W' b v l := ⟨h.own.below hb, h.lb⟩
theorem StrRow.form {W : World} {b : Nat} {v : Value} {l : List ByteArray} (h : StrRow W b v l) : ∃ A c, v = .slice A l.length c := by
 obtain ⟨A, c, h1, _⟩ := h.own.form
 exact ⟨A, c, h1⟩
theorem StrRow.at {W : World} {b : Nat} {A : Option Addr} {c i : Nat} {l : List ByteArray} {s : ByteArray} (h : StrRow W b (.slice A l.length c) l) (hs : l[i]? = some s) : ∃ g, A = some ⟨g, 0, none⟩ ∧ W.cell? (Addr.add ⟨g, 0, none⟩ ((i : Int).toNat * 1)) = some (.string s) := by
 have hil := (List.getElem?_eq_some_iff.1 hs).1
 obtain ⟨g, rfl⟩ := h.own.addr (by simp; omega)
 refine ⟨g, rfl, ?_⟩
 rw [Nat.mul_one, Int.toNat_natCast]
 exact h.own.cell1 (by rw [List.getElem?_map, hs]; rfl)
theorem StrRow.app {W W1 W' : World} {b : Nat} {v v' : Value} {l : List ByteArray} {s : ByteArray} (h : StrRow W b v l) (hO : OwnS W' 9 1 v' (l.length + 1) (l.map Value.string ++ [.string s])) (hn : v'.ownBlock = v.ownBlock ∨ v'.ownBlock = some W1.heap.size) (hb : b ≤ W1.heap.size) : StrRow W' b v' (l ++ [s]) := by
 refine ⟨?_, new_own hn h.lb hb⟩
 rw [List.length_append, List.map_append]
 exact hO
theorem names1_c (hN : NetAt w v N) (hf : FewN N) : Gives Tryz.prog 66 #[.agg v.cells.toArray, .int .i64 1] w fun u w' => Below w.heap.size w w' ∧ StrRow w' w.heap.size u (calNm N) := by
 have hform := NetIn.form hN
 obtain ⟨vc, vn, vo, vf, vl, vk⟩ := v
 obtain ⟨⟨A1, c1, e1⟩, ⟨A2, c2, e2⟩, ⟨A3, c3, e3⟩, ⟨A4, c4, e4⟩, ⟨A5, c5, e5⟩, ⟨A6, c6, e6⟩⟩ := id hform
 dsimp only at e1 e2 e3 e4 e5 e6
 subst e1 e2 e3 e4 e5 e6
 have qc := hf.c
 refine gv Tryz.func66 Tryz.ntmps66 ?_
 refine rnT ?_
 refine TW.box rfl rfl rfl rfl ?_
 rintro g1 w1 f1
 refine rnT ?_
 refine CW.pk [0, 1, 2, 4, 5, 11, 12] rfl ?_
 have hB1 := f1.blk
 have hN1 := net_step hN f1.below
 have hb01 := f1.below.size
 refine CW.condP rfl (fun h1 => ?_) (fun n1 => ?_)
 ·refine rnT ?_
  refine CW.pk [0, 1, 2, 4, 5, 6, 11] rfl ?_
  refine CW.loopS (fun x : Nat × Value => [(2, none, .pointer (some ⟨g1, 0, none⟩)), (5, none, x.2), (6, none, .int .i64 (x.1 : Int))])
   (fun x W => x.1 ≤ N.cals.length ∧ Below w1.heap.size w1 W ∧ StrRow W w1.heap.size x.2 ((calNm N).take x.1)) (fun x => N.cals.length - x.1) (0, .slice none 0 0) [2, 5, 6] ⟨Nat.zero_le _, Below.refl _ _, ⟨OwnS.nil _ _ _, fun g hg => by simp [Value.ownBlock] at hg⟩⟩ rfl ?_
  rintro ⟨i, lv⟩ W ⟨hi, hB, hR⟩
  dsimp only at hi hR
  have hlen : (calNm N).length = N.cals.length := calNm_len N
  have hti : ((calNm N).take i).length = i := by rw [List.length_take]; omega
  have hBW := hB1.next hB
  have hbW := hB.size
  obtain ⟨VA, vcap, rfl⟩ := hR.form
  refine rnT ?_
  refine TW.ld rfl (hBW.fld rfl) ?_
  refine rnT ?_
  refine CW.pk [2, 5, 6, 18] rfl ?_
  refine CW.condP rfl (fun hlt => ?_) (fun hge => ?_)
  ·have hcel : ∀ x, N.names[i]? = some x → ∃ ad, A2 = some ad ∧ W.cell? (ad.add ((i : Int).toNat * 1)) = some (.string x) := fun x hx => by
    have hnW := hN1.n.below hB
    obtain ⟨ad, rfl⟩ := hnW.addr (by have := (List.getElem?_eq_some_iff.1 hx).1; omega)
    exact ⟨ad, rfl, hnW.getT hx⟩
   refine rnT ?_
   refine TW.ld rfl (hBW.fld rfl) ?_
   refine rnT ?_
   refine CW.pk [2, 5, 6, 25] rfl ?_
   refine CW.condP rfl (fun hin => ?_) (fun hout => ?_)
   ·obtain ⟨x, hx, _⟩ := getx (l := N.names) (k := i) (by omega)
    have hnm : (calNm N)[i]? = some x := by
     unfold calNm
     rw [List.getElem?_map, List.getElem?_range (by omega)]
     simp [List.getD_eq_getElem?_getD, hx]
    obtain ⟨ad, rfl, hxc⟩ := hcel x hx
    refine rnT ?_
    refine TW.ld rfl (hBW.fld rfl) ?_
    refine rnT ?_
    refine TW.ld rfl (hxc) ?_
    refine TW.buildSlice 9 _ rfl rfl rfl eo23 (Args.cons rfl ct Args.nil) rfl rfl rfl rfl rfl ?_
    rintro g5 w5 f5
    have hR5 := hR.below f5.below
    have hb5 := f5.below.size
    refine TW.append [.string x] rfl rfl go23 rfl hR5.own rfl rfl (fun j u hj => ⟨_, rfl, f5.blk.fld hj⟩) (fun u hu => by simp at hu; subst hu; rfl) (by omega) (by omega) ?_
    rintro lv' w6 o6 g6 n6
    refine rnT ?_
    have hW5 := hB.step f5.below
    have hR6 : StrRow w6 w1.heap.size lv' ((calNm N).take (i + 1)) := by
     rw [List.take_add_one, hnm]
     exact hR5.app o6 n6 (by omega)
    refine KW.round (i + 1, lv') [2, 5, 6] rfl ⟨by show i + 1 ≤ N.cals.length; omega, hW5.grown g6 hW5.size (fun q hq => hR.lb q hq), hR6⟩ (by show N.cals.length - (i + 1) < N.cals.length - i; omega)
   ·have hnm : (calNm N)[i]? = some ⟨#[]⟩ := by
     unfold calNm
     rw [List.getElem?_map, List.getElem?_range (by omega)]
     simp [List.getD_eq_getElem?_getD, List.getElem?_eq_none (show N.names.length ≤ i by omega)]
    refine rnT ?_
    refine TW.buildSlice 9 _ rfl rfl rfl eo23 (Args.cons rfl ct Args.nil) rfl rfl rfl rfl rfl ?_
    rintro g5 w5 f5
    have hR5 := hR.below f5.below
    have hb5 := f5.below.size
    refine TW.append [.string ⟨#[]⟩] rfl rfl go23 rfl hR5.own rfl rfl (fun j u hj => ⟨_, rfl, f5.blk.fld hj⟩) (fun u hu => by simp at hu; subst hu; rfl) (by omega) (by omega) ?_
    rintro lv' w6 o6 g6 n6
    refine rnT ?_
    have hW5 := hB.step f5.below
    have hR6 : StrRow w6 w1.heap.size lv' ((calNm N).take (i + 1)) := by
     rw [List.take_add_one, hnm]
     exact hR5.app o6 n6 (by omega)
    refine KW.round (i + 1, lv') [2, 5, 6] rfl ⟨by show i + 1 ≤ N.cals.length; omega, hW5.grown g6 hW5.size (fun q hq => hR.lb q hq), hR6⟩ (by show N.cals.length - (i + 1) < N.cals.length - i; omega)
  ·have ht : (calNm N).take i = calNm N := List.take_of_length_le (by omega)
   have hR' : StrRow W w.heap.size (.slice VA ((calNm N).take i).length vcap) (calNm N) := ⟨by
    have h9 := hR.own
    rw [ht] at h9 ⊢
    exact h9, fun g hg => Nat.le_trans hb01 (hR.lb g hg)⟩
   refine rnT ?_
   refine ret1 Tryz.results66 rfl (⟨f1.below.step hB, hR'⟩)
 ·exact absurd (by decide) n1
theorem names2_c (hN : NetAt w v N) (hf : FewN N) : Gives Tryz.prog 66 #[.agg v.cells.toArray, .int .i64 2] w fun u w' => Below w.heap.size w w' ∧ StrRow w' w.heap.size u (N.ops) := by
 have hform := NetIn.form hN
 obtain ⟨vc, vn, vo, vf, vl, vk⟩ := v
 obtain ⟨⟨A1, c1, e1⟩, ⟨A2, c2, e2⟩, ⟨A3, c3, e3⟩, ⟨A4, c4, e4⟩, ⟨A5, c5, e5⟩, ⟨A6, c6, e6⟩⟩ := id hform
 dsimp only at e1 e2 e3 e4 e5 e6
 subst e1 e2 e3 e4 e5 e6
 have qo := hf.o
 refine gv Tryz.func66 Tryz.ntmps66 ?_
 refine rnT ?_
 refine TW.box rfl rfl rfl rfl ?_
 rintro g1 w1 f1
 refine rnT ?_
 refine CW.pk [0, 1, 2, 4, 5, 11, 12] rfl ?_
 have hB1 := f1.blk
 have hN1 := net_step hN f1.below
 have hb01 := f1.below.size
 refine CW.condP rfl (fun h1 => ?_) (fun n1 => ?_)
 ·exact absurd h1 (by decide)
 refine rnT ?_
 refine CW.pk [0, 1, 2, 4, 5, 11, 37] rfl ?_
 refine CW.condP rfl (fun h2 => ?_) (fun n2 => ?_)
 ·refine rnT ?_
  refine CW.pk [0, 1, 2, 4, 5, 7, 11] rfl ?_
  refine CW.loopS (fun x : Nat × Value => [(2, none, .pointer (some ⟨g1, 0, none⟩)), (5, none, x.2), (7, none, .int .i64 (x.1 : Int))])
   (fun x W => x.1 ≤ N.ops.length ∧ Below w1.heap.size w1 W ∧ StrRow W w1.heap.size x.2 ((N.ops).take x.1)) (fun x => N.ops.length - x.1) (0, .slice none 0 0) [2, 5, 7] ⟨Nat.zero_le _, Below.refl _ _, ⟨OwnS.nil _ _ _, fun g hg => by simp [Value.ownBlock] at hg⟩⟩ rfl ?_
  rintro ⟨i, lv⟩ W ⟨hi, hB, hR⟩
  dsimp only at hi hR
  have hlen : (N.ops).length = N.ops.length := rfl
  have hti : ((N.ops).take i).length = i := by rw [List.length_take]; omega
  have hBW := hB1.next hB
  have hbW := hB.size
  obtain ⟨VA, vcap, rfl⟩ := hR.form
  refine rnT ?_
  refine TW.ld rfl (hBW.fld rfl) ?_
  refine rnT ?_
  refine CW.pk [2, 5, 7, 43] rfl ?_
  refine CW.condP rfl (fun hlt => ?_) (fun hge => ?_)
  ·obtain ⟨x, hx, _⟩ := getx (l := N.ops) (k := i) (by omega)
   have hnW := hN1.o.below hB
   obtain ⟨ad, rfl⟩ := hnW.addr (by omega)
   obtain ⟨ad', cs, e9, hF9, hrep9, hc9⟩ := hnW.at hx
   cases e9
   obtain ⟨rfl, _⟩ := hrep9
   have hnm : (N.ops)[i]? = some x := by exact hx
   refine rnT ?_
   refine TW.ld rfl (hBW.fld rfl) ?_
   refine rnT ?_
   refine TW.ld rfl (hc9 0 _ rfl) ?_
   refine TW.buildSlice 9 _ rfl rfl rfl eo23 (Args.cons rfl ct Args.nil) rfl rfl rfl rfl rfl ?_
   rintro g5 w5 f5
   have hR5 := hR.below f5.below
   have hb5 := f5.below.size
   refine TW.append [.string x] rfl rfl go23 rfl hR5.own rfl rfl (fun j u hj => ⟨_, rfl, f5.blk.fld hj⟩) (fun u hu => by simp at hu; subst hu; rfl) (by omega) (by omega) ?_
   rintro lv' w6 o6 g6 n6
   refine rnT ?_
   have hW5 := hB.step f5.below
   have hR6 : StrRow w6 w1.heap.size lv' ((N.ops).take (i + 1)) := by
    rw [List.take_add_one, hnm]
    exact hR5.app o6 n6 (by omega)
   refine KW.round (i + 1, lv') [2, 5, 7] rfl ⟨by show i + 1 ≤ N.ops.length; omega, hW5.grown g6 hW5.size (fun q hq => hR.lb q hq), hR6⟩ (by show N.ops.length - (i + 1) < N.ops.length - i; omega)
  ·have ht : (N.ops).take i = N.ops := List.take_of_length_le (by omega)
   have hR' : StrRow W w.heap.size (.slice VA ((N.ops).take i).length vcap) (N.ops) := ⟨by
    have h9 := hR.own
    rw [ht] at h9 ⊢
    exact h9, fun g hg => Nat.le_trans hb01 (hR.lb g hg)⟩
   refine rnT ?_
   refine ret1 Tryz.results66 rfl (⟨f1.below.step hB, hR'⟩)
 ·exact absurd (by decide) n2
theorem names3_c (hN : NetAt w v N) (hf : FewN N) : Gives Tryz.prog 66 #[.agg v.cells.toArray, .int .i64 3] w fun u w' => Below w.heap.size w w' ∧ StrRow w' w.heap.size u (N.offs.map (·.name)) := by
 have hform := NetIn.form hN
 obtain ⟨vc, vn, vo, vf, vl, vk⟩ := v
 obtain ⟨⟨A1, c1, e1⟩, ⟨A2, c2, e2⟩, ⟨A3, c3, e3⟩, ⟨A4, c4, e4⟩, ⟨A5, c5, e5⟩, ⟨A6, c6, e6⟩⟩ := id hform
 dsimp only at e1 e2 e3 e4 e5 e6
 subst e1 e2 e3 e4 e5 e6
 have qf := hf.f
 refine gv Tryz.func66 Tryz.ntmps66 ?_
 refine rnT ?_
 refine TW.box rfl rfl rfl rfl ?_
 rintro g1 w1 f1
 refine rnT ?_
 refine CW.pk [0, 1, 2, 4, 5, 11, 12] rfl ?_
 have hB1 := f1.blk
 have hN1 := net_step hN f1.below
 have hb01 := f1.below.size
 refine CW.condP rfl (fun h1 => ?_) (fun n1 => ?_)
 ·exact absurd h1 (by decide)
 refine rnT ?_
 refine CW.pk [0, 1, 2, 4, 5, 11, 37] rfl ?_
 refine CW.condP rfl (fun h2 => ?_) (fun n2 => ?_)
 ·exact absurd h2 (by decide)
 refine rnT ?_
 refine CW.pk [0, 1, 2, 4, 5, 11, 55] rfl ?_
 refine CW.condP rfl (fun h3 => ?_) (fun n3 => ?_)
 ·refine rnT ?_
  refine CW.pk [0, 1, 2, 4, 5, 8, 11] rfl ?_
  refine CW.loopS (fun x : Nat × Value => [(2, none, .pointer (some ⟨g1, 0, none⟩)), (5, none, x.2), (8, none, .int .i64 (x.1 : Int))])
   (fun x W => x.1 ≤ N.offs.length ∧ Below w1.heap.size w1 W ∧ StrRow W w1.heap.size x.2 ((N.offs.map (·.name)).take x.1)) (fun x => N.offs.length - x.1) (0, .slice none 0 0) [2, 5, 8] ⟨Nat.zero_le _, Below.refl _ _, ⟨OwnS.nil _ _ _, fun g hg => by simp [Value.ownBlock] at hg⟩⟩ rfl ?_
  rintro ⟨i, lv⟩ W ⟨hi, hB, hR⟩
  dsimp only at hi hR
  have hlen : (N.offs.map (·.name)).length = N.offs.length := List.length_map _
  have hti : ((N.offs.map (·.name)).take i).length = i := by rw [List.length_take]; omega
  have hBW := hB1.next hB
  have hbW := hB.size
  obtain ⟨VA, vcap, rfl⟩ := hR.form
  refine rnT ?_
  refine TW.ld rfl (hBW.fld rfl) ?_
  refine rnT ?_
  refine CW.pk [2, 5, 8, 61] rfl ?_
  refine CW.condP rfl (fun hlt => ?_) (fun hge => ?_)
  ·obtain ⟨x, hx, _⟩ := getx (l := N.offs) (k := i) (by omega)
   have hnW := hN1.f.below hB
   obtain ⟨ad, rfl⟩ := hnW.addr (by omega)
   obtain ⟨ad', cs, e9, hF9, hrep9, hc9⟩ := hnW.at hx
   cases e9
   obtain ⟨uv, rfl, _⟩ := hrep9
   have hnm : (N.offs.map (·.name))[i]? = some x.name := by rw [List.getElem?_map, hx]; rfl
   refine rnT ?_
   refine TW.ld rfl (hBW.fld rfl) ?_
   refine rnT ?_
   refine TW.ld rfl (hc9 0 _ rfl) ?_
   refine TW.buildSlice 9 _ rfl rfl rfl eo23 (Args.cons rfl ct Args.nil) rfl rfl rfl rfl rfl ?_
   rintro g5 w5 f5
   have hR5 := hR.below f5.below
   have hb5 := f5.below.size
   refine TW.append [.string x.name] rfl rfl go23 rfl hR5.own rfl rfl (fun j u hj => ⟨_, rfl, f5.blk.fld hj⟩) (fun u hu => by simp at hu; subst hu; rfl) (by omega) (by omega) ?_
   rintro lv' w6 o6 g6 n6
   refine rnT ?_
   have hW5 := hB.step f5.below
   have hR6 : StrRow w6 w1.heap.size lv' ((N.offs.map (·.name)).take (i + 1)) := by
    rw [List.take_add_one, hnm]
    exact hR5.app o6 n6 (by omega)
   refine KW.round (i + 1, lv') [2, 5, 8] rfl ⟨by show i + 1 ≤ N.offs.length; omega, hW5.grown g6 hW5.size (fun q hq => hR.lb q hq), hR6⟩ (by show N.offs.length - (i + 1) < N.offs.length - i; omega)
  ·have ht : (N.offs.map (·.name)).take i = N.offs.map (·.name) := List.take_of_length_le (by omega)
   have hR' : StrRow W w.heap.size (.slice VA ((N.offs.map (·.name)).take i).length vcap) (N.offs.map (·.name)) := ⟨by
    have h9 := hR.own
    rw [ht] at h9 ⊢
    exact h9, fun g hg => Nat.le_trans hb01 (hR.lb g hg)⟩
   refine rnT ?_
   refine ret1 Tryz.results66 rfl (⟨f1.below.step hB, hR'⟩)
 ·exact absurd (by decide) n3
theorem names4_c (hN : NetAt w v N) (hf : FewN N) : Gives Tryz.prog 66 #[.agg v.cells.toArray, .int .i64 4] w fun u w' => Below w.heap.size w w' ∧ StrRow w' w.heap.size u (N.lines.map (·.name)) := by
 have hform := NetIn.form hN
 obtain ⟨vc, vn, vo, vf, vl, vk⟩ := v
 obtain ⟨⟨A1, c1, e1⟩, ⟨A2, c2, e2⟩, ⟨A3, c3, e3⟩, ⟨A4, c4, e4⟩, ⟨A5, c5, e5⟩, ⟨A6, c6, e6⟩⟩ := id hform
 dsimp only at e1 e2 e3 e4 e5 e6
 subst e1 e2 e3 e4 e5 e6
 have ql := hf.l
 refine gv Tryz.func66 Tryz.ntmps66 ?_
 refine rnT ?_
 refine TW.box rfl rfl rfl rfl ?_
 rintro g1 w1 f1
 refine rnT ?_
 refine CW.pk [0, 1, 2, 4, 5, 11, 12] rfl ?_
 have hB1 := f1.blk
 have hN1 := net_step hN f1.below
 have hb01 := f1.below.size
 refine CW.condP rfl (fun h1 => ?_) (fun n1 => ?_)
 ·exact absurd h1 (by decide)
 refine rnT ?_
 refine CW.pk [0, 1, 2, 4, 5, 11, 37] rfl ?_
 refine CW.condP rfl (fun h2 => ?_) (fun n2 => ?_)
 ·exact absurd h2 (by decide)
 refine rnT ?_
 refine CW.pk [0, 1, 2, 4, 5, 11, 55] rfl ?_
 refine CW.condP rfl (fun h3 => ?_) (fun n3 => ?_)
 ·exact absurd h3 (by decide)
 refine rnT ?_
 refine CW.pk [0, 1, 2, 4, 5, 11, 73] rfl ?_
 refine CW.condP rfl (fun h4 => ?_) (fun n4 => ?_)
 ·refine rnT ?_
  refine CW.pk [0, 1, 2, 4, 5, 9, 11] rfl ?_
  refine CW.loopS (fun x : Nat × Value => [(2, none, .pointer (some ⟨g1, 0, none⟩)), (5, none, x.2), (9, none, .int .i64 (x.1 : Int))])
   (fun x W => x.1 ≤ N.lines.length ∧ Below w1.heap.size w1 W ∧ StrRow W w1.heap.size x.2 ((N.lines.map (·.name)).take x.1)) (fun x => N.lines.length - x.1) (0, .slice none 0 0) [2, 5, 9] ⟨Nat.zero_le _, Below.refl _ _, ⟨OwnS.nil _ _ _, fun g hg => by simp [Value.ownBlock] at hg⟩⟩ rfl ?_
  rintro ⟨i, lv⟩ W ⟨hi, hB, hR⟩
  dsimp only at hi hR
  have hlen : (N.lines.map (·.name)).length = N.lines.length := List.length_map _
  have hti : ((N.lines.map (·.name)).take i).length = i := by rw [List.length_take]; omega
  have hBW := hB1.next hB
  have hbW := hB.size
  obtain ⟨VA, vcap, rfl⟩ := hR.form
  refine rnT ?_
  refine TW.ld rfl (hBW.fld rfl) ?_
  refine rnT ?_
  refine CW.pk [2, 5, 9, 79] rfl ?_
  refine CW.condP rfl (fun hlt => ?_) (fun hge => ?_)
  ·obtain ⟨x, hx, _⟩ := getx (l := N.lines) (k := i) (by omega)
   have hnW := hN1.l.below hB
   obtain ⟨ad, rfl⟩ := hnW.addr (by omega)
   obtain ⟨ad', cs, e9, hF9, hrep9, hc9⟩ := hnW.at hx
   cases e9
   obtain ⟨rfl, _⟩ := hrep9
   have hnm : (N.lines.map (·.name))[i]? = some x.name := by rw [List.getElem?_map, hx]; rfl
   refine rnT ?_
   refine TW.ld rfl (hBW.fld rfl) ?_
   refine rnT ?_
   refine TW.ld rfl (hc9 0 _ rfl) ?_
   refine TW.buildSlice 9 _ rfl rfl rfl eo23 (Args.cons rfl ct Args.nil) rfl rfl rfl rfl rfl ?_
   rintro g5 w5 f5
   have hR5 := hR.below f5.below
   have hb5 := f5.below.size
   refine TW.append [.string x.name] rfl rfl go23 rfl hR5.own rfl rfl (fun j u hj => ⟨_, rfl, f5.blk.fld hj⟩) (fun u hu => by simp at hu; subst hu; rfl) (by omega) (by omega) ?_
   rintro lv' w6 o6 g6 n6
   refine rnT ?_
   have hW5 := hB.step f5.below
   have hR6 : StrRow w6 w1.heap.size lv' ((N.lines.map (·.name)).take (i + 1)) := by
    rw [List.take_add_one, hnm]
    exact hR5.app o6 n6 (by omega)
   refine KW.round (i + 1, lv') [2, 5, 9] rfl ⟨by show i + 1 ≤ N.lines.length; omega, hW5.grown g6 hW5.size (fun q hq => hR.lb q hq), hR6⟩ (by show N.lines.length - (i + 1) < N.lines.length - i; omega)
  ·have ht : (N.lines.map (·.name)).take i = N.lines.map (·.name) := List.take_of_length_le (by omega)
   have hR' : StrRow W w.heap.size (.slice VA ((N.lines.map (·.name)).take i).length vcap) (N.lines.map (·.name)) := ⟨by
    have h9 := hR.own
    rw [ht] at h9 ⊢
    exact h9, fun g hg => Nat.le_trans hb01 (hR.lb g hg)⟩
   refine rnT ?_
   refine ret1 Tryz.results66 rfl (⟨f1.below.step hB, hR'⟩)
 ·exact absurd (by decide) n4
theorem names5_c (hN : NetAt w v N) (hf : FewN N) : Gives Tryz.prog 66 #[.agg v.cells.toArray, .int .i64 5] w fun u w' => Below w.heap.size w w' ∧ StrRow w' w.heap.size u (N.classes.map (·.name)) := by
 have hform := NetIn.form hN
 obtain ⟨vc, vn, vo, vf, vl, vk⟩ := v
 obtain ⟨⟨A1, c1, e1⟩, ⟨A2, c2, e2⟩, ⟨A3, c3, e3⟩, ⟨A4, c4, e4⟩, ⟨A5, c5, e5⟩, ⟨A6, c6, e6⟩⟩ := id hform
 dsimp only at e1 e2 e3 e4 e5 e6
 subst e1 e2 e3 e4 e5 e6
 have qk := hf.k
 refine gv Tryz.func66 Tryz.ntmps66 ?_
 refine rnT ?_
 refine TW.box rfl rfl rfl rfl ?_
 rintro g1 w1 f1
 refine rnT ?_
 refine CW.pk [0, 1, 2, 4, 5, 11, 12] rfl ?_
 have hB1 := f1.blk
 have hN1 := net_step hN f1.below
 have hb01 := f1.below.size
 refine CW.condP rfl (fun h1 => ?_) (fun n1 => ?_)
 ·exact absurd h1 (by decide)
 refine rnT ?_
 refine CW.pk [0, 1, 2, 4, 5, 11, 37] rfl ?_
 refine CW.condP rfl (fun h2 => ?_) (fun n2 => ?_)
 ·exact absurd h2 (by decide)
 refine rnT ?_
 refine CW.pk [0, 1, 2, 4, 5, 11, 55] rfl ?_
 refine CW.condP rfl (fun h3 => ?_) (fun n3 => ?_)
 ·exact absurd h3 (by decide)
 refine rnT ?_
 refine CW.pk [0, 1, 2, 4, 5, 11, 73] rfl ?_
 refine CW.condP rfl (fun h4 => ?_) (fun n4 => ?_)
 ·exact absurd h4 (by decide)
 refine rnT ?_
 refine CW.pk [0, 1, 2, 4, 5, 11, 91] rfl ?_
 refine CW.condP rfl (fun h5 => ?_) (fun n5 => ?_)
 ·refine rnT ?_
  refine CW.pk [0, 1, 2, 4, 5, 10, 11] rfl ?_
  refine CW.loopS (fun x : Nat × Value => [(2, none, .pointer (some ⟨g1, 0, none⟩)), (5, none, x.2), (10, none, .int .i64 (x.1 : Int))])
   (fun x W => x.1 ≤ N.classes.length ∧ Below w1.heap.size w1 W ∧ StrRow W w1.heap.size x.2 ((N.classes.map (·.name)).take x.1)) (fun x => N.classes.length - x.1) (0, .slice none 0 0) [2, 5, 10] ⟨Nat.zero_le _, Below.refl _ _, ⟨OwnS.nil _ _ _, fun g hg => by simp [Value.ownBlock] at hg⟩⟩ rfl ?_
  rintro ⟨i, lv⟩ W ⟨hi, hB, hR⟩
  dsimp only at hi hR
  have hlen : (N.classes.map (·.name)).length = N.classes.length := List.length_map _
  have hti : ((N.classes.map (·.name)).take i).length = i := by rw [List.length_take]; omega
  have hBW := hB1.next hB
  have hbW := hB.size
  obtain ⟨VA, vcap, rfl⟩ := hR.form
  refine rnT ?_
  refine TW.ld rfl (hBW.fld rfl) ?_
  refine rnT ?_
  refine CW.pk [2, 5, 10, 97] rfl ?_
  refine CW.condP rfl (fun hlt => ?_) (fun hge => ?_)
  ·obtain ⟨x, hx, _⟩ := getx (l := N.classes) (k := i) (by omega)
   have hnW := hN1.k.below hB
   obtain ⟨ad, rfl⟩ := hnW.addr (by omega)
   obtain ⟨ad', cs, e9, hF9, hrep9, hc9⟩ := hnW.at hx
   cases e9
   obtain ⟨rfl, _⟩ := hrep9
   have hnm : (N.classes.map (·.name))[i]? = some x.name := by rw [List.getElem?_map, hx]; rfl
   refine rnT ?_
   refine TW.ld rfl (hBW.fld rfl) ?_
   refine rnT ?_
   refine TW.ld rfl (hc9 0 _ rfl) ?_
   refine TW.buildSlice 9 _ rfl rfl rfl eo23 (Args.cons rfl ct Args.nil) rfl rfl rfl rfl rfl ?_
   rintro g5 w5 f5
   have hR5 := hR.below f5.below
   have hb5 := f5.below.size
   refine TW.append [.string x.name] rfl rfl go23 rfl hR5.own rfl rfl (fun j u hj => ⟨_, rfl, f5.blk.fld hj⟩) (fun u hu => by simp at hu; subst hu; rfl) (by omega) (by omega) ?_
   rintro lv' w6 o6 g6 n6
   refine rnT ?_
   have hW5 := hB.step f5.below
   have hR6 : StrRow w6 w1.heap.size lv' ((N.classes.map (·.name)).take (i + 1)) := by
    rw [List.take_add_one, hnm]
    exact hR5.app o6 n6 (by omega)
   refine KW.round (i + 1, lv') [2, 5, 10] rfl ⟨by show i + 1 ≤ N.classes.length; omega, hW5.grown g6 hW5.size (fun q hq => hR.lb q hq), hR6⟩ (by show N.classes.length - (i + 1) < N.classes.length - i; omega)
  ·have ht : (N.classes.map (·.name)).take i = N.classes.map (·.name) := List.take_of_length_le (by omega)
   have hR' : StrRow W w.heap.size (.slice VA ((N.classes.map (·.name)).take i).length vcap) (N.classes.map (·.name)) := ⟨by
    have h9 := hR.own
    rw [ht] at h9 ⊢
    exact h9, fun g hg => Nat.le_trans hb01 (hR.lb g hg)⟩
   refine rnT ?_
   refine ret1 Tryz.results66 rfl (⟨f1.below.step hB, hR'⟩)
 ·exact absurd (by decide) n5
theorem limit_c {k : Nat} : Gives Tryz.prog 151 #[.int .i64 (k : Int)] w fun u w' => Below w.heap.size w w' ∧ u = .int .i64 (limN k : Int) := by
 refine gv Tryz.func151 Tryz.ntmps151 ?_
 refine rnT ?_
 refine CW.pk [0, 2, 3, 4] rfl ?_
 refine CW.condP rfl (fun h3 => ?_) (fun n3 => ?_)
 ·refine rnT ?_
  have : k = 3 := by omega
  subst this
  refine ret1 Tryz.results151 rfl (⟨Below.refl _ _, rfl⟩)
 refine rnT ?_
 refine CW.pk [0, 2, 3, 6] rfl ?_
 refine CW.condP rfl (fun h4 => ?_) (fun n4 => ?_)
 ·refine rnT ?_
  have : k = 4 := by omega
  subst this
  refine ret1 Tryz.results151 rfl (⟨Below.refl _ _, rfl⟩)
 refine rnT ?_
 refine CW.pk [0, 2, 3, 8] rfl ?_
 refine CW.condP rfl (fun h5 => ?_) (fun n5 => ?_)
 ·refine rnT ?_
  have : k = 5 := by omega
  subst this
  refine ret1 Tryz.results151 rfl (⟨Below.refl _ _, rfl⟩)
 refine rnT ?_
 have e : limN k = 6 := by
  unfold limN
  rw [if_neg (by omega), if_neg (by omega), if_neg (by omega)]
 rw [e]
 refine ret1 Tryz.results151 rfl (⟨Below.refl _ _, rfl⟩)
theorem roffice_c {ov : Value} {o : Of} {F : Nat → Prop} (hN : NVform v N) (hf : FewN N) (h : OfIn F w ov o) : Gives Tryz.prog 181 #[.agg v.cells.toArray, .agg (ofV o ov).toArray] w fun x w' => Below w.heap.size w w' ∧ x = .bool (dec (OfOK N o)) := by
 obtain ⟨A, cap, rfl, _⟩ := h.cd.form
 obtain ⟨vc, vn, vo, vf, vl, vk⟩ := v
 obtain ⟨⟨A1, c1, e1⟩, _, ⟨A3, c3, e3⟩, _, _, _⟩ := hN
 dsimp only at e1 e3
 subst e1 e3
 have qc := hf.c
 have qo := hf.o
 refine gv Tryz.func181 Tryz.ntmps181 ?_
 refine rnT ?_
 refine TW.box rfl rfl rfl rfl ?_
 rintro g1 w1 f1
 refine TW.box rfl rfl rfl rfl ?_
 rintro g2 w2 f2
 refine rnT ?_
 refine CW.pk [0, 1, 2, 3, 4, 5] rfl ?_
 have hB1 := f1.blk.next f2.below
 have hB2 := f2.blk
 have b2 := f1.below.step f2.below
 have hcd := h.cd.below b2
 have hcl := h.cd.len.2.2
 refine CW.loopS (fun k : Nat => [(2, none, .pointer (some ⟨g1, 0, none⟩)), (3, none, .pointer (some ⟨g2, 0, none⟩)), (5, none, .int .i64 (k : Int))])
  (fun k W => k ≤ o.codes.length ∧ Below w2.heap.size w2 W ∧ ∀ c ∈ o.codes.take k, CodeOK c) (fun k => o.codes.length - k) 0 [2, 3, 5] ⟨Nat.zero_le _, Below.refl _ _, fun c hc => by simp at hc⟩ rfl ?_
 rintro k W ⟨hk, hBW, hok⟩
 have hcW := hcd.below hBW
 have hB1W := hB1.next hBW
 have hB2W := hB2.next hBW
 refine rnT ?_
 refine TW.ld rfl (hB2W.fld rfl) ?_
 refine rnT ?_
 refine CW.pk [2, 3, 5, 11] rfl ?_
 refine CW.condP rfl (fun hlt => ?_) (fun hge => ?_)
 ·obtain ⟨c, hc, hcm⟩ := getx (l := o.codes) (k := k) (by omega)
  obtain ⟨ad, rfl⟩ := hcW.addr (by omega)
  refine rnT ?_
  refine TW.ld rfl (hB2W.fld rfl) ?_
  refine rnT ?_
  refine TW.ld rfl (hcW.getT hc) ?_
  refine TW.cl en191 rfl (rcode_c) ?_
  rintro y5 w5 ⟨d5, rfl⟩
  refine rnT ?_
  refine CW.pk [2, 3, 5, 6, 21] rfl ?_
  refine CW.cond rfl (fun hb1 => ?_) (fun hb2 => ?_)
  ·refine rnT ?_
   refine ret1 Tryz.results181 rfl (⟨(b2.step hBW).step d5, ?_⟩)
   rw [dec_neg fun h => ?_]
   rw [dec_pos (h.codes c hcm)] at hb1
   simp at hb1
  ·refine rnT ?_
   refine KW.round (k + 1) [2, 3, 5] rfl ⟨by omega, hBW.step d5, fun z hz => ?_⟩ (by omega)
   rw [List.take_add_one, hc] at hz
   rcases List.mem_append.1 hz with hz | hz
   ·exact hok z hz
   ·simp at hz
    subst hz
    exact dec_iff.1 (by simpa using hb2)
 ·rw [List.take_of_length_le (by omega)] at hok
  refine rnT ?_
  refine TW.ld rfl (hB2W.fld rfl) ?_
  refine rnT ?_
  refine TW.ld rfl (hB2W.fld rfl) ?_
  refine rnT ?_
  refine TW.ld rfl (hB1W.fld rfl) ?_
  refine rnT ?_
  refine TW.callF (cap := []) rfl rfl en183 rfl ct (Args.cons rfl id (Args.cons rfl ct (Args.cons rfl id Args.nil))) (fun _ => between_c) ?_
  rintro w5 d5
  refine rnT ?_
  have hB15 := hB1W.next d5
  have hB25 := hB2W.next d5
  refine TW.ld rfl (hB25.fld rfl) ?_
  refine rnT ?_
  refine TW.ld rfl (hB15.fld rfl) ?_
  refine rnT ?_
  refine TW.callF (cap := []) rfl rfl en183 rfl ct (Args.cons rfl id (Args.cons rfl ct (Args.cons rfl id Args.nil))) (fun _ => between_c) ?_
  rintro w6 d6
  refine rnT ?_
  have hB26 := hB25.next d6
  refine TW.ld rfl (hB26.fld rfl) ?_
  refine TW.callF (cap := []) rfl rfl en183 rfl ct (Args.cons rfl id (Args.cons rfl ct (Args.cons rfl ct Args.nil))) (fun _ => between_c) ?_
  rintro w7 d7
  refine rnT ?_
  have hB27 := hB26.next d7
  refine TW.ld rfl (hB27.fld rfl) ?_
  refine TW.callF (cap := []) rfl rfl en183 rfl ct (Args.cons rfl id (Args.cons rfl ct (Args.cons rfl ct Args.nil))) (fun _ => between_c) ?_
  rintro w8 d8
  refine rnT ?_
  have hB28 := hB27.next d8
  refine TW.ld rfl (hB28.fld rfl) ?_
  refine TW.callF (cap := []) rfl rfl en183 rfl ct (Args.cons rfl id (Args.cons rfl ct (Args.cons rfl ct Args.nil))) (fun _ => between_c) ?_
  rintro w9 d9
  refine rnT ?_
  refine ret1 Tryz.results181 rfl (⟨(((((b2.step hBW).step d5).step d6).step d7).step d8).step d9, ?_⟩)
  by_cases hq : OfOK N o
  ·rw [dec_pos hq]
   have q1 := hq.p1
   have q2 := hq.p2
   have q3 := hq.q1
   have q4 := hq.q2
   have q5 := hq.m1
   have q6 := hq.m2
   have q7 := hq.o1
   have q8 := hq.o2
   have q9 := hq.c1
   have qa := hq.c2
   have qb := hq.few
   simp [q1, q2, q3, q4, q5, q6, q7, q9]
   omega
  ·rw [dec_neg hq]
   have : ¬ ((((((o.codes.length : Int) ≤ 20 ∧ 0 ≤ o.op ∧ o.op ≤ (N.ops.length : Int) - 1) ∧ 0 ≤ o.cal ∧ o.cal ≤ (N.cals.length : Int) - 1) ∧ 2 ≤ o.pock ∧ o.pock ≤ 64) ∧ 1 ≤ o.pass ∧ o.pass ≤ 4) ∧ 1 ≤ o.mins ∧ o.mins ≤ 240) := fun ⟨⟨⟨⟨⟨h1, h2, h3⟩, h4, h5⟩, h6, h7⟩, h8, h9⟩, ha, hb⟩ => hq ⟨h2, by omega, h4, by omega, by omega, hok, h6, h7, h8, h9, ha, hb⟩
   congr 1
   simp only [Bool.and_eq_false_iff, decide_eq_false_iff_not]
   omega
theorem rline_c {l : Li} (hN : NVform v N) (hf : FewN N) : Gives Tryz.prog 182 #[.agg v.cells.toArray, .agg (liV l).toArray] w fun x w' => Below w.heap.size w w' ∧ x = .bool (dec (LiOK N l)) := by
 obtain ⟨vc, vn, vo, vf, vl, vk⟩ := v
 obtain ⟨_, _, _, ⟨A4, c4, e4⟩, _, _⟩ := hN
 dsimp only at e4
 subst e4
 have qf := hf.f
 refine gv Tryz.func182 Tryz.ntmps182 ?_
 refine rnT ?_
 refine TW.box rfl rfl rfl rfl ?_
 rintro g1 w1 f1
 refine TW.box rfl rfl rfl rfl ?_
 rintro g2 w2 f2
 refine rnT ?_
 have hB1 := f1.blk.next f2.below
 have hB2 := f2.blk
 have b2 := f1.below.step f2.below
 refine TW.ld rfl (hB1.fld rfl) ?_
 refine rnT ?_
 refine TW.ld rfl (hB2.fld rfl) ?_
 refine rnT ?_
 refine TW.cl en183 rfl (between_c) ?_
 rintro y3 w3 ⟨d3, rfl⟩
 have hB23 := hB2.next d3
 refine rnT ?_
 refine TW.ld rfl (hB23.fld rfl) ?_
 refine rnT ?_
 refine TW.callF (cap := []) rfl rfl en183 rfl ct (Args.cons rfl id (Args.cons rfl ct (Args.cons rfl id Args.nil))) (fun _ => between_c) ?_
 rintro w4 d4
 refine rnT ?_
 have hB24 := hB23.next d4
 have b4 := (b2.step d3).step d4
 refine TW.ld rfl (hB24.fld rfl) ?_
 refine rnT ?_
 refine TW.ld rfl (hB24.fld rfl) ?_
 refine rnT ?_
 refine TW.ld rfl (hB24.fld rfl) ?_
 refine TW.callF (cap := []) rfl rfl en183 rfl ct (Args.cons rfl id (Args.cons rfl ct (Args.cons rfl ct Args.nil))) (fun _ => between_c) ?_
 rintro w5 d5
 refine rnT ?_
 have hB25 := hB24.next d5
 refine TW.ld rfl (hB25.fld rfl) ?_
 refine TW.callF (cap := []) rfl rfl en183 rfl ct (Args.cons rfl id (Args.cons rfl ct (Args.cons rfl ct Args.nil))) (fun _ => between_c) ?_
 rintro w6 d6
 refine rnT ?_
 have hB26 := hB25.next d6
 refine TW.ld rfl (hB26.fld rfl) ?_
 refine TW.callF (cap := []) rfl rfl en183 rfl ct (Args.cons rfl id (Args.cons rfl ct (Args.cons rfl ct Args.nil))) (fun _ => between_c) ?_
 rintro w7 d7
 refine rnT ?_
 refine ret1 Tryz.results182 rfl (⟨((b4.step d5).step d6).step d7, ?_⟩)
 by_cases hq : LiOK N l
 ·rw [dec_pos hq]
  have q1 := hq.a1
  have q2 := hq.a2
  have q3 := hq.r1
  have q4 := hq.r2
  have q5 := hq.d1
  have q6 := hq.d2
  have q7 := hq.f1
  have q8 := hq.f2
  have q9 := hq.t1
  have qa := hq.t2
  have qb := hq.ne
  simp [q1, q2, q3, q4, q5, q6, q7, q9, qb]
  omega
 ·rw [dec_neg hq]
  have : ¬ ((((((0 ≤ l.frm ∧ l.frm ≤ (N.offs.length : Int) - 1) ∧ 0 ≤ l.to ∧ l.to ≤ (N.offs.length : Int) - 1) ∧ l.frm ≠ l.to) ∧ 0 ≤ l.at_ ∧ l.at_ ≤ 1439) ∧ 1 ≤ l.trav ∧ l.trav ≤ 5000) ∧ 1 ≤ l.load ∧ l.load ≤ 40) := fun ⟨⟨⟨⟨⟨⟨h1, h2⟩, h3, h4⟩, h5⟩, h6, h7⟩, h8, h9⟩, ha, hb⟩ => hq ⟨h1, by omega, h3, by omega, h5, h6, h7, h8, h9, ha, hb⟩
  congr 1
  simp only [Bool.and_eq_false_iff, decide_eq_false_iff_not]
  omega
end Go.Proofs.YtnjknkgomhmlfaaGreatDoor
