import Derived.Test.YtegmhdabedgloaaZb
import Derived.Test.YtegmhdabedgloaaCn
namespace Go.Proofs.Ytegmhdabedgloaa
open Go.PF Go.RowKit

theorem root_n {w : World} {v : Value} {l : List Box} (i : Nat) (hl : SB w v l) (hv : Valid l) (hi : i < l.length) :
    Gives Try.prog 14 #[v, .int .i64 (i : Int)] w fun u w' => Below w.heap.size w w' ∧ u = .int .i64 ((root l i : Nat) : Int) := by
  have := root_c (i : Int) sbF (nat_i64 hi (by have := hv.few; omega)) hl
  rwa [rootI_eq hv hi] at this
/-- what reads as these ints -/
def IntsAt (xs : List Nat) (v : Value) (w : World) : Prop := SL intT (fun _ => True) w v (xs.map fun (k : Nat) => (k : Int))
theorem IntsAt.mono (xs : List Nat) : Ent.mono (.pr (IntsAt xs)) := fun _ _ _ hb h => SL.below h hb

set_option maxRecDepth 20000 in
theorem contents_law {w : World} {v : Value} {l : List Box} (x y : Int) (hx0 : 0 ≤ x) (hx1 : x ≤ 255) (hy0 : 0 ≤ y) (hy1 : y ≤ 255) (hl : SB w v l) : Gives Try.prog 3 #[v, .int .u8 x, .int .u8 y] w fun u w' => Below w.heap.size w w' ∧ u = .bool true := by
  obtain ⟨A, cap, rfl⟩ := sb_form hl
  refine gives_of (vs := [.slice A l.length cap, .int .u8 x, .int .u8 y]) [(0, none, _), (1, none, _), (2, none, _)] Try.func3 rfl Try.ntmps3 rfl rfl ?_
  refine CW.seq (CW.region ?_)
  refine TW.assign rfl rfl rfl ct ?_
  refine TW.nil (KW.pick [0, 1, 2, 6] [(0, _, _), (1, _, _), (2, _, _), (6, _, _)] rfl (KW.then_ ?_))
  refine CW.seq (CW.region ?_)
  refine TW.callF (cap := []) rfl rfl en10 rfl ct Args.nil (fun _ => head_c) ?_
  rintro w0 b0
  refine TW.assign rfl rfl rfl ct ?_
  refine TW.nil (KW.pick [0, 1, 2, 6, 7] [(0, _, _), (1, _, _), (2, _, _), (6, _, _), (7, _, _)] rfl (KW.then_ ?_))
  refine CW.seq (CW.seq (CW.region ?_))
  refine TW.move rfl rfl rfl ct ?_
  have l0 := sb_step hl b0
  refine TW.callF (cap := []) rfl rfl en11 rfl ct (Args.cons rfl ct Args.nil) (fun _ => fine_c l0) ?_
  rintro w1 c1
  refine TW.not rfl rfl rfl ct ?_
  refine TW.nil (KW.pick [0, 1, 2, 6, 7, 17] [(0, _, _), (1, _, _), (2, _, _), (6, _, _), (7, _, _), (17, _, _)] rfl (KW.then_ ?_))
  have b1 := b0.step c1
  have l1 := sb_step l0 c1
  refine CW.cond rfl (fun hf => ?_) (fun ht => ?_)
  · refine CW.seq (CW.region ?_)
    refine TW.move rfl rfl rfl ct ?_
    refine TW.assign rfl rfl rfl ct ?_
    refine TW.nil (KW.pick [0, 1, 2, 6, 7] [(0, _, _), (1, _, _), (2, _, _), (6, _, _), (7, _, _)] rfl (KW.then_ ?_))
    refine CW.ret (KW.thenR ?_)
    refine ret1 Try.results3 rfl (⟨b1, rfl⟩)
  have hok := dec_iff.1 (by simpa using ht)
  obtain ⟨hfew, hpos, hv⟩ := hok
  have hwx := wrap_fits (z := x) (by omega)
  have hwy := wrap_fits (z := y) (by omega)
  have hlen := hv.few
  obtain ⟨an, han⟩ : ∃ an : Nat, IntKind.i64.wrap x % (l.length : Int) = an := ⟨(IntKind.i64.wrap x % (l.length : Int)).toNat, by rw [Int.toNat_of_nonneg (Int.emod_nonneg _ (by omega))]⟩
  have hal : an < l.length := by have := Int.emod_lt_of_pos (IntKind.i64.wrap x) (show (0 : Int) < l.length by omega); omega
  obtain ⟨bn, hbn⟩ : ∃ bn : Nat, IntKind.i64.wrap y % (l.length : Int) = bn := ⟨(IntKind.i64.wrap y % (l.length : Int)).toNat, by rw [Int.toNat_of_nonneg (Int.emod_nonneg _ (by omega))]⟩
  have hbl : bn < l.length := by have := Int.emod_lt_of_pos (IntKind.i64.wrap y) (show (0 : Int) < l.length by omega); omega
  obtain ⟨ba, hba⟩ : ∃ q, l[an]? = some q := ⟨l[an], List.getElem?_eq_getElem hal⟩
  obtain ⟨bb, hbb⟩ : ∃ q, l[bn]? = some q := ⟨l[bn], List.getElem?_eq_getElem hbl⟩
  obtain ⟨ad, hAd, _⟩ := box_at l1 hbb
  subst hAd
  obtain ⟨br, hbr, hr1, hr2⟩ := root_box hv _ (Nat.le_refl _) hba
  have hrl := (List.getElem?_eq_some_iff.1 hbr).1
  have hup := inside_up hv (b := bn) hba
  have hria := root_iff hv hal hbr hr1
  have hrib := root_iff hv hbl hbr hr1
  refine CW.skip (KW.then_ (CW.seq (CW.region ?_)))
  refine TW.move rfl rfl rfl ct ?_
  refine TW.conv rfl rfl rfl Try.underlying3 rfl ct ?_
  refine TW.move rfl rfl rfl ct ?_
  refine TW.lenSlice rfl rfl Try.underlying22 rfl ct ?_
  refine TW.rem rfl rfl rfl ct rfl ct (fun _ => by (try dsimp only); omega) ?_
  refine TW.assign rfl rfl rfl ct ?_
  refine TW.nil (KW.pick [0, 1, 2, 6, 7, 8] [(0, _, _), (1, _, _), (2, _, _), (6, _, _), (7, _, _), (8, _, _)] rfl (KW.then_ ?_))
  refine CW.seq (CW.region ?_)
  refine TW.move rfl rfl rfl ct ?_
  refine TW.conv rfl rfl rfl Try.underlying3 rfl ct ?_
  refine TW.move rfl rfl rfl ct ?_
  refine TW.lenSlice rfl rfl Try.underlying22 rfl ct ?_
  refine TW.rem rfl rfl rfl ct rfl ct (fun _ => by (try dsimp only); omega) ?_
  refine TW.assign rfl rfl rfl ct ?_
  refine TW.nil (KW.pick [0, 1, 2, 6, 7, 8, 9] [(0, _, _), (1, _, _), (2, _, _), (6, _, _), (7, _, _), (8, _, _), (9, _, _)] rfl (KW.then_ ?_))
  refine CW.seq (CW.region ?_)
  refine TW.move rfl rfl rfl ct ?_
  refine TW.move rfl rfl rfl ct ?_
  rw [han, hbn]
  refine TW.call0 (cap := []) rfl rfl en12 rfl (Args.cons rfl ct (Args.cons rfl ct Args.nil)) (inside_n bn l1 hv hbl) ?_
  rintro u w2 ⟨c2, hu⟩
  have b2 := b1.step c2
  have l2 := sb_step l1 c2
  obtain ⟨Au, cu, rfl, _⟩ := id hu
  have hlm : ((inside l bn).map fun (k : Nat) => (k : Int)).length = (inside l bn).length := List.length_map ..
  have hil : (inside l bn).length ≤ l.length := by
    have : (inside l bn).length ≤ (List.range l.length).length := List.length_filter_le _ _
    simpa using this
  refine TW.assign rfl rfl rfl ct ?_
  refine TW.nil (KW.pick [0, 1, 2, 6, 7, 8, 9, 10] [(0, _, _), (1, _, _), (2, _, _), (6, _, _), (7, _, _), (8, _, _), (9, _, _), (10, _, _)] rfl (KW.then_ ?_))
  refine CW.seq (CW.seq (CW.region ?_))
  refine TW.assign rfl rfl rfl ct ?_
  refine TW.nil (KW.pick [0, 1, 2, 6, 7, 8, 9, 10, 11] [(0, _, _), (1, _, _), (2, _, _), (6, _, _), (7, _, _), (8, _, _), (9, _, _), (10, _, _), (11, _, _)] rfl (KW.then_ ?_))
  refine CW.block ?_
  refine CW.loopS (fun k : Nat => [(0, none, .slice (some ad) l.length cap), (7, none, .bool true), (8, none, .int .i64 (an : Int)), (9, none, .int .i64 (bn : Int)), (10, none, .slice Au ((inside l bn).map fun (k : Nat) => (k : Int)).length cu), (11, none, .int .i64 ((k : Int) + 1))])
    (fun k W => k ≤ (inside l bn).length ∧ Below w2.heap.size w2 W) (fun k => (inside l bn).length - k) 0 [0, 7, 8, 9, 10, 11] ⟨by omega, Below.refl _ _⟩ rfl ?_
  rintro k W ⟨hk, hbW⟩
  have lW := sb_step l2 hbW
  have huW := hu.below hbW
  refine CW.seq (CW.seq (CW.region ?_))
  refine TW.move rfl rfl rfl ct ?_
  refine TW.move rfl rfl rfl ct ?_
  refine TW.lenSlice rfl rfl Try.underlying25 rfl ct ?_
  refine TW.lss rfl rfl rfl ct rfl ct ?_
  refine TW.nil (KW.pick [0, 7, 8, 9, 10, 11, 35] [(0, _, _), (7, _, _), (8, _, _), (9, _, _), (10, _, _), (11, _, _), (35, _, _)] rfl (KW.then_ ?_))
  refine CW.condP rfl (fun hlt => ?_) (fun hge => ?_)
  · simp only [List.length_map] at hlt
    obtain ⟨x1, hx1⟩ : ∃ x, (inside l bn)[k]? = some x := ⟨(inside l bn)[k]'(by omega), List.getElem?_eq_getElem (by omega)⟩
    obtain ⟨x2, hx2⟩ : ∃ x, (inside l bn)[k + 1]? = some x := ⟨(inside l bn)[k + 1]'(by omega), List.getElem?_eq_getElem (by omega)⟩
    have hxx := inside_sorted l bn hx1 hx2
    obtain ⟨a, ha, hcell1, _⟩ := huW.int (i := k) (x := (x1 : Int)) (by simp [hx1])
    subst ha
    obtain ⟨a', ha', hcell2, _⟩ := huW.int (i := k + 1) (x := (x2 : Int)) (by simp [hx2])
    cases ha'
    have e1 : (((k : Int) + 1 - 1).toNat) = k := by omega
    have e2 : (((k : Int) + 1).toNat) = k + 1 := by omega
    refine CW.skip (KW.then_ (CW.seq (CW.block (CW.seq (CW.draw mixed (by kernel_rfl) ?_)))))
    refine DW.move rfl rfl rfl ct ?_
    refine DW.move rfl rfl rfl ct ?_
    refine DW.sub rfl rfl rfl ct rfl ct (fun _ => by (try dsimp only); omega) ?_
    refine DW.indexAddr rfl rfl Try.underlying25 sz3 rfl ct rfl ct (fun _ => by (try dsimp only); omega) ?_
    refine DW.load rfl rfl one3 rfl ct (fun _ => (by rw [e1]; exact hcell1)) ?_
    refine DW.move rfl rfl rfl ct ?_
    refine DW.move rfl rfl rfl ct ?_
    refine DW.indexAddr rfl rfl Try.underlying25 sz3 rfl ct rfl ct (fun _ => by (try dsimp only); omega) ?_
    refine DW.load rfl rfl one3 rfl ct (fun _ => (by rw [e2]; exact hcell2)) ?_
    refine DW.geq rfl rfl rfl ct rfl ct ?_
    refine DW.nil (DW.fin [0, 7, 8, 9, 10, 11, 47] [(0, _, _), (7, _, _), (8, _, _), (9, _, _), (10, _, _), (11, _, _), (47, _, _)] rfl (fun w3 c3 => KW.then_ ?_))
    refine CW.cond rfl (fun hbad => ?_) (fun hgood => ?_)
    · exfalso
      simp at hbad
      omega
    refine CW.skip (KW.blockN (KW.then_ (CW.region ?_)))
    refine TW.move rfl rfl rfl ct ?_
    refine TW.add rfl rfl rfl ct rfl ct (fun _ => by (try dsimp only); omega) ?_
    refine TW.assign rfl rfl rfl ct ?_
    refine TW.nil (KW.pick [0, 7, 8, 9, 10, 11] [(0, _, _), (7, _, _), (8, _, _), (9, _, _), (10, _, _), (11, _, _)] rfl ?_)
    refine KW.round (k + 1) [0, 7, 8, 9, 10, 11] rfl ⟨by omega, hbW.step c3⟩ (by omega)
  · have bW := b2.step hbW
    refine CW.exit (KW.thenX (KW.thenX (KW.blockX (KW.then_ (CW.seq (CW.region ?_))))))
    refine TW.move rfl rfl rfl ct ?_
    refine TW.move rfl rfl rfl ct ?_
    refine TW.indexAddr rfl rfl Try.underlying22 sz28 rfl ct rfl ct (fun _ => by (try dsimp only); omega) ?_
    refine TW.fieldAddr rfl rfl fo28_2 rfl ct ?_
    refine TW.load rfl rfl one3 rfl ct (fun _ => box_cell lW hba rfl) ?_
    refine TW.assign rfl rfl rfl ct ?_
    refine TW.nil (KW.pick [0, 7, 8, 9, 10, 11, 12] [(0, _, _), (7, _, _), (8, _, _), (9, _, _), (10, _, _), (11, _, _), (12, _, _)] rfl (KW.then_ ?_))
    refine CW.seq (CW.seq (CW.draw mixed (by kernel_rfl) ?_))
    refine DW.move rfl rfl rfl ct ?_
    refine DW.move rfl rfl rfl ct ?_
    refine DW.call (.ex (.bool (decide (an ∈ inside l bn)))) trivial rfl rfl en13 rfl ct (DArgs.cons rfl ct (DArgs.cons rfl ct DArgs.nil)) (fun _ w' hb' => has_n an (huW.below hb')) ?_
    refine DW.move rfl rfl rfl ct ?_
    refine DW.geq rfl rfl rfl ct rfl ct ?_
    refine DW.move rfl rfl rfl ct ?_
    refine DW.move rfl rfl rfl ct ?_
    refine DW.move rfl rfl rfl ct ?_
    refine DW.eql rfl rfl rfl id rfl id ?_
    refine DW.move rfl rfl rfl id ?_
    refine DW.move rfl rfl rfl ct ?_
    refine DW.move rfl rfl rfl ct ?_
    refine DW.call (.ex (.bool (decide (ba.parent ∈ (inside l bn).map fun (k : Nat) => (k : Int))))) trivial rfl rfl en13 rfl ct (DArgs.cons rfl id (DArgs.cons rfl id DArgs.nil)) (fun _ w' hb' => lhas_c ba.parent (huW.below hb')) ?_
    refine DW.pickOr rfl rfl rfl id rfl pOr1 ?_
    refine DW.pickAnd rfl rfl rfl ct rfl pAnd0 ?_
    refine DW.neqB rfl rfl Try.underlying4 rfl ct rfl ct ?_
    refine DW.move rfl rfl rfl ct ?_
    refine DW.move rfl rfl rfl ct ?_
    refine DW.move rfl rfl rfl ct ?_
    refine DW.call (.ex (.bool (decide (an ∈ inside l bn)))) trivial rfl rfl en13 rfl ct (DArgs.cons rfl id (DArgs.cons rfl id DArgs.nil)) (fun _ w' hb' => has_n an (huW.below hb')) ?_
    refine DW.move rfl rfl rfl id ?_
    refine DW.move rfl rfl rfl ct ?_
    refine DW.move rfl rfl rfl ct ?_
    refine DW.indexAddr rfl rfl Try.underlying22 sz28 rfl id rfl id (fun _ => by (try dsimp only); omega) ?_
    refine DW.fieldAddr rfl rfl fo28_3 rfl id ?_
    refine DW.load rfl rfl one3 rfl id (fun _ => box_cell lW hba rfl) ?_
    refine DW.move rfl rfl rfl ct ?_
    refine DW.move rfl rfl rfl ct ?_
    refine DW.indexAddr rfl rfl Try.underlying22 sz28 rfl id rfl id (fun _ => by (try dsimp only); omega) ?_
    refine DW.fieldAddr rfl rfl fo28_3 rfl id ?_
    refine DW.load rfl rfl one3 rfl id (fun _ => box_cell lW hbb rfl) ?_
    refine DW.neq rfl rfl rfl id rfl id ?_
    refine DW.pickAnd rfl rfl rfl id rfl pAnd1 ?_
    refine DW.pickOr rfl rfl rfl ct rfl pOr0 ?_
    refine DW.nil (DW.fin [0, 7, 8, 9, 10, 11, 12, 86] [(0, _, _), (7, _, _), (8, _, _), (9, _, _), (10, _, _), (11, _, _), (12, _, _), (86, _, _)] rfl (fun w4 c4 => KW.then_ ?_))
    have b4 := bW.step c4
    have l4 := sb_step lW c4
    refine CW.cond rfl (fun hbad => ?_) (fun hgood => ?_)
    · exfalso
      have hmem : (ba.parent ∈ (inside l bn).map fun (k : Nat) => (k : Int)) ↔ (0 ≤ ba.parent ∧ ba.parent.toNat ∈ inside l bn) := by
        simp only [List.mem_map]
        constructor
        · rintro ⟨a, h1, h2⟩; exact ⟨by omega, by rw [← h2]; simpa using h1⟩
        · rintro ⟨h1, h2⟩; exact ⟨_, h2, by omega⟩
      by_cases hin : an ∈ inside l bn
      · have h1 := hup.1 hin
        have h2 := inside_place hv hba hbb hin
        rcases h1 with ⟨h1, h3 | h3⟩ <;> simp [hin, h1, h2, h3, hmem] at hbad
      · have h1 : ¬ (0 ≤ ba.parent ∧ (ba.parent = (bn : Int) ∨ ba.parent.toNat ∈ inside l bn)) := fun h => hin (hup.2 h)
        simp [hin, hmem] at hbad
        apply h1
        refine ⟨hbad.1, ?_⟩
        rcases hbad.2 with h | h
        · exact .inl h
        · exact .inr h.2
    refine CW.skip (KW.then_ (CW.seq (CW.region ?_)))
    refine TW.move rfl rfl rfl ct ?_
    refine TW.move rfl rfl rfl ct ?_
    refine TW.callF (cap := []) rfl rfl en14 rfl ct (Args.cons rfl ct (Args.cons rfl ct Args.nil)) (fun _ => root_n an l4 hv hal) ?_
    rintro w5 c5
    refine TW.assign rfl rfl rfl ct ?_
    refine TW.nil (KW.pick [0, 7, 8, 9, 10, 11, 12, 13] [(0, _, _), (7, _, _), (8, _, _), (9, _, _), (10, _, _), (11, _, _), (12, _, _), (13, _, _)] rfl (KW.then_ ?_))
    refine CW.seq (CW.seq (CW.region ?_))
    refine TW.move rfl rfl rfl ct ?_
    refine TW.lss rfl rfl rfl ct rfl ct ?_
    refine TW.move rfl rfl rfl ct ?_
    refine TW.move rfl rfl rfl ct ?_
    refine TW.move rfl rfl rfl ct ?_
    refine TW.lenSlice rfl rfl Try.underlying22 rfl id ?_
    refine TW.geq rfl rfl rfl id rfl id ?_
    refine TW.pickOr rfl rfl rfl ct rfl pOr0 ?_
    refine TW.nil (KW.pick [0, 7, 8, 9, 10, 11, 12, 13, 97] [(0, _, _), (7, _, _), (8, _, _), (9, _, _), (10, _, _), (11, _, _), (12, _, _), (13, _, _), (97, _, _)] rfl (KW.then_ ?_))
    have b5 := b4.step c5
    have l5 := sb_step l4 c5
    refine CW.cond rfl (fun hbad => ?_) (fun hgood2 => ?_)
    · exfalso
      simp at hbad
      omega
    refine CW.skip (KW.then_ (CW.seq (CW.draw mixed (by kernel_rfl) ?_)))
    refine DW.move rfl rfl rfl ct ?_
    refine DW.move rfl rfl rfl ct ?_
    refine DW.move rfl rfl rfl ct ?_
    refine DW.move rfl rfl rfl ct ?_
    refine DW.indexAddr rfl rfl Try.underlying22 sz28 rfl id rfl id (fun _ => by (try dsimp only); omega) ?_
    refine DW.fieldAddr rfl rfl fo28_2 rfl id ?_
    refine DW.load rfl rfl one3 rfl id (fun _ => box_cell l5 hbr rfl) ?_
    refine DW.eql rfl rfl rfl id rfl ct ?_
    refine DW.pickAnd rfl rfl rfl ct rfl pAnd0 ?_
    refine DW.move rfl rfl rfl ct ?_
    refine DW.move rfl rfl rfl ct ?_
    refine DW.move rfl rfl rfl ct ?_
    refine DW.indexAddr rfl rfl Try.underlying22 sz28 rfl id rfl id (fun _ => by (try dsimp only); omega) ?_
    refine DW.fieldAddr rfl rfl fo28_3 rfl id ?_
    refine DW.load rfl rfl one3 rfl id (fun _ => box_cell l5 hbr rfl) ?_
    refine DW.move rfl rfl rfl ct ?_
    refine DW.move rfl rfl rfl ct ?_
    refine DW.indexAddr rfl rfl Try.underlying22 sz28 rfl id rfl id (fun _ => by (try dsimp only); omega) ?_
    refine DW.fieldAddr rfl rfl fo28_3 rfl id ?_
    refine DW.load rfl rfl one3 rfl id (fun _ => box_cell l5 hba rfl) ?_
    refine DW.eql rfl rfl rfl id rfl id ?_
    refine DW.pickAnd rfl rfl rfl ct rfl pAnd0 ?_
    refine DW.move rfl rfl rfl ct ?_
    refine DW.move rfl rfl rfl ct ?_
    refine DW.move rfl rfl rfl ct ?_
    refine DW.eql rfl rfl rfl id rfl id ?_
    refine DW.move rfl rfl rfl id ?_
    refine DW.move rfl rfl rfl ct ?_
    refine DW.move rfl rfl rfl ct ?_
    refine DW.callP (.pr (IntsAt (inside l (root l an)))) (IntsAt.mono _) rfl rfl en12 rfl ct (PArgs.cons rfl id (PArgs.cons rfl id PArgs.nil)) (fun _ w' hb' vs hs => ?_) ?_
    · obtain ⟨a, b, rfl, h1, h2⟩ := Sats.two hs
      cases h1; cases h2
      exact (inside_n (root l an) (sb_step l5 hb') hv hrl).mono fun v w'' h => ⟨h.1, h.2.wider fun _ _ => trivial⟩
    refine DW.move rfl rfl rfl ct ?_
    refine DW.callP (.ex (.bool (decide (an ∈ inside l (root l an))))) (trivial) rfl rfl en13 rfl ct (PArgs.cons rfl id (PArgs.cons rfl id PArgs.nil)) (fun _ w' hb' vs hs => ?_) ?_
    · obtain ⟨a, b, rfl, h1, h2⟩ := Sats.two hs
      cases h2
      have h1 : IntsAt _ _ _ := h1
      exact has_n an h1
    refine DW.pickOr rfl rfl rfl id rfl pOr1 ?_
    refine DW.pickAnd rfl rfl rfl ct rfl pAnd0 ?_
    refine DW.move rfl rfl rfl ct ?_
    refine DW.move rfl rfl rfl ct ?_
    refine DW.move rfl rfl rfl ct ?_
    refine DW.callP (.ex (.int .i64 (root l bn : Int))) (trivial) rfl rfl en14 rfl ct (PArgs.cons rfl id (PArgs.cons rfl id PArgs.nil)) (fun _ w' hb' vs hs => ?_) ?_
    · obtain ⟨a, b, rfl, h1, h2⟩ := Sats.two hs
      cases h1; cases h2
      exact root_n bn (sb_step l5 hb') hv hbl
    refine DW.move rfl rfl rfl ct ?_
    refine DW.eql rfl rfl rfl id rfl id ?_
    refine DW.move rfl rfl rfl ct ?_
    refine DW.move rfl rfl rfl ct ?_
    refine DW.eql rfl rfl rfl id rfl id ?_
    refine DW.move rfl rfl rfl id ?_
    refine DW.move rfl rfl rfl ct ?_
    refine DW.move rfl rfl rfl ct ?_
    refine DW.callP (.pr (IntsAt (inside l (root l an)))) (IntsAt.mono _) rfl rfl en12 rfl ct (PArgs.cons rfl id (PArgs.cons rfl id PArgs.nil)) (fun _ w' hb' vs hs => ?_) ?_
    · obtain ⟨a, b, rfl, h1, h2⟩ := Sats.two hs
      cases h1; cases h2
      exact (inside_n (root l an) (sb_step l5 hb') hv hrl).mono fun v w'' h => ⟨h.1, h.2.wider fun _ _ => trivial⟩
    refine DW.move rfl rfl rfl ct ?_
    refine DW.callP (.ex (.bool (decide (bn ∈ inside l (root l an))))) (trivial) rfl rfl en13 rfl ct (PArgs.cons rfl id (PArgs.cons rfl id PArgs.nil)) (fun _ w' hb' vs hs => ?_) ?_
    · obtain ⟨a, b, rfl, h1, h2⟩ := Sats.two hs
      cases h2
      have h1 : IntsAt _ _ _ := h1
      exact has_n bn h1
    refine DW.pickOr rfl rfl rfl id rfl pOr1 ?_
    refine DW.eqlB rfl rfl Try.underlying4 rfl id rfl id ?_
    refine DW.pickAnd rfl rfl rfl ct rfl pAnd0 ?_
    refine DW.assign rfl rfl rfl ct ?_
    refine DW.nil (DW.fin [0, 6, 7, 8, 9, 10, 11, 12, 13] [(0, _, _), (6, _, _), (7, _, _), (8, _, _), (9, _, _), (10, _, _), (11, _, _), (12, _, _), (13, _, _)] rfl (fun w6 c6 => KW.then_ ?_))
    refine CW.ret ?_
    refine ret1 Try.results3 rfl (⟨b5.step c6, ?_⟩)
    have e1 : (root l an = an) ∨ an ∈ inside l (root l an) := (hria.1 rfl).imp Eq.symm id
    have e2 : (root l bn = root l an) ↔ (bn = root l an ∨ bn ∈ inside l (root l an)) := hrib
    have d1 : decide (br.parent = -1) = true := by simp [hr1]
    have d2 : decide (br.place = ba.place) = true := by simp [hr2]
    have g1 : ((root l an : Int) = (an : Int)) ↔ root l an = an := by omega
    have g2 : ((root l bn : Int) = (root l an : Int)) ↔ root l bn = root l an := by omega
    have g3 : ((bn : Int) = (root l an : Int)) ↔ bn = root l an := by omega
    simp only [g1, g2, g3, d1, d2]
    have k1 : (decide (root l an = an) || decide (an ∈ inside l (root l an))) = true := by simpa using e1
    have k2 : decide (root l bn = root l an) = (decide (bn = root l an) || decide (bn ∈ inside l (root l an))) := by rw [← Bool.decide_or]; exact decide_eq_decide.2 e2
    rw [k1, k2]
    simp
end Go.Proofs.Ytegmhdabedgloaa
