import Derived.Test.YtegmhdabedgloaaY
import Derived.Test.YtegmhdabedgloaaDp
namespace Go.Proofs.Ytegmhdabedgloaa
open Go.PF Go.RowKit

theorem insideI_eq {l : List Box} (hv : Valid l) {i : Nat} (hi : i < l.length) : insideI l (i : Int) = inside l i := by
  unfold insideI; rw [if_pos ⟨hv, by omega, by omega⟩]; simp
theorem rootI_eq {l : List Box} (hv : Valid l) {i : Nat} (hi : i < l.length) : rootI l (i : Int) = ((root l i : Nat) : Int) := by
  unfold rootI; rw [if_pos ⟨hv, by omega, by omega⟩]; simp
theorem int_mem {xs : List Nat} {n : Nat} : (n : Int) ∈ xs.map (fun (k : Nat) => (k : Int)) ↔ n ∈ xs := by
  simp only [List.mem_map]
  constructor
  · rintro ⟨a, ha, e⟩
    have : a = n := by omega
    rwa [← this]
  · exact fun h => ⟨n, h, rfl⟩
theorem nat_i64 {n m : Nat} (h : n < m) (hm : m ≤ 1000000) : I64 (n : Int) := i64_small (by omega) (by omega)
/-- Inside, at a box of a valid list. -/
theorem inside_n {w : World} {v : Value} {l : List Box} (i : Nat) (hl : SB w v l) (hv : Valid l) (hi : i < l.length) :
    Gives Try.prog 12 #[v, .int .i64 (i : Int)] w fun u w' => Below w.heap.size w w' ∧ SL intT (fun k => w.heap.size ≤ k) w' u ((inside l i).map fun (k : Nat) => (k : Int)) := by
  have := inside_c (i : Int) sbF (nat_i64 hi (by have := hv.few; omega)) hl
  rwa [insideI_eq hv hi] at this
theorem has_n {F : Nat → Prop} {w : World} {v : Value} {xs : List Nat} (n : Nat) (h : SL intT F w v (xs.map fun (k : Nat) => (k : Int))) :
    Gives Try.prog 13 #[v, .int .i64 (n : Int)] w fun u w' => Below w.heap.size w w' ∧ u = .bool (decide (n ∈ xs)) := by
  have := lhas_c (n : Int) h
  rwa [show decide ((n : Int) ∈ xs.map fun (k : Nat) => (k : Int)) = decide (n ∈ xs) from decide_eq_decide.2 int_mem] at this

set_option maxRecDepth 20000 in
theorem depth_law {w : World} {v : Value} {l : List Box} (x : Int) (hx0 : 0 ≤ x) (hx1 : x ≤ 255) (hl : SB w v l) : Gives Try.prog 4 #[v, .int .u8 x] w fun u w' => Below w.heap.size w w' ∧ u = .bool true := by
  obtain ⟨A, cap, rfl⟩ := sb_form hl
  refine gives_of (vs := [.slice A l.length cap, .int .u8 x]) [(0, none, _), (1, none, _)] Try.func4 rfl Try.ntmps4 rfl rfl ?_
  refine CW.seq (CW.region ?_)
  refine TW.assign rfl rfl rfl ct ?_
  refine TW.nil (KW.pick [0, 1, 4] [(0, _, _), (1, _, _), (4, _, _)] rfl (KW.then_ ?_))
  refine CW.seq (CW.region ?_)
  refine TW.callF (cap := []) rfl rfl en10 rfl ct Args.nil (fun _ => head_c) ?_
  rintro w0 b0
  refine TW.assign rfl rfl rfl ct ?_
  refine TW.nil (KW.pick [0, 1, 4, 5] [(0, _, _), (1, _, _), (4, _, _), (5, _, _)] rfl (KW.then_ ?_))
  refine CW.seq (CW.seq (CW.region ?_))
  refine TW.move rfl rfl rfl ct ?_
  have l0 := sb_step hl b0
  refine TW.callF (cap := []) rfl rfl en11 rfl ct (Args.cons rfl ct Args.nil) (fun _ => fine_c l0) ?_
  rintro w1 c1
  refine TW.not rfl rfl rfl ct ?_
  refine TW.nil (KW.pick [0, 1, 4, 5, 14] [(0, _, _), (1, _, _), (4, _, _), (5, _, _), (14, _, _)] rfl (KW.then_ ?_))
  have b1 := b0.step c1
  have l1 := sb_step l0 c1
  refine CW.cond rfl (fun hf => ?_) (fun ht => ?_)
  · refine CW.seq (CW.region ?_)
    refine TW.move rfl rfl rfl ct ?_
    refine TW.assign rfl rfl rfl ct ?_
    refine TW.nil (KW.pick [0, 1, 4, 5] [(0, _, _), (1, _, _), (4, _, _), (5, _, _)] rfl (KW.then_ ?_))
    refine CW.ret (KW.thenR ?_)
    refine ret1 Try.results4 rfl (⟨b1, rfl⟩)
  have hok := dec_iff.1 (by simpa using ht)
  obtain ⟨hfew, hpos, hv⟩ := hok
  have hw := wrap_fits (z := x) (by omega)
  have hlen := hv.few
  obtain ⟨bn, hbn⟩ : ∃ bn : Nat, IntKind.i64.wrap x % (l.length : Int) = bn := ⟨(IntKind.i64.wrap x % (l.length : Int)).toNat, by rw [Int.toNat_of_nonneg (Int.emod_nonneg _ (by omega))]⟩
  have hbl : bn < l.length := by have := Int.emod_lt_of_pos (IntKind.i64.wrap x) (show (0 : Int) < l.length by omega); omega
  obtain ⟨bb, hbb⟩ : ∃ q, l[bn]? = some q := ⟨l[bn], List.getElem?_eq_getElem hbl⟩
  obtain ⟨ad, hAd, _⟩ := box_at l1 hbb
  subst hAd
  refine CW.skip (KW.then_ (CW.seq (CW.region ?_)))
  refine TW.move rfl rfl rfl ct ?_
  refine TW.conv rfl rfl rfl Try.underlying3 rfl ct ?_
  refine TW.move rfl rfl rfl ct ?_
  refine TW.lenSlice rfl rfl Try.underlying22 rfl ct ?_
  refine TW.rem rfl rfl rfl ct rfl ct (fun _ => by (try dsimp only); omega) ?_
  refine TW.assign rfl rfl rfl ct ?_
  refine TW.nil (KW.pick [0, 1, 4, 5, 6] [(0, _, _), (1, _, _), (4, _, _), (5, _, _), (6, _, _)] rfl (KW.then_ ?_))
  refine CW.seq (CW.region ?_)
  refine TW.assign rfl rfl rfl ct ?_
  refine TW.nil (KW.pick [0, 1, 4, 5, 6, 7] [(0, _, _), (1, _, _), (4, _, _), (5, _, _), (6, _, _), (7, _, _)] rfl (KW.then_ ?_))
  refine CW.seq (CW.seq (CW.region ?_))
  refine TW.assign rfl rfl rfl ct ?_
  refine TW.nil (KW.pick [0, 1, 4, 5, 6, 7, 8] [(0, _, _), (1, _, _), (4, _, _), (5, _, _), (6, _, _), (7, _, _), (8, _, _)] rfl (KW.then_ ?_))
  refine CW.block ?_
  rw [hbn]
  refine CW.loopS (fun k : Nat => [(0, none, .slice (some ad) l.length cap), (5, none, .bool true), (6, none, .int .i64 (bn : Int)), (7, none, .int .i64 (above l bn k : Int)), (8, none, .int .i64 (k : Int))])
    (fun k W => k ≤ l.length ∧ Below w.heap.size w W ∧ SB W (.slice (some ad) l.length cap) l) (fun k => l.length - k) 0 [0, 5, 6, 7, 8] ⟨by omega, b1, l1⟩ rfl ?_
  rintro k W ⟨hk, hbW, lW⟩
  have hak := above_le hv hbb k
  have hkb := (hv.each _ _ hbb).k1
  refine CW.seq (CW.seq (CW.region ?_))
  refine TW.move rfl rfl rfl ct ?_
  refine TW.move rfl rfl rfl ct ?_
  refine TW.lenSlice rfl rfl Try.underlying22 rfl ct ?_
  refine TW.lss rfl rfl rfl ct rfl ct ?_
  refine TW.nil (KW.pick [0, 5, 6, 7, 8, 24] [(0, _, _), (5, _, _), (6, _, _), (7, _, _), (8, _, _), (24, _, _)] rfl (KW.then_ ?_))
  refine CW.condP rfl (fun hlt => ?_) (fun hge => ?_)
  · refine CW.skip (KW.then_ (CW.seq (CW.block (CW.seq (CW.region ?_)))))
    refine TW.move rfl rfl rfl ct ?_
    refine TW.move rfl rfl rfl ct ?_
    refine TW.call0 (cap := []) rfl rfl en12 rfl (Args.cons rfl ct (Args.cons rfl ct Args.nil)) (inside_n k lW hv (by omega)) ?_
    rintro u w2 ⟨c2, hu⟩
    obtain ⟨Au, cu, rfl, _⟩ := id hu
    have l2 := sb_step lW c2
    refine TW.assign rfl rfl rfl ct ?_
    refine TW.nil (KW.pick [0, 5, 6, 7, 8, 9] [(0, _, _), (5, _, _), (6, _, _), (7, _, _), (8, _, _), (9, _, _)] rfl (KW.then_ ?_))
    refine CW.seq (CW.seq (CW.region ?_))
    refine TW.move rfl rfl rfl ct ?_
    refine TW.move rfl rfl rfl ct ?_
    refine TW.callF (cap := []) rfl rfl en13 rfl ct (Args.cons rfl ct (Args.cons rfl ct Args.nil)) (fun _ => has_n bn hu) ?_
    rintro w3 c3
    refine TW.nil (KW.pick [0, 5, 6, 7, 8, 9, 32] [(0, _, _), (5, _, _), (6, _, _), (7, _, _), (8, _, _), (9, _, _), (32, _, _)] rfl (KW.then_ ?_))
    have l3 := sb_step l2 c3
    have hu3 := hu.below c3
    refine CW.cond rfl (fun hin => ?_) (fun hout => ?_)
    · have hm : k ∈ outside l bn := (mem_inside.1 (by simpa using hin)).2
      refine CW.region ?_
      refine TW.move rfl rfl rfl ct ?_
      refine TW.add rfl rfl rfl ct rfl ct (fun _ => by (try dsimp only); omega) ?_
      refine TW.assign rfl rfl rfl ct ?_
      refine TW.nil (KW.pick [0, 5, 6, 7, 8, 9] [(0, _, _), (5, _, _), (6, _, _), (7, _, _), (8, _, _), (9, _, _)] rfl (KW.then_ ?_))
      refine CW.seq (CW.region ?_)
      refine TW.assign rfl rfl rfl ct ?_
      refine TW.nil (KW.pick [0, 5, 6, 7, 8, 9, 10] [(0, _, _), (5, _, _), (6, _, _), (7, _, _), (8, _, _), (9, _, _), (10, _, _)] rfl (KW.then_ ?_))
      refine CW.block ?_
      have hab : (above l bn (k + 1) : Int) = (above l bn k : Int) + 1 := by rw [above_succ, if_pos hm]; omega
      rw [← hab]
      have hlm : ((inside l k).map fun (k : Nat) => (k : Int)).length = (inside l k).length := List.length_map ..
      have hil : (inside l k).length ≤ l.length := by
        have : (inside l k).length ≤ (List.range l.length).length := List.length_filter_le _ _
        simpa using this
      refine CW.loopS (fun j : Nat => [(0, none, .slice (some ad) l.length cap), (5, none, .bool true), (6, none, .int .i64 (bn : Int)), (7, none, .int .i64 (above l bn (k + 1) : Int)), (8, none, .int .i64 (k : Int)), (9, none, .slice Au ((inside l k).map fun (k : Nat) => (k : Int)).length cu), (10, none, .int .i64 (j : Int))])
        (fun j W' => j ≤ (inside l k).length ∧ Below w3.heap.size w3 W') (fun j => (inside l k).length - j) 0 [0, 5, 6, 7, 8, 9, 10] ⟨by omega, Below.refl _ _⟩ rfl ?_
      rintro j W' ⟨hj, hbj⟩
      have l4 := sb_step l3 hbj
      have hu4 := hu3.below hbj
      refine CW.seq (CW.seq (CW.region ?_))
      refine TW.move rfl rfl rfl ct ?_
      refine TW.move rfl rfl rfl ct ?_
      refine TW.lenSlice rfl rfl Try.underlying25 rfl ct ?_
      refine TW.lss rfl rfl rfl ct rfl ct ?_
      refine TW.move rfl rfl rfl ct ?_
      refine TW.move rfl rfl rfl ct ?_
      refine TW.move rfl rfl rfl ct ?_
      refine TW.eql rfl rfl rfl id rfl id ?_
      refine TW.pickAnd rfl rfl rfl ct rfl pAnd0 ?_
      refine TW.nil (KW.pick [0, 5, 6, 7, 8, 9, 10, 43] [(0, _, _), (5, _, _), (6, _, _), (7, _, _), (8, _, _), (9, _, _), (10, _, _), (43, _, _)] rfl (KW.then_ ?_))
      refine CW.cond rfl (fun hgo => ?_) (fun hstop => ?_)
      · simp only [Bool.and_eq_true, decide_eq_true_eq, List.length_map] at hgo
        obtain ⟨hj1, hkb⟩ := hgo
        have hkb' : k = bn := by omega
        obtain ⟨x, hx⟩ : ∃ x, (inside l k)[j]? = some x := ⟨(inside l k)[j]'(by omega), List.getElem?_eq_getElem (by omega)⟩
        have hxm := mem_inside.1 (List.mem_of_getElem? hx)
        have hxl := hxm.1
        obtain ⟨bx, hbx⟩ : ∃ q, l[x]? = some q := ⟨l[x], List.getElem?_eq_getElem hxl⟩
        have hkk := out_lt hv hbx hxm.2 (by rw [hkb']; exact hbb)
        obtain ⟨a, ha, hcell, _⟩ := hu4.int (i := j) (x := (x : Int)) (by simp [hx])
        subst ha
        refine CW.skip (KW.then_ (CW.seq (CW.block (CW.seq (CW.draw mixed (by kernel_rfl) ?_)))))
        refine DW.move rfl rfl rfl ct ?_
        refine DW.move rfl rfl rfl ct ?_
        refine DW.indexAddr rfl rfl Try.underlying25 sz3 rfl ct rfl ct (fun _ => by (try dsimp only); omega) ?_
        refine DW.load rfl rfl one3 rfl ct (fun _ => hcell) ?_
        refine DW.lss rfl rfl rfl ct rfl ct ?_
        refine DW.move rfl rfl rfl ct ?_
        refine DW.move rfl rfl rfl ct ?_
        refine DW.move rfl rfl rfl ct ?_
        refine DW.indexAddr rfl rfl Try.underlying25 sz3 rfl id rfl id (fun _ => by (try dsimp only); omega) ?_
        refine DW.load rfl rfl one3 rfl id (fun _ => hcell) ?_
        refine DW.move rfl rfl rfl ct ?_
        refine DW.lenSlice rfl rfl Try.underlying22 rfl id ?_
        refine DW.geq rfl rfl rfl id rfl id ?_
        refine DW.pickOr rfl rfl rfl ct rfl pOr0 ?_
        refine DW.move rfl rfl rfl ct ?_
        refine DW.move rfl rfl rfl ct ?_
        refine DW.move rfl rfl rfl ct ?_
        refine DW.move rfl rfl rfl ct ?_
        refine DW.indexAddr rfl rfl Try.underlying25 sz3 rfl id rfl id (fun _ => by (try dsimp only); omega) ?_
        refine DW.load rfl rfl one3 rfl id (fun _ => hcell) ?_
        refine DW.indexAddr rfl rfl Try.underlying22 sz28 rfl id rfl id (fun _ => by (try dsimp only); omega) ?_
        refine DW.fieldAddr rfl rfl fo28_1 rfl id ?_
        refine DW.load rfl rfl one3 rfl id (fun _ => box_cell l4 hbx rfl) ?_
        refine DW.move rfl rfl rfl ct ?_
        refine DW.move rfl rfl rfl ct ?_
        refine DW.indexAddr rfl rfl Try.underlying22 sz28 rfl id rfl id (fun _ => by (try dsimp only); omega) ?_
        refine DW.fieldAddr rfl rfl fo28_1 rfl id ?_
        refine DW.load rfl rfl one3 rfl id (fun _ => box_cell l4 hbb rfl) ?_
        refine DW.geq rfl rfl rfl id rfl id ?_
        refine DW.pickOr rfl rfl rfl ct rfl pOr0 ?_
        refine DW.nil (DW.fin [0, 5, 6, 7, 8, 9, 10, 75] [(0, _, _), (5, _, _), (6, _, _), (7, _, _), (8, _, _), (9, _, _), (10, _, _), (75, _, _)] rfl (fun w4 c4 => KW.then_ ?_))
        refine CW.cond rfl (fun hbad => ?_) (fun hgood => ?_)
        · exfalso
          simp at hbad
          omega
        refine CW.skip (KW.blockN (KW.then_ (CW.region ?_)))
        refine TW.move rfl rfl rfl ct ?_
        refine TW.add rfl rfl rfl ct rfl ct (fun _ => by (try dsimp only); omega) ?_
        refine TW.assign rfl rfl rfl ct ?_
        refine TW.nil (KW.pick [0, 5, 6, 7, 8, 9, 10] [(0, _, _), (5, _, _), (6, _, _), (7, _, _), (8, _, _), (9, _, _), (10, _, _)] rfl ?_)
        refine KW.round (j + 1) [0, 5, 6, 7, 8, 9, 10] rfl ⟨by omega, hbj.step c4⟩ (by omega)
      · refine CW.exit (KW.thenX (KW.thenX (KW.blockX (KW.blockN (KW.then_ (CW.region ?_))))))
        refine TW.move rfl rfl rfl ct ?_
        refine TW.add rfl rfl rfl ct rfl ct (fun _ => by (try dsimp only); omega) ?_
        refine TW.assign rfl rfl rfl ct ?_
        refine TW.nil (KW.pick [0, 5, 6, 7, 8, 9, 10] [(0, _, _), (5, _, _), (6, _, _), (7, _, _), (8, _, _), (9, _, _), (10, _, _)] rfl ?_)
        refine KW.round (k + 1) [0, 5, 6, 7, 8] rfl ⟨by omega, ((hbW.step c2).step c3).step hbj, l4⟩ (by omega)
    · have hm : ¬ k ∈ outside l bn := fun h => (by simpa using hout : ¬ bn ∈ inside l k) (mem_inside.2 ⟨hbl, h⟩)
      refine CW.skip (KW.then_ (CW.seq (CW.region ?_)))
      refine TW.assign rfl rfl rfl ct ?_
      refine TW.nil (KW.pick [0, 5, 6, 7, 8, 9, 10] [(0, _, _), (5, _, _), (6, _, _), (7, _, _), (8, _, _), (9, _, _), (10, _, _)] rfl (KW.then_ ?_))
      refine CW.block ?_
      have hab : (above l bn (k + 1) : Int) = (above l bn k : Int) := by rw [above_succ, if_neg hm]; omega
      rw [← hab]
      have hlm : ((inside l k).map fun (k : Nat) => (k : Int)).length = (inside l k).length := List.length_map ..
      have hil : (inside l k).length ≤ l.length := by
        have : (inside l k).length ≤ (List.range l.length).length := List.length_filter_le _ _
        simpa using this
      refine CW.loopS (fun j : Nat => [(0, none, .slice (some ad) l.length cap), (5, none, .bool true), (6, none, .int .i64 (bn : Int)), (7, none, .int .i64 (above l bn (k + 1) : Int)), (8, none, .int .i64 (k : Int)), (9, none, .slice Au ((inside l k).map fun (k : Nat) => (k : Int)).length cu), (10, none, .int .i64 (j : Int))])
        (fun j W' => j ≤ (inside l k).length ∧ Below w3.heap.size w3 W') (fun j => (inside l k).length - j) 0 [0, 5, 6, 7, 8, 9, 10] ⟨by omega, Below.refl _ _⟩ rfl ?_
      rintro j W' ⟨hj, hbj⟩
      have l4 := sb_step l3 hbj
      have hu4 := hu3.below hbj
      refine CW.seq (CW.seq (CW.region ?_))
      refine TW.move rfl rfl rfl ct ?_
      refine TW.move rfl rfl rfl ct ?_
      refine TW.lenSlice rfl rfl Try.underlying25 rfl ct ?_
      refine TW.lss rfl rfl rfl ct rfl ct ?_
      refine TW.move rfl rfl rfl ct ?_
      refine TW.move rfl rfl rfl ct ?_
      refine TW.move rfl rfl rfl ct ?_
      refine TW.eql rfl rfl rfl id rfl id ?_
      refine TW.pickAnd rfl rfl rfl ct rfl pAnd0 ?_
      refine TW.nil (KW.pick [0, 5, 6, 7, 8, 9, 10, 43] [(0, _, _), (5, _, _), (6, _, _), (7, _, _), (8, _, _), (9, _, _), (10, _, _), (43, _, _)] rfl (KW.then_ ?_))
      refine CW.cond rfl (fun hgo => ?_) (fun hstop => ?_)
      · simp only [Bool.and_eq_true, decide_eq_true_eq, List.length_map] at hgo
        obtain ⟨hj1, hkb⟩ := hgo
        have hkb' : k = bn := by omega
        obtain ⟨x, hx⟩ : ∃ x, (inside l k)[j]? = some x := ⟨(inside l k)[j]'(by omega), List.getElem?_eq_getElem (by omega)⟩
        have hxm := mem_inside.1 (List.mem_of_getElem? hx)
        have hxl := hxm.1
        obtain ⟨bx, hbx⟩ : ∃ q, l[x]? = some q := ⟨l[x], List.getElem?_eq_getElem hxl⟩
        have hkk := out_lt hv hbx hxm.2 (by rw [hkb']; exact hbb)
        obtain ⟨a, ha, hcell, _⟩ := hu4.int (i := j) (x := (x : Int)) (by simp [hx])
        subst ha
        refine CW.skip (KW.then_ (CW.seq (CW.block (CW.seq (CW.draw mixed (by kernel_rfl) ?_)))))
        refine DW.move rfl rfl rfl ct ?_
        refine DW.move rfl rfl rfl ct ?_
        refine DW.indexAddr rfl rfl Try.underlying25 sz3 rfl ct rfl ct (fun _ => by (try dsimp only); omega) ?_
        refine DW.load rfl rfl one3 rfl ct (fun _ => hcell) ?_
        refine DW.lss rfl rfl rfl ct rfl ct ?_
        refine DW.move rfl rfl rfl ct ?_
        refine DW.move rfl rfl rfl ct ?_
        refine DW.move rfl rfl rfl ct ?_
        refine DW.indexAddr rfl rfl Try.underlying25 sz3 rfl id rfl id (fun _ => by (try dsimp only); omega) ?_
        refine DW.load rfl rfl one3 rfl id (fun _ => hcell) ?_
        refine DW.move rfl rfl rfl ct ?_
        refine DW.lenSlice rfl rfl Try.underlying22 rfl id ?_
        refine DW.geq rfl rfl rfl id rfl id ?_
        refine DW.pickOr rfl rfl rfl ct rfl pOr0 ?_
        refine DW.move rfl rfl rfl ct ?_
        refine DW.move rfl rfl rfl ct ?_
        refine DW.move rfl rfl rfl ct ?_
        refine DW.move rfl rfl rfl ct ?_
        refine DW.indexAddr rfl rfl Try.underlying25 sz3 rfl id rfl id (fun _ => by (try dsimp only); omega) ?_
        refine DW.load rfl rfl one3 rfl id (fun _ => hcell) ?_
        refine DW.indexAddr rfl rfl Try.underlying22 sz28 rfl id rfl id (fun _ => by (try dsimp only); omega) ?_
        refine DW.fieldAddr rfl rfl fo28_1 rfl id ?_
        refine DW.load rfl rfl one3 rfl id (fun _ => box_cell l4 hbx rfl) ?_
        refine DW.move rfl rfl rfl ct ?_
        refine DW.move rfl rfl rfl ct ?_
        refine DW.indexAddr rfl rfl Try.underlying22 sz28 rfl id rfl id (fun _ => by (try dsimp only); omega) ?_
        refine DW.fieldAddr rfl rfl fo28_1 rfl id ?_
        refine DW.load rfl rfl one3 rfl id (fun _ => box_cell l4 hbb rfl) ?_
        refine DW.geq rfl rfl rfl id rfl id ?_
        refine DW.pickOr rfl rfl rfl ct rfl pOr0 ?_
        refine DW.nil (DW.fin [0, 5, 6, 7, 8, 9, 10, 75] [(0, _, _), (5, _, _), (6, _, _), (7, _, _), (8, _, _), (9, _, _), (10, _, _), (75, _, _)] rfl (fun w4 c4 => KW.then_ ?_))
        refine CW.cond rfl (fun hbad => ?_) (fun hgood => ?_)
        · exfalso
          simp at hbad
          omega
        refine CW.skip (KW.blockN (KW.then_ (CW.region ?_)))
        refine TW.move rfl rfl rfl ct ?_
        refine TW.add rfl rfl rfl ct rfl ct (fun _ => by (try dsimp only); omega) ?_
        refine TW.assign rfl rfl rfl ct ?_
        refine TW.nil (KW.pick [0, 5, 6, 7, 8, 9, 10] [(0, _, _), (5, _, _), (6, _, _), (7, _, _), (8, _, _), (9, _, _), (10, _, _)] rfl ?_)
        refine KW.round (j + 1) [0, 5, 6, 7, 8, 9, 10] rfl ⟨by omega, hbj.step c4⟩ (by omega)
      · refine CW.exit (KW.thenX (KW.thenX (KW.blockX (KW.blockN (KW.then_ (CW.region ?_))))))
        refine TW.move rfl rfl rfl ct ?_
        refine TW.add rfl rfl rfl ct rfl ct (fun _ => by (try dsimp only); omega) ?_
        refine TW.assign rfl rfl rfl ct ?_
        refine TW.nil (KW.pick [0, 5, 6, 7, 8, 9, 10] [(0, _, _), (5, _, _), (6, _, _), (7, _, _), (8, _, _), (9, _, _), (10, _, _)] rfl ?_)
        refine KW.round (k + 1) [0, 5, 6, 7, 8] rfl ⟨by omega, ((hbW.step c2).step c3).step hbj, l4⟩ (by omega)
  · have hk' : k = l.length := by omega
    subst hk'
    refine CW.exit (KW.thenX (KW.thenX (KW.blockX (KW.then_ (CW.seq (CW.region ?_))))))
    refine TW.move rfl rfl rfl ct ?_
    refine TW.move rfl rfl rfl ct ?_
    refine TW.move rfl rfl rfl ct ?_
    refine TW.move rfl rfl rfl ct ?_
    refine TW.move rfl rfl rfl ct ?_
    refine TW.indexAddr rfl rfl Try.underlying22 sz28 rfl id rfl id (fun _ => by (try dsimp only); omega) ?_
    refine TW.fieldAddr rfl rfl fo28_1 rfl id ?_
    refine TW.load rfl rfl one3 rfl id (fun _ => box_cell lW hbb rfl) ?_
    refine TW.sub rfl rfl rfl ct rfl id (fun _ => by (try dsimp only); omega) ?_
    refine TW.leq rfl rfl rfl id rfl id ?_
    refine TW.pickAnd rfl rfl rfl ct rfl pAnd0 ?_
    refine TW.assign rfl rfl rfl ct ?_
    refine TW.nil (KW.pick [0, 4, 5, 6, 7, 8] [(0, _, _), (4, _, _), (5, _, _), (6, _, _), (7, _, _), (8, _, _)] rfl (KW.then_ ?_))
    refine CW.ret ?_
    refine ret1 Try.results4 rfl (⟨hbW, ?_⟩)
    simp
    omega
end Go.Proofs.Ytegmhdabedgloaa
