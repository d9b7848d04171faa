import Derived.Test.YtegmhdabedgloaaZe
import Derived.Test.YtegmhdabedgloaaLaw
namespace Go.Proofs.Ytegmhdabedgloaa
open Go.PF Go.RowKit Go.WideShapes Go.ChangeShapes Go.ChangeAt

def u16T : Ty Int where
  n := 1
  rep := fun _ _ cs x => cs = [.int .u16 x] ∧ 0 ≤ x ∧ x ≤ 65535
  len := fun _ _ _ _ h => by rw [h.1]; rfl
  mono := fun _ _ _ _ _ _ h => h
  wider := fun _ _ _ _ _ _ h => h

theorem u16_at {F : Nat → Prop} {w : World} {A : Option Addr} {n cap : Nat} {l : List Int} (h : SL u16T F w (.slice A n cap) l) {i : Nat} {x : Int} (hx : l[i]? = some x) :
    ∃ ad, A = some ad ∧ w.cell? (ad.add (i * 1)) = some (.int .u16 x) ∧ 0 ≤ x ∧ x ≤ 65535 := by
  obtain ⟨A', cap', hv, _, _, h3⟩ := h
  simp only [Value.slice.injEq] at hv
  obtain ⟨rfl, _, rfl⟩ := hv
  obtain ⟨ad, cs, ha, _, hc, hr, hi⟩ := h3 i x hx
  exact ⟨ad, ha, by have := hc 0 (.int .u16 x) (by rw [hr]; rfl); simpa [u16T, Addr.add] using this, hi⟩

theorem opens_u16 : Opens Try.prog 43 u16T := by
  intro H enc w base spare held fuel cs x hx
  obtain ⟨a, h1, _, w1⟩ := DataW.trod_int Try.underlying43 hx
  simp only [Lit.wf, Bool.and_eq_true, decide_eq_true_eq] at w1
  exact ⟨a, h1, w1⟩
theorem opens_u16s : Opens Try.prog 42 (sliceT u16T) := Opens.slice Try.underlying42 (by kernel_rfl) opens_u16

set_option maxRecDepth 20000 in
theorem sealed_law {w : World} {v vs : Value} {l : List Box} {steps : List Int} (x : Int) (hx0 : 0 ≤ x) (hx1 : x ≤ 255) (hl : SB w v l) (hs : SL u16T (fun _ => True) w vs steps) : Gives Try.prog 9 #[v, .int .u8 x, vs] w fun u w' => Below w.heap.size w w' ∧ u = .bool true := by
  obtain ⟨A, cap, rfl⟩ := sb_form hl
  obtain ⟨As, cs, rfl, _⟩ := id hs
  refine gives_of (vs := [.slice A l.length cap, .int .u8 x, .slice As steps.length cs]) [(0, none, _), (1, none, _), (2, none, _)] Try.func9 rfl Try.ntmps9 rfl rfl ?_
  refine CW.seq (CW.region ?_)
  refine TW.assign rfl rfl rfl ct ?_
  refine TW.nil (KW.pick [0, 1, 2, 6] [(0, _, _), (1, _, _), (2, _, _), (6, _, _)] rfl (KW.then_ ?_))
  refine CW.seq (CW.region ?_)
  refine TW.callF (cap := []) rfl rfl en10 rfl ct Args.nil (fun _ => head_c) ?_
  rintro w0 b0
  refine TW.assign rfl rfl rfl ct ?_
  refine TW.nil (KW.pick [0, 1, 2, 6, 7] [(0, _, _), (1, _, _), (2, _, _), (6, _, _), (7, _, _)] rfl (KW.then_ ?_))
  refine CW.seq (CW.seq (CW.region ?_))
  refine TW.move rfl rfl rfl ct ?_
  have l0 := sb_step hl b0
  refine TW.callF (cap := []) rfl rfl en11 rfl ct (Args.cons rfl ct Args.nil) (fun _ => fine_c l0) ?_
  rintro w1 c1
  refine TW.not rfl rfl rfl ct ?_
  refine TW.move rfl rfl rfl ct ?_
  refine TW.move rfl rfl rfl ct ?_
  refine TW.lenSlice rfl rfl Try.underlying42 rfl id ?_
  refine TW.gtr rfl rfl rfl id rfl ct ?_
  refine TW.pickOr rfl rfl rfl ct rfl pOr0 ?_
  refine TW.nil (KW.pick [0, 1, 2, 6, 7, 24] [(0, _, _), (1, _, _), (2, _, _), (6, _, _), (7, _, _), (24, _, _)] rfl (KW.then_ ?_))
  have b1 := b0.step c1
  have l1 := sb_step l0 c1
  refine CW.cond rfl (fun hf => ?_) (fun ht => ?_)
  · refine CW.seq (CW.region ?_)
    refine TW.move rfl rfl rfl ct ?_
    refine TW.assign rfl rfl rfl ct ?_
    refine TW.nil (KW.pick [0, 1, 2, 6, 7] [(0, _, _), (1, _, _), (2, _, _), (6, _, _), (7, _, _)] rfl (KW.then_ ?_))
    refine CW.ret (KW.thenR ?_)
    refine ret1 Try.results9 rfl (⟨b1, rfl⟩)
  have ht' : dec (Few l ∧ 0 < l.length ∧ Valid l) = true ∧ steps.length ≤ 20 := by
    cases hd : dec (Few l ∧ 0 < l.length ∧ Valid l) <;> rw [hd] at ht <;> simp at ht
    exact ⟨rfl, by omega⟩
  have hok := dec_iff.1 ht'.1
  obtain ⟨hfew, hpos, hv⟩ := hok
  have hwx := wrap_fits (z := x) (by omega)
  have hlen := hv.few
  obtain ⟨bn, hbn⟩ : ∃ bn : Nat, IntKind.i64.wrap x % (l.length : Int) = bn := ⟨(IntKind.i64.wrap x % (l.length : Int)).toNat, by rw [Int.toNat_of_nonneg (Int.emod_nonneg _ (by omega))]⟩
  have hbl : bn < l.length := by have := Int.emod_lt_of_pos (IntKind.i64.wrap x) (show (0 : Int) < l.length by omega); omega
  obtain ⟨bb, hbb⟩ : ∃ q, l[bn]? = some q := ⟨l[bn], List.getElem?_eq_getElem hbl⟩
  obtain ⟨ad, hAd, _⟩ := box_at l1 hbb
  subst hAd
  refine CW.skip (KW.then_ (CW.seq (CW.region ?_)))
  refine TW.move rfl rfl rfl ct ?_
  refine TW.conv rfl rfl rfl Try.underlying3 rfl ct ?_
  refine TW.move rfl rfl rfl ct ?_
  refine TW.lenSlice rfl rfl Try.underlying22 rfl ct ?_
  refine TW.rem rfl rfl rfl ct rfl ct (fun _ => by (try dsimp only); omega) ?_
  refine TW.assign rfl rfl rfl ct ?_
  refine TW.nil (KW.pick [0, 1, 2, 6, 7, 8] [(0, _, _), (1, _, _), (2, _, _), (6, _, _), (7, _, _), (8, _, _)] rfl (KW.then_ ?_))
  refine CW.seq (CW.seq (CW.region ?_))
  refine TW.move rfl rfl rfl ct ?_
  refine TW.move rfl rfl rfl ct ?_
  refine TW.indexAddr rfl rfl Try.underlying22 sz28 rfl ct rfl ct (fun _ => by (try dsimp only); omega) ?_
  refine TW.fieldAddr rfl rfl fo28_4 rfl ct ?_
  rw [hbn]
  refine TW.load rfl rfl one4 rfl ct (fun _ => box_cell l1 hbb rfl) ?_
  refine TW.not rfl rfl rfl ct ?_
  refine TW.nil (KW.pick [0, 1, 2, 6, 7, 8, 36] [(0, _, _), (1, _, _), (2, _, _), (6, _, _), (7, _, _), (8, _, _), (36, _, _)] rfl (KW.then_ ?_))
  refine CW.cond rfl (fun hop => ?_) (fun hcl => ?_)
  · refine CW.seq (CW.region ?_)
    refine TW.move rfl rfl rfl ct ?_
    refine TW.assign rfl rfl rfl ct ?_
    refine TW.nil (KW.pick [0, 1, 2, 6, 7, 8] [(0, _, _), (1, _, _), (2, _, _), (6, _, _), (7, _, _), (8, _, _)] rfl (KW.then_ ?_))
    refine CW.ret (KW.thenR ?_)
    refine ret1 Try.results9 rfl (⟨b1, rfl⟩)
  have hclosed : bb.closed = true := by simpa using hcl
  refine CW.skip (KW.then_ (CW.seq (CW.region ?_)))
  refine TW.move rfl rfl rfl ct ?_
  refine TW.move rfl rfl rfl ct ?_
  refine TW.call0 (cap := []) rfl rfl en12 rfl (Args.cons rfl ct (Args.cons rfl ct Args.nil)) (inside_n bn l1 hv hbl) ?_
  rintro u w2 ⟨c2, hu⟩
  have b2 := b1.step c2
  have l2 := sb_step l1 c2
  refine TW.assign rfl rfl rfl ct ?_
  refine TW.nil (KW.pick [0, 1, 2, 6, 7, 8, 9] [(0, _, _), (1, _, _), (2, _, _), (6, _, _), (7, _, _), (8, _, _), (9, _, _)] rfl (KW.then_ ?_))
  refine CW.seq (CW.region ?_)
  refine TW.move rfl rfl rfl ct ?_
  refine TW.assign rfl rfl rfl ct ?_
  refine TW.nil (KW.pick [0, 1, 2, 6, 7, 8, 9, 10] [(0, _, _), (1, _, _), (2, _, _), (6, _, _), (7, _, _), (8, _, _), (9, _, _), (10, _, _)] rfl (KW.then_ ?_))
  refine CW.seq (CW.seq (CW.region ?_))
  refine TW.assign rfl rfl rfl ct ?_
  refine TW.nil (KW.pick [0, 1, 2, 6, 7, 8, 9, 10, 11] [(0, _, _), (1, _, _), (2, _, _), (6, _, _), (7, _, _), (8, _, _), (9, _, _), (10, _, _), (11, _, _)] rfl (KW.then_ ?_))
  refine CW.block ?_
  refine CW.loopS (fun g : Nat × List Box × Option Addr × Nat => [(0, none, .slice (some ad) l.length cap), (2, none, .slice As steps.length cs), (7, none, .bool true), (8, none, .int .i64 (bn : Int)), (9, none, u), (10, none, .slice g.2.2.1 g.2.1.length g.2.2.2), (11, none, .int .i64 (g.1 : Int))])
    (fun g W => g.1 ≤ steps.length ∧ Below w2.heap.size w2 W ∧ SB W (.slice g.2.2.1 g.2.1.length g.2.2.2) g.2.1 ∧ Valid g.2.1 ∧ g.2.1.length = l.length ∧ (∃ q, g.2.1[bn]? = some q ∧ q.closed = true) ∧ inside g.2.1 bn = inside l bn)
    (fun g => steps.length - g.1) (0, l, some ad, cap) [0, 2, 7, 8, 9, 10, 11] ⟨by simp, Below.refl _ _, l2, hv, rfl, ⟨bb, hbb, hclosed⟩, rfl⟩ rfl ?_
  rintro ⟨i, n, An, cn⟩ W ⟨hi, hbW, nW, hnv, hnl, ⟨q, hq, hqc⟩, hins⟩
  dsimp only at hi nW hnv hnl hq hins
  have hsW := ((hs.below (b1.step c2)).below hbW)
  have huW := hu.below hbW
  have lW := sb_step l2 hbW
  refine CW.seq (CW.seq (CW.region ?_))
  refine TW.move rfl rfl rfl ct ?_
  refine TW.move rfl rfl rfl ct ?_
  refine TW.lenSlice rfl rfl Try.underlying42 rfl ct ?_
  refine TW.lss rfl rfl rfl ct rfl ct ?_
  refine TW.nil (KW.pick [0, 2, 7, 8, 9, 10, 11, 45] [(0, _, _), (2, _, _), (7, _, _), (8, _, _), (9, _, _), (10, _, _), (11, _, _), (45, _, _)] rfl (KW.then_ ?_))
  refine CW.condP rfl (fun hlt => ?_) (fun hge => ?_)
  · have hil : i < steps.length := by omega
    obtain ⟨s, hsi⟩ : ∃ s, steps[i]? = some s := ⟨steps[i], List.getElem?_eq_getElem hil⟩
    obtain ⟨ads, hAs, hcell, s0, s1⟩ := u16_at hsW hsi
    subst hAs
    have hws := wrap_fits (z := s) (by omega)
    obtain ⟨adn, hAn, _⟩ := box_at nW hq
    subst hAn
    refine CW.skip (KW.then_ (CW.seq (CW.block (CW.seq (CW.region ?_)))))
    refine TW.move rfl rfl rfl ct ?_
    refine TW.move rfl rfl rfl ct ?_
    refine TW.indexAddr rfl rfl Try.underlying42 sz43 rfl ct rfl ct (fun _ => by (try dsimp only); omega) ?_
    refine TW.load rfl rfl one43 rfl ct (fun _ => hcell) ?_
    refine TW.conv rfl rfl rfl Try.underlying3 rfl ct ?_
    refine TW.assign rfl rfl rfl ct ?_
    refine TW.nil (KW.pick [0, 2, 7, 8, 9, 10, 11, 12] [(0, _, _), (2, _, _), (7, _, _), (8, _, _), (9, _, _), (10, _, _), (11, _, _), (12, _, _)] rfl (KW.then_ ?_))
    refine CW.seq (CW.region ?_)
    refine TW.move rfl rfl rfl ct ?_
    refine TW.quo rfl rfl rfl ct rfl ct (fun _ => by (try dsimp only); omega) ?_
    refine TW.move rfl rfl rfl ct ?_
    refine TW.lenSlice rfl rfl Try.underlying22 rfl ct ?_
    refine TW.rem rfl rfl rfl ct rfl ct (fun _ => by (try dsimp only); omega) ?_
    refine TW.assign rfl rfl rfl ct ?_
    refine TW.nil (KW.pick [0, 2, 7, 8, 9, 10, 11, 12, 13] [(0, _, _), (2, _, _), (7, _, _), (8, _, _), (9, _, _), (10, _, _), (11, _, _), (12, _, _), (13, _, _)] rfl (KW.then_ ?_))
    refine CW.seq (CW.seq (CW.region ?_))
    refine TW.move rfl rfl rfl ct ?_
    refine TW.move rfl rfl rfl ct ?_
    refine TW.eql rfl rfl rfl ct rfl ct ?_
    refine TW.move rfl rfl rfl ct ?_
    refine TW.move rfl rfl rfl ct ?_
    refine TW.rem rfl rfl rfl id rfl ct (fun _ => by (try dsimp only); omega) ?_
    refine TW.eql rfl rfl rfl id rfl ct ?_
    refine TW.pickAnd rfl rfl rfl ct rfl pAnd0 ?_
    refine TW.nil (KW.pick [0, 2, 7, 8, 9, 10, 11, 12, 13, 65] [(0, _, _), (2, _, _), (7, _, _), (8, _, _), (9, _, _), (10, _, _), (11, _, _), (12, _, _), (13, _, _), (65, _, _)] rfl (KW.then_ ?_))
    obtain ⟨xn, hxn⟩ : ∃ xn : Nat, IntKind.i64.wrap s / 5 % (l.length : Int) = xn := ⟨(IntKind.i64.wrap s / 5 % (l.length : Int)).toNat, by rw [Int.toNat_of_nonneg (Int.emod_nonneg _ (by omega))]⟩
    have hxl : xn < l.length := by have := Int.emod_lt_of_pos (IntKind.i64.wrap s / 5) (show (0 : Int) < l.length by omega); omega
    obtain ⟨on, hon⟩ : ∃ on : Nat, IntKind.i64.wrap s / 7 % (l.length : Int) = on := ⟨(IntKind.i64.wrap s / 7 % (l.length : Int)).toNat, by rw [Int.toNat_of_nonneg (Int.emod_nonneg _ (by omega))]⟩
    have hol : on < l.length := by have := Int.emod_lt_of_pos (IntKind.i64.wrap s / 7) (show (0 : Int) < l.length by omega); omega
    obtain ⟨k, hkz, hk0, hk1⟩ : ∃ k : Int, IntKind.i64.wrap s % 5 = k ∧ 0 ≤ k ∧ k ≤ 4 := ⟨_, rfl, by omega, by omega⟩
    rw [hxn, hkz]
    refine CW.cond rfl (fun hskip => ?_) (fun hgo => ?_)
    · refine CW.exit (KW.thenX (KW.blockX (KW.then_ (CW.region ?_))))
      refine TW.move rfl rfl rfl ct ?_
      refine TW.add rfl rfl rfl ct rfl ct (fun _ => by (try dsimp only); omega) ?_
      refine TW.assign rfl rfl rfl ct ?_
      refine TW.nil (KW.pick [0, 2, 7, 8, 9, 10, 11, 12, 13] [(0, _, _), (2, _, _), (7, _, _), (8, _, _), (9, _, _), (10, _, _), (11, _, _), (12, _, _), (13, _, _)] rfl ?_)
      refine KW.round (i + 1, n, some adn, cn) [0, 2, 7, 8, 9, 10, 11] rfl ⟨by show i + 1 ≤ _; omega, hbW, nW, hnv, hnl, ⟨q, hq, hqc⟩, hins⟩ (by show steps.length - (i + 1) < steps.length - i; omega)
    have hno : ¬ (xn = bn ∧ k = 3) := fun h => by simp [h.1, h.2] at hgo
    refine CW.skip (KW.then_ (CW.seq (CW.region ?_)))
    refine TW.move rfl rfl rfl ct ?_
    refine TW.move rfl rfl rfl ct ?_
    refine TW.rem rfl rfl rfl ct rfl ct (fun _ => by (try dsimp only); omega) ?_
    refine TW.move rfl rfl rfl ct ?_
    refine TW.move rfl rfl rfl ct ?_
    refine TW.quo rfl rfl rfl ct rfl ct (fun _ => by (try dsimp only); omega) ?_
    refine TW.move rfl rfl rfl ct ?_
    refine TW.lenSlice rfl rfl Try.underlying22 rfl ct ?_
    refine TW.rem rfl rfl rfl ct rfl ct (fun _ => by (try dsimp only); omega) ?_
    rw [hkz, hon]
    obtain ⟨r, hr⟩ : ∃ r, chS n k (xn : Int) (on : Int) = r := ⟨_, rfl⟩
    obtain ⟨m, e⟩ := r
    refine TW.call0 (cap := []) rfl rfl en32 rfl (Args.cons rfl ct (Args.cons rfl ct (Args.cons rfl ct (Args.cons rfl ct Args.nil)))) (changed_c k (xn : Int) (on : Int) hk0 hk1 (nat_i64 hxl (by omega)) (nat_i64 hol (by omega)) (fun _ => by omega) nW) ?_
    rintro _ w3 ⟨vm, rfl, hm3, c3⟩
    rw [hr] at hm3 ⊢
    obtain ⟨Am, cm, rfl⟩ := sb_form hm3
    have hw := ch_went hnv ⟨hk0, hk1⟩ (by omega) hr
    have n3 := sb_step nW c3
    have hu3 := huW.below c3
    have b3 := hbW.step c3
    refine TW.move rfl rfl rfl ct ?_
    refine TW.extract rfl rfl rfl rfl ct ?_
    refine TW.extract rfl rfl rfl rfl ct ?_
    refine TW.assign rfl rfl rfl ct ?_
    refine TW.assign rfl rfl rfl ct ?_
    refine TW.nil (KW.pick [0, 2, 7, 8, 9, 10, 11, 12, 13, 14, 15] [(0, _, _), (2, _, _), (7, _, _), (8, _, _), (9, _, _), (10, _, _), (11, _, _), (12, _, _), (13, _, _), (14, _, _), (15, _, _)] rfl (KW.then_ ?_))
    refine CW.seq (CW.seq (CW.region ?_))
    refine TW.move rfl rfl rfl ct ?_
    refine TW.eql rfl rfl rfl ct rfl ct ?_
    refine TW.nil (KW.pick [0, 2, 7, 8, 9, 10, 11, 12, 13, 14, 15, 80] [(0, _, _), (2, _, _), (7, _, _), (8, _, _), (9, _, _), (10, _, _), (11, _, _), (12, _, _), (13, _, _), (14, _, _), (15, _, _), (80, _, _)] rfl (KW.then_ ?_))
    refine CW.condP rfl (fun he => ?_) (fun hne => ?_)
    · have hwent : Went n m k xn on := by
        rcases hw with h | h
        · exact absurd he h.1
        · exact h.2
      have hst := went_step hnv hwent
      obtain ⟨⟨q', hq', hqc'⟩, hin'⟩ := went_sealed hnv hwent hq hqc hno
      have hml : m.length = l.length := by rw [hst.len, hnl]
      obtain ⟨adm, hAm, _⟩ := box_at hm3 hq'
      have hAm' : Am = some adm := hAm
      subst hAm'
      have hmv := hst.valid
      dsimp only at hm3
      refine CW.region ?_
      refine TW.move rfl rfl rfl ct ?_
      refine TW.assign rfl rfl rfl ct ?_
      refine TW.nil (KW.pick [0, 2, 7, 8, 9, 10, 11, 12, 13, 14, 15] [(0, _, _), (2, _, _), (7, _, _), (8, _, _), (9, _, _), (10, _, _), (11, _, _), (12, _, _), (13, _, _), (14, _, _), (15, _, _)] rfl (KW.then_ ?_))
      refine CW.seq (CW.region ?_)
      refine TW.move rfl rfl rfl ct ?_
      refine TW.lenSlice rfl rfl Try.underlying22 rfl ct ?_
      refine TW.move rfl rfl rfl ct ?_
      refine TW.lenSlice rfl rfl Try.underlying22 rfl ct ?_
      refine TW.neq rfl rfl rfl ct rfl ct ?_
      refine TW.move rfl rfl rfl ct ?_
      refine TW.known rfl (by simp [Cnd, hml, hqc']) ?_
      refine TW.move rfl rfl rfl ct ?_
      refine TW.known rfl (by simp [Cnd, hml, hqc']) ?_
      refine TW.move rfl rfl rfl ct ?_
      refine TW.known rfl (by simp [Cnd, hml, hqc']) ?_
      refine TW.indexAddr rfl rfl Try.underlying22 sz28 rfl ct rfl ct (fun _ => by (try dsimp only); omega) ?_
      refine TW.known rfl (by simp [Cnd, hml, hqc']) ?_
      refine TW.fieldAddr rfl rfl fo28_4 rfl ct ?_
      refine TW.known rfl (by simp [Cnd, hml, hqc']) ?_
      refine TW.load rfl rfl one4 rfl ct (fun _ => box_cell hm3 hq' rfl) ?_
      refine TW.known rfl (by simp [Cnd, hml, hqc']) ?_
      refine TW.not rfl rfl rfl ct ?_
      refine TW.pickOr rfl rfl rfl ct rfl pT ?_
      refine TW.move rfl rfl rfl ct ?_
      refine TW.known rfl (by simp [Cnd, hml, hqc']) ?_
      refine TW.move rfl rfl rfl ct ?_
      refine TW.known rfl (by simp [Cnd, hml, hqc']) ?_
      refine TW.move rfl rfl rfl ct ?_
      refine TW.known rfl (by simp [Cnd, hml, hqc']) ?_
      refine TW.call0 (cap := []) rfl rfl en12 rfl (Args.cons rfl ct (Args.cons rfl ct Args.nil)) (inside_n bn hm3 hmv (by omega)) ?_
      rintro u2 w4 ⟨c4, hu4⟩
      rw [hin', hins] at hu4
      refine TW.known rfl (by simp [Cnd, hml, hqc']) ?_
      refine TW.move rfl rfl rfl ct ?_
      refine TW.known rfl (by simp [Cnd, hml, hqc']) ?_
      refine TW.callF (cap := []) rfl rfl en16 rfl ct (Args.cons rfl ct (Args.cons rfl ct Args.nil)) (fun _ => rints_c hu4 (hu3.below c4)) ?_
      rintro w5 c5
      refine TW.known rfl (by simp [Cnd, hml, hqc']) ?_
      refine TW.not rfl rfl rfl ct ?_
      refine TW.pickOr rfl rfl rfl ct rfl pT ?_
      refine TW.nil (KW.pick [0, 2, 7, 8, 9, 10, 11, 12, 13, 14, 15, 102] [(0, _, _), (2, _, _), (7, _, _), (8, _, _), (9, _, _), (10, _, _), (11, _, _), (12, _, _), (13, _, _), (14, _, _), (15, _, _), (102, _, _)] rfl (KW.then_ ?_))
      refine CW.cond rfl (fun hbad => ?_) (fun hgood => ?_)
      · exfalso
        simp [hml, hqc'] at hbad
      refine CW.skip (KW.blockN (KW.then_ (CW.region ?_)))
      refine TW.move rfl rfl rfl ct ?_
      refine TW.add rfl rfl rfl ct rfl ct (fun _ => by (try dsimp only); omega) ?_
      refine TW.assign rfl rfl rfl ct ?_
      refine TW.nil (KW.pick [0, 2, 7, 8, 9, 10, 11, 12, 13, 14, 15] [(0, _, _), (2, _, _), (7, _, _), (8, _, _), (9, _, _), (10, _, _), (11, _, _), (12, _, _), (13, _, _), (14, _, _), (15, _, _)] rfl ?_)
      refine KW.round (i + 1, m, some adm, cm) [0, 2, 7, 8, 9, 10, 11] rfl ⟨by show i + 1 ≤ _; omega, (b3.step c4).step c5, sb_step (sb_step hm3 c4) c5, hmv, hml, ⟨q', hq', hqc'⟩, hin'.trans hins⟩ (by show steps.length - (i + 1) < steps.length - i; omega)
    · have hu3' := hu3
      refine CW.skip (KW.then_ (CW.seq (CW.region ?_)))
      refine TW.move rfl rfl rfl ct ?_
      refine TW.lenSlice rfl rfl Try.underlying22 rfl ct ?_
      refine TW.move rfl rfl rfl ct ?_
      refine TW.lenSlice rfl rfl Try.underlying22 rfl ct ?_
      refine TW.neq rfl rfl rfl ct rfl ct ?_
      refine TW.move rfl rfl rfl ct ?_
      refine TW.known rfl (by simp [Cnd, hnl, hqc]) ?_
      refine TW.move rfl rfl rfl ct ?_
      refine TW.known rfl (by simp [Cnd, hnl, hqc]) ?_
      refine TW.move rfl rfl rfl ct ?_
      refine TW.known rfl (by simp [Cnd, hnl, hqc]) ?_
      refine TW.indexAddr rfl rfl Try.underlying22 sz28 rfl ct rfl ct (fun _ => by (try dsimp only); omega) ?_
      refine TW.known rfl (by simp [Cnd, hnl, hqc]) ?_
      refine TW.fieldAddr rfl rfl fo28_4 rfl ct ?_
      refine TW.known rfl (by simp [Cnd, hnl, hqc]) ?_
      refine TW.load rfl rfl one4 rfl ct (fun _ => box_cell n3 hq rfl) ?_
      refine TW.known rfl (by simp [Cnd, hnl, hqc]) ?_
      refine TW.not rfl rfl rfl ct ?_
      refine TW.pickOr rfl rfl rfl ct rfl pT ?_
      refine TW.move rfl rfl rfl ct ?_
      refine TW.known rfl (by simp [Cnd, hnl, hqc]) ?_
      refine TW.move rfl rfl rfl ct ?_
      refine TW.known rfl (by simp [Cnd, hnl, hqc]) ?_
      refine TW.move rfl rfl rfl ct ?_
      refine TW.known rfl (by simp [Cnd, hnl, hqc]) ?_
      refine TW.call0 (cap := []) rfl rfl en12 rfl (Args.cons rfl ct (Args.cons rfl ct Args.nil)) (inside_n bn n3 hnv (by omega)) ?_
      rintro u2 w4 ⟨c4, hu4⟩
      rw [hins] at hu4
      refine TW.known rfl (by simp [Cnd, hnl, hqc]) ?_
      refine TW.move rfl rfl rfl ct ?_
      refine TW.known rfl (by simp [Cnd, hnl, hqc]) ?_
      refine TW.callF (cap := []) rfl rfl en16 rfl ct (Args.cons rfl ct (Args.cons rfl ct Args.nil)) (fun _ => rints_c hu4 (hu3.below c4)) ?_
      rintro w5 c5
      refine TW.known rfl (by simp [Cnd, hnl, hqc]) ?_
      refine TW.not rfl rfl rfl ct ?_
      refine TW.pickOr rfl rfl rfl ct rfl pT ?_
      refine TW.nil (KW.pick [0, 2, 7, 8, 9, 10, 11, 12, 13, 14, 15, 102] [(0, _, _), (2, _, _), (7, _, _), (8, _, _), (9, _, _), (10, _, _), (11, _, _), (12, _, _), (13, _, _), (14, _, _), (15, _, _), (102, _, _)] rfl (KW.then_ ?_))
      refine CW.cond rfl (fun hbad => ?_) (fun hgood => ?_)
      · exfalso
        simp [hnl, hqc] at hbad
      refine CW.skip (KW.blockN (KW.then_ (CW.region ?_)))
      refine TW.move rfl rfl rfl ct ?_
      refine TW.add rfl rfl rfl ct rfl ct (fun _ => by (try dsimp only); omega) ?_
      refine TW.assign rfl rfl rfl ct ?_
      refine TW.nil (KW.pick [0, 2, 7, 8, 9, 10, 11, 12, 13, 14, 15] [(0, _, _), (2, _, _), (7, _, _), (8, _, _), (9, _, _), (10, _, _), (11, _, _), (12, _, _), (13, _, _), (14, _, _), (15, _, _)] rfl ?_)
      refine KW.round (i + 1, n, some adn, cn) [0, 2, 7, 8, 9, 10, 11] rfl ⟨by show i + 1 ≤ _; omega, (b3.step c4).step c5, sb_step (sb_step n3 c4) c5, hnv, hnl, ⟨q, hq, hqc⟩, hins⟩ (by show steps.length - (i + 1) < steps.length - i; omega)
  · refine CW.exit (KW.thenX (KW.thenX (KW.blockX (KW.then_ (CW.seq (CW.region ?_))))))
    refine TW.move rfl rfl rfl ct ?_
    refine TW.assign rfl rfl rfl ct ?_
    refine TW.nil (KW.pick [0, 2, 6, 7, 8, 9, 10, 11] [(0, _, _), (2, _, _), (6, _, _), (7, _, _), (8, _, _), (9, _, _), (10, _, _), (11, _, _)] rfl (KW.then_ ?_))
    refine CW.ret ?_
    refine ret1 Try.results9 rfl (⟨b2.step hbW, rfl⟩)
end Go.Proofs.Ytegmhdabedgloaa
