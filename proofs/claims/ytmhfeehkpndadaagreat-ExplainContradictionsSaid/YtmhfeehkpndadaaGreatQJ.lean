/- Texts joined: Db Dc Dd RowB. -/
import Derived.Test.YtmhfeehkpndadaaGreatQG
import Derived.Test.YtmhfeehkpndadaaGreatQF
import Derived.Test.YtmhfeehkpndadaaGreatQC
set_option linter.unusedSimpArgs false
set_option linter.unusedVariables false

namespace Go.Proofs.YtmhfeehkpndadaaGreat
open Go.PF Go.RowKit Go.Ord

abbrev RL (w : World) (v : Value) (L : List RS) : Prop := OwnS w 139 4 v L.length (L.flatMap rsCells)
theorem rs_len (L : List RS) : ∀ x ∈ L, (rsCells x).length = 4 := fun _ _ => rfl
theorem RL.sl {w : World} {v : Value} {L : List RS} (h : RL w v L) (hL : L.length ≤ 9223372036854775807) : SL rsT (fun _ => True) w v L := OwnS.toSL (T := rsT) rsCells (fun _ _ => rfl) h (fun _ _ => trivial) hL
theorem rs_get {w : World} {ad : Addr} {n cap : Nat} {L : List RS} (h : RL w (.slice (some ad) n cap) L) (hL : L.length ≤ 9223372036854775807) {i : Nat} {s : RS} (hs : L[i]? = some s) :
    ∀ (j : Nat) v, (rsCells s)[j]? = some v → w.cell? ((ad.add ((i : Int).toNat * 4)).add j) = some v := SL.getC rsCells (fun _ _ _ _ h => h) (RL.sl h hL) hs
theorem rl_addr {w : World} {A : Option Addr} {n cap : Nat} {L : List RS} (h : RL w (.slice A n cap) L) (hL : 0 < L.length) : ∃ g, A = some ⟨g, 0, none⟩ := by
  obtain ⟨A', cap', hv, _, _, hc⟩ := h.form
  have : 0 < (L.flatMap rsCells).length := by rw [len_flat rsCells 4 L (rs_len L)]; omega
  obtain ⟨g', hA, _⟩ := hc 0 _ (List.getElem?_eq_getElem this)
  simp only [Value.slice.injEq] at hv
  rw [hv.1, hA]
  exact ⟨g', rfl⟩
theorem grown_kept {w w' : World} {v : Option Nat} {F : Nat → Prop} (h : w.grownBy w' v) (hF : ∀ k, F k → v ≠ some k) : Kept F w w' := Kept.of_blocks fun k hk hlt => h.block k hlt (fun e => hF k hk e.symm)
/-- blocks of before that may have turned: those of 'v' -/
theorem grown_step {w w1 w2 : World} {v : Option Nat} (h : w.grownBy w1 v) (hb : Below w1.heap.size w1 w2) : w.grownBy w2 v :=
  ⟨hb.os.trans h.os, hb.tape.trans h.tape, hb.output.trans h.output, Nat.le_trans h.size hb.size, fun k hk hne => (hb.block k (Nat.lt_of_lt_of_le hk h.size)).trans (h.block k hk hne)⟩
theorem grown_more {w w1 w2 : World} {v u : Option Nat} (h : w.grownBy w1 v) (hb : w1.grownBy w2 u) (hu : ∀ g, u = some g → v = some g ∨ w.heap.size ≤ g) : w.grownBy w2 v :=
  ⟨hb.os.trans h.os, hb.tape.trans h.tape, hb.output.trans h.output, Nat.le_trans h.size hb.size, fun k hk hne => (hb.block k (Nat.lt_of_lt_of_le hk h.size) (fun e => by
    rcases hu k e.symm with h1 | h1
    · exact hne h1.symm
    · omega)).trans (h.block k hk hne)⟩

/-- what 'extended' has done: the states that follow from the one at k are there -/
def Done (d : Dist) (us : List U) (s : RS) (L : List RS) (i : Nat) : Prop := ∀ (j : Nat) v, j < i → us[j]? = some v → s.set.testBit j = false → CanB d (stOf us s) v → OpenP d us (s.set ||| 1 <<< j) (nxt d (stOf us s) v) → Has L (s.set ||| 1 <<< j) j (beg d (stOf us s) v)
theorem Done.lat {d : Dist} {us : List U} {s : RS} {L L' : List RS} {i b : Nat} (h : Done d us s L i) (hl : Lat b L L') : Done d us s L' i := fun j v hj hv hb hc ho => (h j v hj hv hb hc ho).lat hl

set_option maxRecDepth 20000 in
set_option maxHeartbeats 2000000 in
theorem rext_c {w : World} {dv nv lv : Value} {d : Dist} {ns : List Nd} {L : List RS} {F G : Nat → Prop} {m k r b : Nat} {s : RS} (hd : SL (sliceT intT) F w dv d) (hw : WfD d) (hn : SL ndT G w nv ns) (hok : ∀ x ∈ ns, NdOK d m x) (h16 : ns.length ≤ 16) (hL : RL w lv L) (hF : ∀ q, F q → lv.ownBlock ≠ some q) (hG : ∀ q, G q → lv.ownBlock ≠ some q)
    (hdp : DP d (usOf ns) r b L) (hb : b ≤ L.length) (hk : L[k]? = some s) (hkb : k < b) :
    Gives Tryz.prog 109 #[dv, nv, lv, .int .i64 (k : Int), .int .i64 (r : Int), .int .i64 (b : Int)] w fun u w' => w.grownBy w' lv.ownBlock ∧ (∀ g, u.ownBlock = some g → lv.ownBlock = some g ∨ w.heap.size ≤ g) ∧ ∃ L', RL w' u L' ∧ DP d (usOf ns) r b L' ∧ Lat b L L' ∧ (pc s.set = r → Done d (usOf ns) s L' ns.length) := by
  obtain ⟨A, cap, rfl, _⟩ := hd.form
  obtain ⟨B, bcap, rfl, _⟩ := hn.form
  obtain ⟨C, ccap, rfl, _⟩ := hL.form
  have husl : (usOf ns).length = ns.length := by simp [usOf]
  have hfew := hdp.few (by omega)
  have hkl := (List.getElem?_eq_some_iff.1 hk).1
  have hs := hdp.each s (List.mem_of_getElem? hk)
  obtain ⟨cg, rfl⟩ := rl_addr hL (by omega)
  have hslast : s.last < ns.length := by have := hs.last; omega
  obtain ⟨x, hx, hxm⟩ := getx (l := ns) (k := s.last) hslast
  have hxo := hok x hxm
  have hst : stOf (usOf ns) s = (some x.endo.toNat, s.time + x.gap) := stOf_eq (us_get hx)
  have hset : s.set < 65536 := by have h1 := hs.bits; have h2 := pow_le16 (i := (usOf ns).length) (by omega); omega
  obtain ⟨nd, rfl⟩ := hn.addr (by omega)
  obtain ⟨ad, rfl⟩ := hd.addr (by have := hxo.o1; omega)
  obtain ⟨xo, hxe⟩ : ∃ o : Nat, x.endo = o := ⟨x.endo.toNat, by have := hxo.e0; omega⟩
  have hxe' : x.endo.toNat = xo := by omega
  have hxl : xo < d.length := by have := hxo.e1; omega
  have hg0 := hxo.g0
  have hg1 := hxo.g1
  have ht0 := hs.t0
  have ht1 := hs.t1
  have hwin := us_win hok
  refine gives_of (vs := [.slice (some ad) d.length cap, .slice (some nd) ns.length bcap, .slice (some ⟨cg, 0, none⟩) L.length ccap, .int .i64 (k : Int), .int .i64 (r : Int), .int .i64 (b : Int)]) [(0, none, _), (1, none, _), (2, none, _), (3, none, _), (4, none, _), (5, none, _)] Tryz.func109 rfl Tryz.ntmps109 rfl rfl ?_
  refine CW.seq (CW.region ?_)
  refine TW.assign rfl rfl rfl ct ?_
  refine TW.nil (KW.pick [0, 1, 2, 3, 4, 5, 12] [(0, _, _), (1, _, _), (2, _, _), (3, _, _), (4, _, _), (5, _, _), (12, _, _)] rfl (KW.then_ ?_))
  refine CW.seq (CW.region ?_)
  refine TW.move rfl rfl rfl ct ?_
  refine TW.move rfl rfl rfl ct ?_
  refine TW.indexAddr rfl rfl Tryz.underlying134 sz139 rfl ct rfl ct (fun _ => by (try dsimp only); omega) ?_
  refine TW.loadS _ rfl rfl Tryz.underlying139 sz139 rfl ct (fun _ => (rs_get hL (by omega) hk)) rfl ?_
  refine TW.newVar rfl zc139 rfl sz139 rfl rfl ?_
  rintro g1 w1 f1
  refine TW.nil (KW.pick [0, 1, 2, 3, 4, 5, 12, 13] [(0, _, _), (1, _, _), (2, _, _), (3, _, _), (4, _, _), (5, _, _), (12, _, _), (13, _, _)] rfl (KW.then_ ?_))
  refine CW.seq (CW.seq (CW.region ?_))
  refine TW.fieldAddr rfl rfl fo139_2 rfl ct ?_
  have hg1a := f1.at_
  have hg1s := f1.size
  have hcg : cg < w.heap.size := hL.lt rfl
  refine TW.load rfl rfl one3 rfl ct (fun _ => f1.blk.fld rfl) ?_
  refine TW.call0 (cap := []) rfl rfl en119 rfl (Args.cons rfl ct Args.nil) (rcount_c (s := s.set) (by omega)) ?_
  rintro y w2 ⟨c2, rfl⟩
  have hgr2 : w.grownBy w2 (some cg) := grown_step (grown_step ⟨rfl, rfl, rfl, Nat.le_refl _, fun _ _ _ => rfl⟩ f1.below) c2
  have hL2 : RL w2 (.slice (some ⟨cg, 0, none⟩) L.length ccap) L := (hL.below f1.below).below c2
  have hB2 : Blk w2 g1 139 (rsCells s) := f1.blk.next c2
  refine TW.move rfl rfl rfl ct ?_
  refine TW.neq rfl rfl rfl ct rfl ct ?_
  refine TW.nil (KW.pick [0, 1, 2, 3, 4, 5, 12, 13, 27] [(0, _, _), (1, _, _), (2, _, _), (3, _, _), (4, _, _), (5, _, _), (12, _, _), (13, _, _), (27, _, _)] rfl (KW.then_ ?_))
  refine CW.condP rfl (fun hne => ?_) (fun heq => ?_)
  · refine CW.seq (CW.region ?_)
    refine TW.move rfl rfl rfl ct ?_
    refine TW.assign rfl rfl rfl ct ?_
    refine TW.nil (KW.pick [0, 1, 2, 3, 4, 5, 12, 13] [(0, _, _), (1, _, _), (2, _, _), (3, _, _), (4, _, _), (5, _, _), (12, _, _), (13, _, _)] rfl (KW.then_ ?_))
    refine CW.ret (KW.thenR ?_)
    refine ret1 Tryz.results109 rfl (⟨hgr2, fun g hg => .inl hg, L, hL2, hdp, Lat.refl hb, fun e => by rw [e] at hne; exact absurd rfl hne⟩)
  have hpr : pc s.set = r := by omega
  refine CW.skip (KW.then_ (CW.seq (CW.seq (CW.region ?_))))
  refine TW.assign rfl rfl rfl ct ?_
  refine TW.nil (KW.pick [0, 1, 2, 3, 4, 5, 12, 13, 14] [(0, _, _), (1, _, _), (2, _, _), (3, _, _), (4, _, _), (5, _, _), (12, _, _), (13, _, _), (14, _, _)] rfl (KW.then_ ?_))
  refine CW.block ?_
  refine CW.loopS (fun x : Nat × Value × List RS => [(0, none, .slice (some ad) d.length cap), (1, none, .slice (some nd) ns.length bcap), (2, none, x.2.1), (3, none, .int .i64 (k : Int)), (5, none, .int .i64 (b : Int)), (13, none, .pointer (some ⟨g1, 0, none⟩)), (14, none, .int .i64 (x.1 : Int))])
    (fun x W => x.1 ≤ ns.length ∧ w.grownBy W (some cg) ∧ RL W x.2.1 x.2.2 ∧ (∀ g, x.2.1.ownBlock = some g → g = cg ∨ w.heap.size ≤ g ∧ g ≠ g1) ∧ Blk W g1 139 (rsCells s) ∧ DP d (usOf ns) r b x.2.2 ∧ Lat b L x.2.2 ∧ Done d (usOf ns) s x.2.2 x.1) (fun x => ns.length - x.1) (0, .slice (some ⟨cg, 0, none⟩) L.length ccap, L) [0, 1, 2, 3, 5, 13, 14]
    ⟨Nat.zero_le _, hgr2, hL2, fun g hg => by simp [Value.ownBlock] at hg; exact .inl hg.symm, hB2, hdp, Lat.refl hb, fun j v hj => by omega⟩ rfl ?_
  rintro ⟨i, cv, M⟩ W ⟨hi, hgW, hM, hcv, hBW, hdpM, hlat, hdone⟩
  dsimp only at hi hgW hM hcv hBW hdpM hlat hdone
  have hfewM := hdpM.few (by omega)
  have hbM : b ≤ M.length := by
    have h1 := congrArg List.length hlat.2.1
    simp only [List.length_take] at h1
    omega
  have hkM : M[k]? = some s := by
    have h1 : (M.take b)[k]? = (L.take b)[k]? := by rw [hlat.2.1]
    rw [List.getElem?_take_of_lt hkb, List.getElem?_take_of_lt hkb, hk] at h1
    exact h1
  have hdW : SL (sliceT intT) F W (.slice (some ad) d.length cap) d := hd.mono (grown_kept hgW hF)
  have hnW : SL ndT G W (.slice (some nd) ns.length bcap) ns := hn.mono (grown_kept hgW hG)
  have hcvne : ∀ g, cv.ownBlock = some g → g ≠ g1 := fun g hg => by
    rcases hcv g hg with h | h
    · omega
    · exact h.2
  obtain ⟨CM, cmcap, rfl, _⟩ := hM.form
  obtain ⟨mg, rfl⟩ := rl_addr hM (by have := (List.getElem?_eq_some_iff.1 hkM).1; omega)
  refine CW.seq (CW.seq (CW.region ?_))
  refine TW.move rfl rfl rfl ct ?_
  refine TW.move rfl rfl rfl ct ?_
  refine TW.lenSlice rfl rfl Tryz.underlying131 rfl ct ?_
  refine TW.lss rfl rfl rfl ct rfl ct ?_
  refine TW.nil (KW.pick [0, 1, 2, 3, 5, 13, 14, 32] [(0, _, _), (1, _, _), (2, _, _), (3, _, _), (5, _, _), (13, _, _), (14, _, _), (32, _, _)] rfl (KW.then_ ?_))
  refine CW.condP rfl (fun hlt => ?_) (fun hge => ?_)
  · obtain ⟨y, hy, hym⟩ := getx (l := ns) (k := i) (by omega)
    have hyo := hok y hym
    obtain ⟨yo, hye⟩ : ∃ o : Nat, y.office = o := ⟨y.office.toNat, by have := hyo.o0; omega⟩
    have hyl : yo < d.length := by have := hyo.o1; omega
    obtain ⟨rd, rc, hr1, hr2⟩ := dist_get hdW hw hxl hyl
    have hrng := hw.rng xo yo hxl hyl
    have hxc := nd_get hnW hx
    have hyc := nd_get hnW hy
    have h6 : W.cell? ((nd.add ((s.last : Int).toNat * 7)).add 6) = some (.int .i64 (xo : Int)) := by rw [← hxe]; exact hxc 6 _ rfl
    have h2 : W.cell? ((nd.add ((i : Int).toNat * 7)).add 2) = some (.int .i64 (yo : Int)) := by rw [← hye]; exact hyc 2 _ rfl
    have hp := Nat.two_pow_pos i
    have hp16 := pow_le16 (i := i) (by omega)
    have hw0 := hyo.w0
    have hw1 := hyo.w1
    have hw2 := hyo.w2
    have hbt := bit_test s.set i
    have hfar : far d (stOf (usOf ns) s).1 y.u = at2 d xo yo := by
      rw [hst]
      show at2 d x.endo.toNat y.office.toNat = _
      rw [hxe', show y.office.toNat = yo by omega]
    have hcan : CanB d (stOf (usOf ns) s) y.u ↔ at2 d xo yo ≠ -1 ∧ s.time + x.gap + at2 d xo yo ≤ y.high := by
      unfold CanB
      rw [hfar, hst]
      exact Iff.rfl
    have hbeg : beg d (stOf (usOf ns) s) y.u = max y.low (s.time + x.gap + at2 d xo yo) := by
      unfold beg
      rw [hfar, hst]
      rfl
    have skip : ∀ W', (¬ (s.set.testBit i = false ∧ CanB d (stOf (usOf ns) s) y.u ∧ OpenP d (usOf ns) (s.set ||| 1 <<< i) (nxt d (stOf (usOf ns) s) y.u))) → Below W.heap.size W W' → i + 1 ≤ ns.length ∧ w.grownBy W' (some cg) ∧ RL W' (.slice (some ⟨mg, 0, none⟩) M.length cmcap) M ∧ (∀ g, (Value.slice (some ⟨mg, 0, none⟩) M.length cmcap).ownBlock = some g → g = cg ∨ w.heap.size ≤ g ∧ g ≠ g1) ∧ Blk W' g1 139 (rsCells s) ∧ DP d (usOf ns) r b M ∧ Lat b L M ∧ Done d (usOf ns) s M (i + 1) := by
      intro W' hno hb'
      refine ⟨by omega, grown_step hgW hb', hM.below hb', hcv, hBW.next hb', hdpM, hlat, fun j v hj hv h1 h2 h3 => ?_⟩
      by_cases hji : j < i
      · exact hdone j v hji hv h1 h2 h3
      · have : j = i := by omega
        subst this
        rw [us_get hy] at hv
        cases hv
        exact absurd ⟨h1, h2, h3⟩ hno
    refine CW.skip (KW.then_ (CW.seq (CW.block (CW.seq (CW.draw mixed (by kernel_rfl) ?_)))))
    refine DW.move rfl rfl rfl ct ?_
    refine DW.move rfl rfl rfl ct ?_
    refine DW.fieldAddr rfl rfl fo139_1 rfl ct ?_
    refine DW.load rfl rfl one3 rfl ct (fun _ => hBW.fld rfl) ?_
    refine DW.indexAddr rfl rfl Tryz.underlying131 sz136 rfl ct rfl ct (fun _ => by (try dsimp only); omega) ?_
    refine DW.fieldAddr rfl rfl fo136_6 rfl ct ?_
    refine DW.load rfl rfl one3 rfl ct (fun _ => h6) ?_
    refine DW.indexAddr rfl rfl Tryz.underlying22 sz24 rfl ct rfl ct (fun _ => by (try dsimp only); omega) ?_
    refine DW.load rfl rfl one24 rfl ct (fun _ => hr1) ?_
    refine DW.move rfl rfl rfl ct ?_
    refine DW.move rfl rfl rfl ct ?_
    refine DW.indexAddr rfl rfl Tryz.underlying131 sz136 rfl ct rfl ct (fun _ => by (try dsimp only); omega) ?_
    refine DW.fieldAddr rfl rfl fo136_2 rfl ct ?_
    refine DW.load rfl rfl one3 rfl ct (fun _ => h2) ?_
    refine DW.indexAddr rfl rfl Tryz.underlying24 sz3 rfl ct rfl ct (fun _ => by (try dsimp only); omega) ?_
    refine DW.load rfl rfl one3 rfl ct (fun _ => hr2) ?_
    refine DW.assign rfl rfl rfl ct ?_
    refine DW.nil (DW.fin [0, 1, 2, 3, 5, 13, 14, 15] [(0, _, _), (1, _, _), (2, _, _), (3, _, _), (5, _, _), (13, _, _), (14, _, _), (15, _, _)] rfl (fun w3 b3 => KW.then_ ?_))
    refine CW.seq (CW.seq (CW.draw mixed (by kernel_rfl) ?_))
    refine DW.fieldAddr rfl rfl fo139_2 rfl ct ?_
    have hB3 := hBW.next b3
    refine DW.load rfl rfl one3 rfl ct (fun _ => hB3.fld rfl) ?_
    refine DW.move rfl rfl rfl ct ?_
    refine DW.call (.ex (.int .i64 ((2 ^ i : Nat) : Int))) trivial rfl rfl en108 rfl ct (DArgs.cons rfl ct DArgs.nil) (fun _ w' hb' => (rbit_c (i := i) (by omega)).mono fun u w'' ⟨h1, h2⟩ => ⟨h1, h2⟩) ?_
    refine DW.quo rfl rfl rfl ct rfl ct (fun _ => by omega) ?_
    refine DW.rem rfl rfl rfl ct rfl ct (fun _ => ⟨Int.ediv_nonneg (by omega) (by omega), by omega, by omega⟩) ?_
    refine DW.eql rfl rfl rfl ct rfl ct ?_
    refine DW.move rfl rfl rfl ct ?_
    refine DW.move rfl rfl rfl ct ?_
    refine DW.lss rfl rfl rfl id rfl ct ?_
    refine DW.pickOr rfl rfl rfl ct rfl pOr0 ?_
    refine DW.nil (DW.fin [0, 1, 2, 3, 5, 13, 14, 15, 61] [(0, _, _), (1, _, _), (2, _, _), (3, _, _), (5, _, _), (13, _, _), (14, _, _), (15, _, _), (61, _, _)] rfl (fun w4 b4 => KW.then_ ?_))
    have b34 := b3.step b4
    rw [natdiv]
    obtain ⟨bq, hbq⟩ : ∃ bq, bq = s.set / 2 ^ i % 2 := ⟨_, rfl⟩
    rw [← hbq] at hbt
    rw [← hbq]
    refine CW.cond rfl (fun hskip => ?_) (fun hgo => ?_)
    · refine CW.exit (KW.thenX (KW.blockX (KW.then_ (CW.region ?_))))
      refine TW.move rfl rfl rfl ct ?_
      refine TW.add rfl rfl rfl ct rfl ct (fun _ => by (try dsimp only); omega) ?_
      refine TW.assign rfl rfl rfl ct ?_
      refine TW.nil (KW.pick [0, 1, 2, 3, 5, 13, 14, 15] [(0, _, _), (1, _, _), (2, _, _), (3, _, _), (5, _, _), (13, _, _), (14, _, _), (15, _, _)] rfl ?_)
      refine KW.round (i + 1, .slice (some ⟨mg, 0, none⟩) M.length cmcap, M) [0, 1, 2, 3, 5, 13, 14] rfl (skip w4 ?_ b34) (by show ns.length - (i + 1) < ns.length - i; omega)
      rintro ⟨h1, h2, _⟩
      rw [h1] at hbt
      have h3 : ¬ bq = 1 := by simpa using hbt.symm
      have h4 := (hcan.1 h2).1
      simp at hskip
      omega
    have hbit : s.set.testBit i = false := by
      rw [hbt]
      simp at hgo
      simp
      omega
    have hway : at2 d xo yo ≠ -1 := by
      simp at hgo
      omega
    have hB4 := hB3.next b4
    have hnW4 := hnW.below b34
    have hxc4 := nd_get hnW4 hx
    have hyc4 := nd_get hnW4 hy
    refine CW.skip (KW.then_ (CW.seq (CW.draw mixed (by kernel_rfl) ?_)))
    refine DW.fieldAddr rfl rfl fo139_0 rfl ct ?_
    refine DW.load rfl rfl one3 rfl ct (fun _ => hB4.fld rfl) ?_
    refine DW.move rfl rfl rfl ct ?_
    refine DW.fieldAddr rfl rfl fo139_1 rfl ct ?_
    refine DW.load rfl rfl one3 rfl ct (fun _ => hB4.fld rfl) ?_
    refine DW.indexAddr rfl rfl Tryz.underlying131 sz136 rfl ct rfl ct (fun _ => by (try dsimp only); omega) ?_
    refine DW.fieldAddr rfl rfl fo136_5 rfl ct ?_
    refine DW.load rfl rfl one3 rfl ct (fun _ => hxc4 5 _ rfl) ?_
    refine DW.add rfl rfl rfl ct rfl ct (fun _ => by omega) ?_
    refine DW.move rfl rfl rfl ct ?_
    refine DW.add rfl rfl rfl ct rfl ct (fun _ => by omega) ?_
    refine DW.move rfl rfl rfl ct ?_
    refine DW.move rfl rfl rfl ct ?_
    refine DW.indexAddr rfl rfl Tryz.underlying131 sz136 rfl ct rfl ct (fun _ => by (try dsimp only); omega) ?_
    refine DW.fieldAddr rfl rfl fo136_3 rfl ct ?_
    refine DW.load rfl rfl one3 rfl ct (fun _ => hyc4 3 _ rfl) ?_
    refine DW.maxI rfl rfl rfl ct rfl ct ?_
    refine DW.assign rfl rfl rfl ct ?_
    refine DW.nil (DW.fin [0, 1, 2, 3, 5, 13, 14, 15, 16] [(0, _, _), (1, _, _), (2, _, _), (3, _, _), (5, _, _), (13, _, _), (14, _, _), (15, _, _), (16, _, _)] rfl (fun w5 b5 => KW.then_ ?_))
    refine CW.seq (CW.seq (CW.draw mixed (by kernel_rfl) ?_))
    refine DW.move rfl rfl rfl ct ?_
    refine DW.move rfl rfl rfl ct ?_
    refine DW.move rfl rfl rfl ct ?_
    refine DW.indexAddr rfl rfl Tryz.underlying131 sz136 rfl ct rfl ct (fun _ => by (try dsimp only); omega) ?_
    refine DW.fieldAddr rfl rfl fo136_4 rfl ct ?_
    have b35 := b34.step b5
    have hB5 := hB4.next b5
    have hnW5 := hnW4.below b5
    have hyc5 := nd_get hnW5 hy
    have hdW5 := hdW.below b35
    rw [show max (s.time + x.gap + at2 d xo yo) y.low = beg d (stOf (usOf ns) s) y.u by rw [hbeg]; omega]
    obtain ⟨t, htt⟩ : ∃ t, t = beg d (stOf (usOf ns) s) y.u := ⟨_, rfl⟩
    have htl : 0 ≤ t ∧ t ≤ 4000000 := by rw [htt, hbeg]; omega
    have hnxt : nxt d (stOf (usOf ns) s) y.u = (some y.endo.toNat, t + y.gap) := by rw [htt]; rfl
    rw [← htt]
    have hsum : ((s.set : Int) + ((2 ^ i : Nat) : Int)) = ((s.set ||| 1 <<< i : Nat) : Int) := by rw [← add_bit hbit]; simp
    have hor : s.set ||| 1 <<< i ≤ 1000000000 := by rw [← add_bit hbit]; omega
    have hopen : t ≤ y.high → ∀ w', Below w5.heap.size w5 w' → Gives Tryz.prog 120 #[.slice (some ad) d.length cap, .slice (some nd) ns.length bcap, .int .i64 ((s.set : Int) + ((2 ^ i : Nat) : Int)), .int .i64 (i : Int), .int .i64 t] w' fun u w'' => Below w'.heap.size w' w'' ∧ u = .bool (dec (OpenP d (usOf ns) (s.set ||| 1 <<< i) (nxt d (stOf (usOf ns) s) y.u))) := fun hth w' hb' => by
      rw [hsum, hnxt]
      exact ropen_c (hdW5.below hb') hw (hnW5.below hb') hok h16 hy hor ⟨htl.1, by omega⟩
    refine DW.load rfl rfl one3 rfl ct (fun _ => hyc5 4 _ rfl) ?_
    refine DW.gtr rfl rfl rfl ct rfl ct ?_
    refine DW.move rfl rfl rfl ct ?_
    refine DW.move rfl rfl rfl ct ?_
    refine DW.move rfl rfl rfl ct ?_
    refine DW.fieldAddr rfl rfl fo139_2 rfl ct ?_
    refine DW.load rfl rfl one3 rfl id (fun _ => hB5.fld rfl) ?_
    refine DW.move rfl rfl rfl ct ?_
    refine DW.call (.ex (.int .i64 ((2 ^ i : Nat) : Int))) trivial rfl rfl en108 rfl ct (DArgs.cons rfl id DArgs.nil) (fun _ w' hb' => (rbit_c (i := i) (by omega)).mono fun u w'' ⟨h1, h2⟩ => ⟨h1, h2⟩) ?_
    refine DW.add rfl rfl rfl id rfl id (fun _ => by omega) ?_
    refine DW.move rfl rfl rfl ct ?_
    refine DW.move rfl rfl rfl ct ?_
    refine DW.call (.ex (.bool (dec (OpenP d (usOf ns) (s.set ||| 1 <<< i) (nxt d (stOf (usOf ns) s) y.u))))) trivial rfl rfl en120 rfl ct (DArgs.cons rfl id (DArgs.cons rfl id (DArgs.cons rfl id (DArgs.cons rfl id (DArgs.cons rfl id DArgs.nil))))) (fun hG w' hb' => (hopen (by simp [Cnd] at hG; omega) w' hb').mono fun u w'' ⟨h1, h2⟩ => ⟨h1, h2⟩) ?_
    refine DW.not rfl rfl rfl id ?_
    refine DW.pickOr rfl rfl rfl ct rfl pOr0 ?_
    refine DW.nil (DW.fin [0, 1, 2, 3, 5, 13, 14, 15, 16, 98] [(0, _, _), (1, _, _), (2, _, _), (3, _, _), (5, _, _), (13, _, _), (14, _, _), (15, _, _), (16, _, _), (98, _, _)] rfl (fun w6 b6 => KW.then_ ?_))
    have b36 := b35.step b6
    refine CW.cond rfl (fun hskip2 => ?_) (fun hgo2 => ?_)
    · refine CW.exit (KW.thenX (KW.blockX (KW.then_ (CW.region ?_))))
      refine TW.move rfl rfl rfl ct ?_
      refine TW.add rfl rfl rfl ct rfl ct (fun _ => by (try dsimp only); omega) ?_
      refine TW.assign rfl rfl rfl ct ?_
      refine TW.nil (KW.pick [0, 1, 2, 3, 5, 13, 14, 15, 16] [(0, _, _), (1, _, _), (2, _, _), (3, _, _), (5, _, _), (13, _, _), (14, _, _), (15, _, _), (16, _, _)] rfl ?_)
      refine KW.round (i + 1, .slice (some ⟨mg, 0, none⟩) M.length cmcap, M) [0, 1, 2, 3, 5, 13, 14] rfl (skip w6 ?_ b36) (by show ns.length - (i + 1) < ns.length - i; omega)
      rintro ⟨_, h2, h3⟩
      have h4 := (hcan.1 h2).2
      rw [dec_pos h3] at hskip2
      simp at hskip2
      rw [htt, hbeg] at hskip2
      omega
    have hth : t ≤ y.high := by
      cases hq : dec (OpenP d (usOf ns) (s.set ||| 1 <<< i) (nxt d (stOf (usOf ns) s) y.u)) <;> simp [hq] at hgo2
      omega
    have hop : OpenP d (usOf ns) (s.set ||| 1 <<< i) (nxt d (stOf (usOf ns) s) y.u) := by
      cases hq : dec (OpenP d (usOf ns) (s.set ||| 1 <<< i) (nxt d (stOf (usOf ns) s) y.u)) with
      | true => exact dec_iff.1 hq
      | false => simp [hq] at hgo2
    have hcb : CanB d (stOf (usOf ns) s) y.u := hcan.2 ⟨hway, by rw [htt, hbeg] at hth; omega⟩
    obtain ⟨hnok, hpcn, _⟩ := hs.next hwin (us_get hy) hbit hcb (k := (k : Int)) (by omega)
    rw [← htt] at hnok
    have hB6 := hB5.next b6
    have hM6 := hM.below b36
    refine CW.skip (KW.then_ (CW.seq ?_))
    refine CW.drawR mixed fun W7 hb7 => ?_
    refine RW.draw .weak 10 (by kernel_rfl) (by kernel_rfl) rfl rfl hb7 ?_
    refine DW.move rfl rfl rfl ct ?_
    refine DW.move rfl rfl rfl ct ?_
    refine DW.fieldAddr rfl rfl fo139_2 rfl ct ?_
    refine DW.load rfl rfl one3 rfl ct (fun _ => hB6.fld rfl) ?_
    refine DW.move rfl rfl rfl ct ?_
    refine DW.call (.ex (.int .i64 ((2 ^ i : Nat) : Int))) trivial rfl rfl en108 rfl ct (DArgs.cons rfl ct DArgs.nil) (fun _ w' hb' => (rbit_c (i := i) (by omega)).mono fun u w'' ⟨h1, h2⟩ => ⟨h1, h2⟩) ?_
    refine DW.add rfl rfl rfl ct rfl ct (fun _ => by omega) ?_
    refine DW.move rfl rfl rfl ct ?_
    refine DW.build [0, 1, 2, 3] [.tmp 99, .tmp 100, .tmp 105, .tmp 106] [.int .i64 t, .int .i64 (i : Int), .int .i64 ((s.set : Int) + ((2 ^ i : Nat) : Int)), .int .i64 (k : Int)] rfl rfl rfl rfl (DArgs.cons rfl ct (DArgs.cons rfl ct (DArgs.cons rfl ct (DArgs.cons rfl ct DArgs.nil)))) (by kernel_rfl) ?_
    refine DW.allocP rfl zc139 ?_
    refine DW.nil (DW.finX [0, 1, 2, 3, 5, 13, 14, 15, 16, 107] [(0, _, _), (1, _, _), (2, _, _), (3, _, _), (5, _, _), (13, _, _), (14, _, _), (15, _, _), (16, _, _), (107, _, _)] rfl [17] rfl fun vs w7 b7 hs7 => KW.rk' ?_)
    obtain ⟨v17, rfl, h17⟩ := Sats.one hs7
    obtain ⟨g7, rfl, hg7, hB7⟩ := h17
    refine RW.one (by kernel_rfl) (by kernel_rfl) rfl ?_
    refine TW.storeBlkF rfl rfl rfl hB7 sz139 rfl rfl rfl ?_
    rintro w8 hB8 hbut8 hsz8
    rw [hsum] at hB8
    refine TW.nil (KW.pick [0, 1, 2, 3, 5, 13, 14, 15, 16, 17] [(0, _, _), (1, _, _), (2, _, _), (3, _, _), (5, _, _), (13, _, _), (14, _, _), (15, _, _), (16, _, _), (17, _, _)] rfl (KW.rk ?_))
    refine RW.end rfl (KW.pick [0, 1, 2, 3, 5, 13, 14, 15, 16, 17] [(0, _, _), (1, _, _), (2, _, _), (3, _, _), (5, _, _), (13, _, _), (14, _, _), (15, _, _), (16, _, _), (17, _, _)] rfl (KW.then_ ?_))
    refine CW.seq (CW.region ?_)
    refine TW.move rfl rfl rfl ct ?_
    refine TW.assign rfl rfl rfl ct ?_
    refine TW.nil (KW.pick [0, 1, 2, 3, 5, 13, 14, 15, 16, 17, 18] [(0, _, _), (1, _, _), (2, _, _), (3, _, _), (5, _, _), (13, _, _), (14, _, _), (15, _, _), (16, _, _), (17, _, _), (18, _, _)] rfl (KW.then_ ?_))
    refine CW.seq (CW.block ?_)
    have hB8' : Blk w8 g7 139 (rsCells ⟨t, i, s.set ||| 1 <<< i, (k : Int)⟩) := hB8
    have b37 := b36.step b7
    have hs36 := b36.size
    have hs37 := b37.size
    have hsW := hgW.size
    have b38 : Below W.heap.size W w8 := b37.grown hbut8 b37.size (fun q hq => by cases hq; omega)
    have hM8 := hM.below b38
    have hBW8 := hBW.next b38
    have hgW8 := grown_step hgW b38
    have hget8 := fun (j : Nat) (s' : RS) (hs' : M[j]? = some s') => rs_get hM8 (by omega) hs'
    refine CW.loopS (fun a : Nat => [(0, none, .slice (some ad) d.length cap), (1, none, .slice (some nd) ns.length bcap), (2, none, .slice (some ⟨mg, 0, none⟩) M.length cmcap), (3, none, .int .i64 (k : Int)), (5, none, .int .i64 (b : Int)), (13, none, .pointer (some ⟨g1, 0, none⟩)), (14, none, .int .i64 (i : Int)), (16, none, .int .i64 t), (17, none, .pointer (some ⟨g7, 0, none⟩)), (18, none, .int .i64 (a : Int))])
      (fun a W' => b ≤ a ∧ a ≤ M.length ∧ Below w8.heap.size w8 W' ∧ ∀ (j : Nat) s', b ≤ j → j < a → M[j]? = some s' → ¬ (s'.set = s.set ||| 1 <<< i ∧ s'.last = i)) (fun a => M.length - a) b [0, 1, 2, 3, 5, 13, 14, 16, 17, 18] ⟨Nat.le_refl _, hbM, Below.refl _ _, fun j s' h1 h2 => by omega⟩ rfl ?_
    rintro a W9 ⟨ha1, ha2, hB9, hno9⟩
    have hM9 := hM8.below hB9
    have hB79 := hB8'.next hB9
    obtain ⟨sa, hsa⟩ : ∃ sa : RS, a < M.length → M[a]? = some sa := by
      by_cases h : a < M.length
      · exact ⟨M[a], fun _ => List.getElem?_eq_getElem h⟩
      · exact ⟨s, fun h' => absurd h' h⟩
    have hgeta : a < M.length → ∀ (j : Nat) v, (rsCells sa)[j]? = some v → W9.cell? ((Addr.add ⟨mg, 0, none⟩ ((a : Int).toNat * 4)).add j) = some v := fun h => rs_get hM9 (by omega) (hsa h)
    refine CW.seq (CW.seq (CW.draw mixed (by kernel_rfl) ?_))
    refine DW.move rfl rfl rfl ct ?_
    refine DW.move rfl rfl rfl ct ?_
    refine DW.lenSlice rfl rfl Tryz.underlying134 rfl ct ?_
    refine DW.lss rfl rfl rfl ct rfl ct ?_
    refine DW.move rfl rfl rfl ct ?_
    refine DW.move rfl rfl rfl ct ?_
    refine DW.move rfl rfl rfl ct ?_
    refine DW.indexAddr rfl rfl Tryz.underlying134 sz139 rfl id rfl id (fun h => by (try dsimp only); first | omega | (simp [Cnd] at h; omega)) ?_
    refine DW.fieldAddr rfl rfl fo139_2 rfl id ?_
    refine DW.load rfl rfl one3 rfl id (fun h => hgeta (by simp [Cnd] at h; omega) 2 _ rfl) ?_
    refine DW.fieldAddr rfl rfl fo139_2 rfl ct ?_
    refine DW.load rfl rfl one3 rfl id (fun _ => hB79.fld rfl) ?_
    refine DW.neq rfl rfl rfl id rfl id ?_
    refine DW.move rfl rfl rfl id ?_
    refine DW.move rfl rfl rfl ct ?_
    refine DW.move rfl rfl rfl ct ?_
    refine DW.indexAddr rfl rfl Tryz.underlying134 sz139 rfl id rfl id (fun h => by (try dsimp only); first | omega | (simp [Cnd] at h; omega)) ?_
    refine DW.fieldAddr rfl rfl fo139_1 rfl id ?_
    refine DW.load rfl rfl one3 rfl id (fun h => hgeta (by simp [Cnd] at h; omega) 1 _ rfl) ?_
    refine DW.move rfl rfl rfl ct ?_
    refine DW.neq rfl rfl rfl id rfl id ?_
    refine DW.pickOr rfl rfl rfl id rfl pOr1 ?_
    refine DW.pickAnd rfl rfl rfl ct rfl pAnd0 ?_
    refine DW.nil (DW.fin [0, 1, 2, 3, 5, 13, 14, 16, 17, 18, 131] [(0, _, _), (1, _, _), (2, _, _), (3, _, _), (5, _, _), (13, _, _), (14, _, _), (16, _, _), (17, _, _), (18, _, _), (131, _, _)] rfl (fun w10 b10 => KW.then_ ?_))
    have hB10 := hB9.step b10
    refine CW.cond rfl (fun hcont => ?_) (fun hstop => ?_)
    · have hal : a < M.length := by
        simp at hcont
        omega
      refine CW.skip (KW.then_ (CW.block (CW.region ?_)))
      refine TW.move rfl rfl rfl ct ?_
      refine TW.add rfl rfl rfl ct rfl ct (fun _ => by (try dsimp only); omega) ?_
      refine TW.assign rfl rfl rfl ct ?_
      refine TW.nil (KW.pick [0, 1, 2, 3, 5, 13, 14, 16, 17, 18] [(0, _, _), (1, _, _), (2, _, _), (3, _, _), (5, _, _), (13, _, _), (14, _, _), (16, _, _), (17, _, _), (18, _, _)] rfl (KW.blockN ?_))
      refine KW.round (a + 1) [0, 1, 2, 3, 5, 13, 14, 16, 17, 18] rfl ⟨by omega, by omega, hB10, fun j s' h1 h2 h3 => ?_⟩ (by omega)
      by_cases hja : j < a
      · exact hno9 j s' h1 hja h3
      · have : j = a := by omega
        subst this
        rw [hsa hal] at h3
        cases h3
        rintro ⟨e1, e2⟩
        simp [e1, e2] at hcont
    have b310 := b38.step hB10
    have hM10 := hM.below b310
    have hB710 := hB8'.next hB10
    have hBW10 := hBW.next b310
    have hgW10 := grown_step hgW b310
    refine CW.exit (KW.thenX (KW.thenX (KW.blockX (KW.then_ (CW.seq (CW.region ?_))))))
    refine TW.move rfl rfl rfl ct ?_
    refine TW.move rfl rfl rfl ct ?_
    refine TW.lenSlice rfl rfl Tryz.underlying134 rfl ct ?_
    refine TW.eql rfl rfl rfl ct rfl ct ?_
    refine TW.nil (KW.pick [0, 1, 2, 3, 5, 13, 14, 16, 17, 18, 137] [(0, _, _), (1, _, _), (2, _, _), (3, _, _), (5, _, _), (13, _, _), (14, _, _), (16, _, _), (17, _, _), (18, _, _), (137, _, _)] rfl (KW.then_ ?_))
    refine CW.condP rfl (fun hend => ?_) (fun hfound => ?_)
    · have hae : a = M.length := by omega
      subst hae
      obtain ⟨hdp', hlat'⟩ := hdpM.app hnok (by rw [hpcn, hpr]) (by show (k : Int) < b; omega) hbM (fun j s' h1 h2 => hno9 j s' h2 (List.getElem?_eq_some_iff.1 h1).1 h1)
      refine CW.region ?_
      refine TW.move rfl rfl rfl ct ?_
      refine TW.loadS _ rfl rfl Tryz.underlying139 sz139 rfl ct (fun _ => (fun _ _ h => hB710.fld h)) rfl ?_
      refine TW.buildSlice 139 _ rfl rfl rfl eo134 (Args.cons rfl ct Args.nil) rfl rfl rfl rfl rfl ?_
      rintro g11 w11 f11
      refine TW.append (rsCells ⟨t, i, s.set ||| 1 <<< i, (k : Int)⟩) rfl rfl go134 rfl (hM10.below f11.below) rfl rfl (fun j v hj => ⟨⟨g11, 0, none⟩, rfl, f11.blk.fld hj⟩) (fun v hv => by simp [rsCells] at hv; rcases hv with rfl | rfl | rfl | rfl <;> rfl) (by omega) (by omega) ?_
      rintro cv' w12 o12 hg12 hn12
      refine TW.assign rfl rfl rfl ct ?_
      refine TW.nil (KW.pick [0, 1, 2, 3, 5, 13, 14, 16, 17, 18] [(0, _, _), (1, _, _), (2, _, _), (3, _, _), (5, _, _), (13, _, _), (14, _, _), (16, _, _), (17, _, _), (18, _, _)] rfl (KW.blockN (KW.then_ ?_)))
      refine CW.region ?_
      refine TW.move rfl rfl rfl ct ?_
      refine TW.add rfl rfl rfl ct rfl ct (fun _ => by (try dsimp only); omega) ?_
      refine TW.assign rfl rfl rfl ct ?_
      refine TW.nil (KW.pick [0, 1, 2, 3, 5, 13, 14, 16, 17, 18] [(0, _, _), (1, _, _), (2, _, _), (3, _, _), (5, _, _), (13, _, _), (14, _, _), (16, _, _), (17, _, _), (18, _, _)] rfl ?_)
      have b311 := b310.step f11.below
      have hs311 := b311.size
      have hcv' : ∀ g, cv'.ownBlock = some g → g = cg ∨ w.heap.size ≤ g ∧ g ≠ g1 := fun g hg => by
        rcases hn12 with h | h
        · exact hcv g (by rw [← h]; exact hg)
        · rw [h] at hg; cases hg
          have := hBW.lt
          exact .inr ⟨by omega, by omega⟩
      refine KW.round (i + 1, cv', M ++ [⟨t, i, s.set ||| 1 <<< i, (k : Int)⟩]) [0, 1, 2, 3, 5, 13, 14] rfl ⟨by show i + 1 ≤ ns.length; omega, grown_more (grown_step hgW b311) hg12 (fun g hg => ?_), ?_, hcv', ?_, hdp', hlat.trans hlat', ?_⟩ (by show ns.length - (i + 1) < ns.length - i; omega)
      · rcases hcv g hg with h | h
        · exact .inl (by rw [h])
        · exact .inr h.1
      · show OwnS w12 _ 4 cv' (M ++ [_]).length ((M ++ [_]).flatMap rsCells)
        rw [List.flatMap_append]
        simpa using o12
      · have hb11 := hBW10.next f11.below
        exact (hg12.block g1 hb11.lt (fun e => hcvne g1 e.symm rfl)).trans hb11
      · intro j v hj hv h1 h2 h3
        by_cases hji : j < i
        · exact (hdone j v hji hv h1 h2 h3).lat hlat'
        · have : j = i := by omega
          subst this
          rw [us_get hy] at hv
          cases hv
          exact ⟨⟨t, j, s.set ||| 1 <<< j, (k : Int)⟩, List.mem_append_right _ (List.mem_singleton.2 rfl), rfl, rfl, by show t ≤ _; omega⟩
    have hal : a < M.length := by omega
    have hmatch : sa.set = s.set ||| 1 <<< i ∧ sa.last = i := by
      simp [hal] at hstop
      omega
    have hsaM := hsa hal
    have hga := rs_get hM10 (by omega) hsaM
    refine CW.seq (CW.region ?_)
    refine TW.move rfl rfl rfl ct ?_
    refine TW.move rfl rfl rfl ct ?_
    refine TW.indexAddr rfl rfl Tryz.underlying134 sz139 rfl ct rfl ct (fun _ => by (try dsimp only); omega) ?_
    refine TW.fieldAddr rfl rfl fo139_0 rfl ct ?_
    refine TW.load rfl rfl one3 rfl ct (fun _ => hga 0 _ rfl) ?_
    refine TW.move rfl rfl rfl ct ?_
    refine TW.gtr rfl rfl rfl ct rfl ct ?_
    refine TW.nil (KW.pick [0, 1, 2, 3, 5, 13, 14, 16, 17, 18, 148] [(0, _, _), (1, _, _), (2, _, _), (3, _, _), (5, _, _), (13, _, _), (14, _, _), (16, _, _), (17, _, _), (18, _, _), (148, _, _)] rfl (KW.then_ ?_))
    refine CW.condP rfl (fun hlate => ?_) (fun hearly => ?_)
    · obtain ⟨hdp', hlat'⟩ := hdpM.set hsaM ha1 hnok (by show (k : Int) < b; omega) hbM hmatch.1 hmatch.2 (by show t ≤ sa.time; omega)
      refine CW.region ?_
      refine TW.move rfl rfl rfl ct ?_
      refine TW.move rfl rfl rfl ct ?_
      refine TW.loadS _ rfl rfl Tryz.underlying139 sz139 rfl ct (fun _ => (fun _ _ h => hB710.fld h)) rfl ?_
      refine TW.indexAddr rfl rfl Tryz.underlying134 sz139 rfl ct rfl ct (fun _ => by (try dsimp only); omega) ?_
      refine TW.storeOwnS rfl sz139 rfl rfl hM10 (by omega) rfl rfl rfl ?_
      rintro w12 o12 hg12 hsz12
      refine TW.nil (KW.pick [0, 1, 2, 3, 5, 13, 14, 16, 17, 18] [(0, _, _), (1, _, _), (2, _, _), (3, _, _), (5, _, _), (13, _, _), (14, _, _), (16, _, _), (17, _, _), (18, _, _)] rfl (KW.blockN (KW.then_ ?_)))
      refine CW.region ?_
      refine TW.move rfl rfl rfl ct ?_
      refine TW.add rfl rfl rfl ct rfl ct (fun _ => by (try dsimp only); omega) ?_
      refine TW.assign rfl rfl rfl ct ?_
      refine TW.nil (KW.pick [0, 1, 2, 3, 5, 13, 14, 16, 17, 18] [(0, _, _), (1, _, _), (2, _, _), (3, _, _), (5, _, _), (13, _, _), (14, _, _), (16, _, _), (17, _, _), (18, _, _)] rfl ?_)
      rw [splice_flat rsCells 4 M (rs_len M) (a : Int).toNat ⟨t, i, s.set ||| 1 <<< i, (k : Int)⟩ (by omega) rfl, show (a : Int).toNat = a by omega] at o12
      refine KW.round (i + 1, .slice (some ⟨mg, 0, none⟩) M.length cmcap, M.set a ⟨t, i, s.set ||| 1 <<< i, (k : Int)⟩) [0, 1, 2, 3, 5, 13, 14] rfl ⟨by show i + 1 ≤ ns.length; omega, grown_more hgW10 hg12 (fun g hg => ?_), ?_, hcv, ?_, hdp', hlat.trans hlat', ?_⟩ (by show ns.length - (i + 1) < ns.length - i; omega)
      · rcases hcv g hg with h | h
        · exact .inl (by rw [h])
        · exact .inr h.1
      · show OwnS w12 _ 4 _ (M.set a _).length ((M.set a _).flatMap rsCells)
        rw [List.length_set]
        exact o12
      · exact (hg12.block g1 hBW10.lt (fun e => hcvne g1 e.symm rfl)).trans hBW10
      · intro j v hj hv h1 h2 h3
        by_cases hji : j < i
        · exact (hdone j v hji hv h1 h2 h3).lat hlat'
        · have : j = i := by omega
          subst this
          rw [us_get hy] at hv
          cases hv
          exact ⟨⟨t, j, s.set ||| 1 <<< j, (k : Int)⟩, List.mem_iff_getElem?.2 ⟨a, List.getElem?_set_self hal⟩, rfl, rfl, by show t ≤ _; omega⟩
    · refine CW.skip (KW.blockN (KW.then_ (CW.region ?_)))
      refine TW.move rfl rfl rfl ct ?_
      refine TW.add rfl rfl rfl ct rfl ct (fun _ => by (try dsimp only); omega) ?_
      refine TW.assign rfl rfl rfl ct ?_
      refine TW.nil (KW.pick [0, 1, 2, 3, 5, 13, 14, 16, 17, 18] [(0, _, _), (1, _, _), (2, _, _), (3, _, _), (5, _, _), (13, _, _), (14, _, _), (16, _, _), (17, _, _), (18, _, _)] rfl ?_)
      refine KW.round (i + 1, .slice (some ⟨mg, 0, none⟩) M.length cmcap, M) [0, 1, 2, 3, 5, 13, 14] rfl ⟨by show i + 1 ≤ ns.length; omega, hgW10, hM10, hcv, hBW10, hdpM, hlat, ?_⟩ (by show ns.length - (i + 1) < ns.length - i; omega)
      intro j v hj hv h1 h2 h3
      by_cases hji : j < i
      · exact hdone j v hji hv h1 h2 h3
      · have : j = i := by omega
        subst this
        rw [us_get hy] at hv
        cases hv
        exact ⟨sa, List.mem_of_getElem? hsaM, hmatch.1, hmatch.2, by omega⟩
  · have hie : i = ns.length := by omega
    subst hie
    refine CW.exit (KW.thenX (KW.thenX (KW.blockX (KW.then_ (CW.seq (CW.region ?_))))))
    refine TW.move rfl rfl rfl ct ?_
    refine TW.assign rfl rfl rfl ct ?_
    refine TW.nil (KW.pick [0, 1, 2, 3, 5, 12, 13, 14] [(0, _, _), (1, _, _), (2, _, _), (3, _, _), (5, _, _), (12, _, _), (13, _, _), (14, _, _)] rfl (KW.then_ ?_))
    refine CW.ret ?_
    refine ret1 Tryz.results109 rfl (⟨hgW, fun g hg => ?_, M, hM, hdpM, hlat, fun _ => hdone⟩)
    rcases hcv g hg with h | h
    · exact .inl (by rw [h]; rfl)
    · exact .inr h.1
end Go.Proofs.YtmhfeehkpndadaaGreat

namespace Go.Proofs.YtmhfeehkpndadaaGreat
open Go.PF Go.RowKit Go.Ord

/-- an event as the reference clips it -/
def clipE (e : Ev) : Ev := if e.low > e.high ∨ e.low > 1000000 ∨ e.high < 0 then { e with low := 1, high := 0 } else { e with low := max e.low 0, high := min e.high 1000000 }
theorem clip_ok {e : Ev} : (clipE e).low ≤ (clipE e).high ↔ lowC e ≤ highC e := by
  unfold clipE lowC highC
  split <;> (dsimp only; omega)
theorem clip_eq {e : Ev} (h : lowC e ≤ highC e) : (clipE e).low = lowC e ∧ (clipE e).high = highC e := by
  unfold lowC highC at h
  unfold clipE lowC highC
  split <;> (dsimp only; omega)
theorem clip_rest (e : Ev) : (clipE e).office = e.office ∧ (clipE e).needs = e.needs := by
  unfold clipE
  split <;> exact ⟨rfl, rfl⟩
def evV (e : Ev) (nv : Value) : List Value := [.int .i64 e.office, .int .i64 e.low, .int .i64 e.high, nv]

set_option maxRecDepth 20000 in
theorem rclip_c {w : World} {e : Ev} {A : Option Addr} {n c : Nat} : Gives Tryz.prog 118 #[.agg #[.int .i64 e.office, .int .i64 e.low, .int .i64 e.high, .slice A n c]] w fun x w' => Below w.heap.size w w' ∧ x = .agg (evV (clipE e) (.slice A n c)).toArray := by
  refine gives_of (vs := [.agg #[.int .i64 e.office, .int .i64 e.low, .int .i64 e.high, .slice A n c]]) [(0, none, _)] Tryz.func118 rfl Tryz.ntmps118 rfl rfl ?_
  refine CW.seq (CW.region ?_)
  refine TW.box rfl rfl rfl rfl ?_
  rintro g1 w1 f1
  refine TW.alloc rfl rfl zc43 ?_
  rintro g2 w2 f2
  refine TW.nil (KW.pick [0, 1, 2] [(0, _, _), (1, _, _), (2, _, _)] rfl (KW.then_ ?_))
  refine CW.seq (CW.seq (CW.region ?_))
  refine TW.fieldAddr rfl rfl fo43_1 rfl ct ?_
  have ha1 := f1.at_
  have ha2 := f2.at_
  have hs1 := f1.size
  have hs2 := f2.size
  have hb2 := f1.below.step f2.below
  have hB1 := f1.blk.next f2.below
  refine TW.load rfl rfl one3 rfl ct (fun _ => hB1.fld rfl) ?_
  refine TW.fieldAddr rfl rfl fo43_2 rfl ct ?_
  refine TW.load rfl rfl one3 rfl ct (fun _ => hB1.fld rfl) ?_
  refine TW.gtr rfl rfl rfl ct rfl ct ?_
  refine TW.move rfl rfl rfl ct ?_
  refine TW.fieldAddr rfl rfl fo43_1 rfl ct ?_
  refine TW.load rfl rfl one3 rfl id (fun _ => hB1.fld rfl) ?_
  refine TW.gtr rfl rfl rfl id rfl ct ?_
  refine TW.pickOr rfl rfl rfl ct rfl pOr0 ?_
  refine TW.move rfl rfl rfl ct ?_
  refine TW.fieldAddr rfl rfl fo43_2 rfl ct ?_
  refine TW.load rfl rfl one3 rfl id (fun _ => hB1.fld rfl) ?_
  refine TW.lss rfl rfl rfl id rfl ct ?_
  refine TW.pickOr rfl rfl rfl ct rfl pOr0 ?_
  refine TW.nil (KW.pick [0, 1, 2, 17] [(0, _, _), (1, _, _), (2, _, _), (17, _, _)] rfl (KW.then_ ?_))
  refine CW.cond rfl (fun hbad => ?_) (fun hgood => ?_)
  · have hc : clipE e = { e with low := 1, high := 0 } := by
      unfold clipE
      rw [if_pos (by simp at hbad; omega)]
    refine CW.seq (CW.region ?_)
    refine TW.fieldAddr rfl rfl fo43_1 rfl ct ?_
    refine TW.storeFld rfl sz3 rfl rfl hB1 (by show 1 < 4; decide) rfl ?_
    rintro w3 hB3 hbut3 hsz3
    refine TW.nil (KW.pick [0, 1, 2] [(0, _, _), (1, _, _), (2, _, _)] rfl (KW.then_ ?_))
    refine CW.seq (CW.region ?_)
    refine TW.fieldAddr rfl rfl fo43_2 rfl ct ?_
    refine TW.storeFld rfl sz3 rfl rfl hB3 (by show 2 < 4; decide) rfl ?_
    rintro w4 hB4 hbut4 hsz4
    refine TW.nil (KW.pick [0, 1, 2] [(0, _, _), (1, _, _), (2, _, _)] rfl (KW.then_ ?_))
    refine CW.seq (CW.region ?_)
    refine TW.loadS _ rfl rfl Tryz.underlying43 sz43 rfl ct (fun _ => (fun _ _ h => hB4.fld h)) rfl ?_
    have hb3 : Below w.heap.size w w3 := hb2.grown hbut3 hb2.size (fun q hq => by cases hq; omega)
    have hb4 : Below w.heap.size w w4 := hb3.grown hbut4 hb3.size (fun q hq => by cases hq; omega)
    have hB24 : Blk w4 g2 43 [.int .i64 0, .int .i64 0, .int .i64 0, .slice none 0 0] := hbut4.blk (hbut3.blk f2.blk (by omega)) (by omega)
    refine TW.storeBlkF rfl rfl rfl hB24 sz43 rfl rfl rfl ?_
    rintro w5 hB5 hbut5 hsz5
    refine TW.nil (KW.pick [0, 1, 2] [(0, _, _), (1, _, _), (2, _, _)] rfl (KW.then_ ?_))
    refine CW.ret (KW.thenR ?_)
    have hb5 : Below w.heap.size w w5 := hb4.grown hbut5 hb4.size (fun q hq => by cases hq; omega)
    refine retCS Tryz.results118 Tryz.underlying43 (by exact sz43) rfl (hB5) (⟨hb5, ?_⟩)
    rw [hc]
    rfl
  have hc : clipE e = { e with low := max e.low 0, high := min e.high 1000000 } := by
    unfold clipE
    rw [if_neg (by simp at hgood; omega)]
  refine CW.skip (KW.then_ (CW.seq (CW.region ?_)))
  refine TW.fieldAddr rfl rfl fo43_1 rfl ct ?_
  refine TW.load rfl rfl one3 rfl ct (fun _ => hB1.fld rfl) ?_
  refine TW.maxI rfl rfl rfl ct rfl ct ?_
  refine TW.fieldAddr rfl rfl fo43_1 rfl ct ?_
  refine TW.storeFld rfl sz3 rfl rfl hB1 (by show 1 < 4; decide) rfl ?_
  rintro w3 hB3 hbut3 hsz3
  refine TW.nil (KW.pick [0, 1, 2] [(0, _, _), (1, _, _), (2, _, _)] rfl (KW.then_ ?_))
  refine CW.seq (CW.region ?_)
  refine TW.fieldAddr rfl rfl fo43_2 rfl ct ?_
  refine TW.load rfl rfl one3 rfl ct (fun _ => hB3.fld rfl) ?_
  refine TW.minI rfl rfl rfl ct rfl ct ?_
  refine TW.fieldAddr rfl rfl fo43_2 rfl ct ?_
  refine TW.storeFld rfl sz3 rfl rfl hB3 (by show 2 < 4; decide) rfl ?_
  rintro w4 hB4 hbut4 hsz4
  refine TW.nil (KW.pick [0, 1, 2] [(0, _, _), (1, _, _), (2, _, _)] rfl (KW.then_ ?_))
  refine CW.seq (CW.region ?_)
  refine TW.loadS _ rfl rfl Tryz.underlying43 sz43 rfl ct (fun _ => (fun _ _ h => hB4.fld h)) rfl ?_
  have hb3 : Below w.heap.size w w3 := hb2.grown hbut3 hb2.size (fun q hq => by cases hq; omega)
  have hb4 : Below w.heap.size w w4 := hb3.grown hbut4 hb3.size (fun q hq => by cases hq; omega)
  have hB24 : Blk w4 g2 43 [.int .i64 0, .int .i64 0, .int .i64 0, .slice none 0 0] := hbut4.blk (hbut3.blk f2.blk (by omega)) (by omega)
  refine TW.storeBlkF rfl rfl rfl hB24 sz43 rfl rfl rfl ?_
  rintro w5 hB5 hbut5 hsz5
  refine TW.nil (KW.pick [0, 1, 2] [(0, _, _), (1, _, _), (2, _, _)] rfl (KW.then_ ?_))
  refine CW.ret ?_
  have hb5 : Below w.heap.size w w5 := hb4.grown hbut5 hb4.size (fun q hq => by cases hq; omega)
  refine retCS Tryz.results118 Tryz.underlying43 (by exact sz43) rfl (hB5) (⟨hb5, ?_⟩)
  rw [hc]
  rfl

/-- the nodes of events without legs -/
def nodeAt (i : Nat) (e : Ev) : Nd := ⟨i, -1, e.office, (clipE e).low, (clipE e).high, 0, e.office⟩
def nodesTo (l : List Ev) (k : Nat) : List Nd := (l.take k).mapIdx nodeAt
theorem nodesTo_succ {l : List Ev} {k : Nat} {e : Ev} (he : l[k]? = some e) : nodesTo l (k + 1) = nodesTo l k ++ [nodeAt k e] := by
  unfold nodesTo
  have hk := (List.getElem?_eq_some_iff.1 he).1
  rw [List.take_add_one, he, List.mapIdx_append]
  simp [Nat.min_eq_left (Nat.le_of_lt hk)]
theorem nodesTo_len {l : List Ev} {k : Nat} (h : k ≤ l.length) : (nodesTo l k).length = k := by simp [nodesTo]; omega
theorem nodesTo_get {l : List Ev} {i : Nat} {x : Nd} (h : (nodesTo l l.length)[i]? = some x) : ∃ e, l[i]? = some e ∧ x = nodeAt i e := by
  unfold nodesTo at h
  rw [List.take_length, List.getElem?_mapIdx] at h
  obtain ⟨e, he, rfl⟩ := Option.map_eq_some_iff.1 h
  exact ⟨e, he, rfl⟩
theorem nodes_us {l : List Ev} (h : ∀ e ∈ l, lowC e ≤ highC e) : usOf (nodesTo l l.length) = l.map uOf := by
  apply List.ext_getElem?
  intro i
  unfold usOf nodesTo
  rw [List.getElem?_map, List.take_length, List.getElem?_mapIdx, List.getElem?_map]
  cases he : l[i]? with
  | none => rfl
  | some e =>
    obtain ⟨h1, h2⟩ := clip_eq (h e (List.mem_of_getElem? he))
    simp only [Option.map_some]
    unfold nodeAt Nd.u uOf
    simp only [h1, h2]
theorem nodes_ok {d : Dist} {l : List Ev} (hw : WfE d l) (h : ∀ e ∈ l, lowC e ≤ highC e) : ∀ x ∈ nodesTo l l.length, NdOK d l.length x := fun x hx => by
  obtain ⟨i, hi⟩ := List.mem_iff_getElem?.1 hx
  obtain ⟨e, he, rfl⟩ := nodesTo_get hi
  have hem := List.mem_of_getElem? he
  have hee := hw.each e hem
  obtain ⟨h1, h2⟩ := clip_eq (h e hem)
  have hle := h e hem
  have hil := (List.getElem?_eq_some_iff.1 he).1
  have hu : (nodeAt i e).u = uOf e := by unfold nodeAt Nd.u uOf; simp only [h1, h2]
  refine ⟨hee.o1, hee.o1, Int.le_refl _, by show (0 : Int) ≤ 1000000; decide, ?_, ?_, ?_, by rw [hu]; exact uok_of hw.wd hee, by show (0 : Int) ≤ i; omega, by show (i : Int) < _; omega, by show (-1 : Int) < _; omega⟩
  · show 0 ≤ (clipE e).low
    rw [h1]; unfold lowC; omega
  · show (clipE e).low ≤ (clipE e).high
    rw [h1, h2]; exact hle
  · show (clipE e).high ≤ 1000000
    rw [h2]
    unfold highC lowC at *
    omega

abbrev NL (w : World) (v : Value) (ns : List Nd) : Prop := OwnS w 136 7 v ns.length (ns.flatMap Nd.cells)
theorem nl_len (L : List Nd) : ∀ x ∈ L, x.cells.length = 7 := fun _ _ => rfl
set_option maxRecDepth 20000 in
set_option maxHeartbeats 1000000 in
theorem rnodes_c {w : World} {dv lv : Value} {l : List Ev} (hl : SE w lv l) (h16 : l.length ≤ 16) :
    Gives Tryz.prog 107 #[dv, lv, .slice none 0 0] w fun x w' => Below w.heap.size w w' ∧ ∃ nv, x = .tuple #[nv, .bool (dec (∀ e ∈ l, lowC e ≤ highC e))] ∧ ((∀ e ∈ l, lowC e ≤ highC e) → SL ndT (fun q => w.heap.size ≤ q ∧ q < w'.heap.size) w' nv (nodesTo l l.length)) := by
  obtain ⟨B, bcap, rfl, _⟩ := hl.form
  refine gives_of (vs := [dv, .slice B l.length bcap, .slice none 0 0]) [(0, none, _), (1, none, _), (2, none, _)] Tryz.func107 rfl Tryz.ntmps107 rfl rfl ?_
  refine CW.seq (CW.region ?_)
  refine TW.assign rfl rfl rfl ct ?_
  refine TW.assign rfl rfl rfl ct ?_
  refine TW.nil (KW.pick [0, 1, 2, 6, 7] [(0, _, _), (1, _, _), (2, _, _), (6, _, _), (7, _, _)] rfl (KW.then_ ?_))
  refine CW.seq (CW.region ?_)
  refine TW.assign rfl rfl rfl ct ?_
  refine TW.nil (KW.pick [0, 1, 2, 6, 7, 8] [(0, _, _), (1, _, _), (2, _, _), (6, _, _), (7, _, _), (8, _, _)] rfl (KW.then_ ?_))
  refine CW.seq (CW.region ?_)
  refine TW.move rfl rfl rfl ct ?_
  refine TW.lenSlice rfl rfl Tryz.underlying23 rfl ct ?_
  refine TW.makeSlice rfl rfl (zero1_of go97 ze4 rfl) rfl rfl (by omega) (by omega) ?_
  rintro g1 w1 f1
  refine TW.assign rfl rfl rfl ct ?_
  refine TW.nil (KW.pick [0, 1, 2, 6, 7, 8, 9] [(0, _, _), (1, _, _), (2, _, _), (6, _, _), (7, _, _), (8, _, _), (9, _, _)] rfl (KW.then_ ?_))
  refine CW.seq (CW.seq (CW.region ?_))
  refine TW.assign rfl rfl rfl ct ?_
  refine TW.nil (KW.pick [0, 1, 2, 6, 7, 8, 9, 10] [(0, _, _), (1, _, _), (2, _, _), (6, _, _), (7, _, _), (8, _, _), (9, _, _), (10, _, _)] rfl (KW.then_ ?_))
  refine CW.block ?_
  have ha1 := f1.at_
  refine CW.loopS (fun k : Nat => [(1, none, .slice B l.length bcap), (2, none, .slice none 0 0), (8, none, .slice none 0 0), (9, none, .slice (some ⟨g1, 0, none⟩) l.length l.length), (10, none, .int .i64 (k : Int))])
    (fun k W => k = 0 ∧ Below w1.heap.size w1 W) (fun k => k) 0 [1, 2, 8, 9, 10] ⟨rfl, Below.refl _ _⟩ rfl ?_
  rintro k W2 ⟨rfl, hB2⟩
  refine CW.seq (CW.seq (CW.region ?_))
  refine TW.move rfl rfl rfl ct ?_
  refine TW.move rfl rfl rfl ct ?_
  refine TW.lenSlice rfl rfl Tryz.underlying61 rfl ct ?_
  refine TW.lss rfl rfl rfl ct rfl ct ?_
  refine TW.nil (KW.pick [1, 2, 8, 9, 10, 23] [(1, _, _), (2, _, _), (8, _, _), (9, _, _), (10, _, _), (23, _, _)] rfl (KW.then_ ?_))
  refine CW.condP rfl (fun hlt => ?_) (fun hge => ?_)
  · exact absurd hlt (by decide)
  refine CW.exit (KW.thenX (KW.thenX (KW.blockX (KW.then_ (CW.seq (CW.seq (CW.region ?_)))))))
  refine TW.assign rfl rfl rfl ct ?_
  refine TW.nil (KW.pick [1, 2, 8, 9, 10, 14] [(1, _, _), (2, _, _), (8, _, _), (9, _, _), (10, _, _), (14, _, _)] rfl (KW.then_ ?_))
  refine CW.block ?_
  have hb2 := f1.below.step hB2
  have hu2 := f1.blk.next hB2
  refine CW.loopS (fun x : Nat × Value => [(1, none, .slice B l.length bcap), (8, none, x.2), (9, none, .slice (some ⟨g1, 0, none⟩) l.length l.length), (14, none, .int .i64 (x.1 : Int))])
    (fun x W => x.1 ≤ l.length ∧ Below w.heap.size w W ∧ NL W x.2 (nodesTo l x.1) ∧ (∀ g, x.2.ownBlock = some g → g1 < g) ∧ Blk W g1 4 (List.replicate l.length (.bool false))) (fun x => l.length - x.1) (0, .slice none 0 0) [1, 8, 9, 14] ⟨Nat.zero_le _, hb2, OwnS.nil _ _ _, fun g hg => by simp [Value.ownBlock] at hg, hu2⟩ rfl ?_
  rintro ⟨i, nv⟩ W ⟨hi, hB, hN, hown, hU⟩
  dsimp only at hi hN hown
  have hnl := nodesTo_len hi
  refine CW.seq (CW.seq (CW.region ?_))
  refine TW.move rfl rfl rfl ct ?_
  refine TW.move rfl rfl rfl ct ?_
  refine TW.lenSlice rfl rfl Tryz.underlying23 rfl ct ?_
  refine TW.lss rfl rfl rfl ct rfl ct ?_
  refine TW.nil (KW.pick [1, 8, 9, 14, 119] [(1, _, _), (8, _, _), (9, _, _), (14, _, _), (119, _, _)] rfl (KW.then_ ?_))
  refine CW.condP rfl (fun hlt3 => ?_) (fun hge3 => ?_)
  · obtain ⟨e, he, hem⟩ := getx (l := l) (k := i) (by omega)
    have hlW := se_step hl hB
    obtain ⟨ad, rfl⟩ := hlW.addr (by omega)
    obtain ⟨nd, hcells, i1, i2, i3, hneeds⟩ := SE.get hlW he
    obtain ⟨N, ncap, rfl, _⟩ := hneeds.form
    have hcu : W.cell? (Addr.add ⟨g1, 0, none⟩ ((i : Int).toNat * 1)) = some (.bool false) := hU.fld (by rw [List.getElem?_replicate, if_pos (by omega)])
    refine CW.skip (KW.then_ (CW.seq (CW.block (CW.seq (CW.region ?_)))))
    refine TW.move rfl rfl rfl ct ?_
    refine TW.move rfl rfl rfl ct ?_
    refine TW.indexAddr rfl rfl Tryz.underlying97 sz4 rfl ct rfl ct (fun _ => by (try dsimp only); omega) ?_
    refine TW.load rfl rfl one4 rfl ct (fun _ => hcu) ?_
    refine TW.not rfl rfl rfl ct ?_
    refine TW.nil (KW.pick [1, 8, 9, 14, 126] [(1, _, _), (8, _, _), (9, _, _), (14, _, _), (126, _, _)] rfl (KW.then_ ?_))
    refine CW.cond rfl (fun hin => ?_) (fun hout => ?_)
    rotate_left 1
    · exact absurd hout (by simp)
    refine CW.seq (CW.region ?_)
    refine TW.move rfl rfl rfl ct ?_
    refine TW.move rfl rfl rfl ct ?_
    refine TW.indexAddr rfl rfl Tryz.underlying23 sz43 rfl ct rfl ct (fun _ => by (try dsimp only); omega) ?_
    refine TW.loadS _ rfl rfl Tryz.underlying43 sz43 rfl ct (fun _ => hcells) rfl ?_
    refine TW.call0 (cap := []) rfl rfl en118 rfl (Args.cons rfl ct Args.nil) (rclip_c) ?_
    rintro y w3 ⟨c3, rfl⟩
    refine TW.newVar rfl zc43 rfl sz43 rfl rfl ?_
    rintro g4 w4 f4
    refine TW.nil (KW.pick [1, 8, 9, 14, 15] [(1, _, _), (8, _, _), (9, _, _), (14, _, _), (15, _, _)] rfl (KW.then_ ?_))
    refine CW.region ?_
    refine TW.move rfl rfl rfl ct ?_
    refine TW.move rfl rfl rfl ct ?_
    refine TW.fieldAddr rfl rfl fo43_0 rfl ct ?_
    have hb4 := c3.step f4.below
    have hN4 := (hN.below c3).below f4.below
    obtain ⟨q1, q2⟩ := clip_rest e
    have hBk4 : Blk w4 g4 43 [.int .i64 e.office, .int .i64 (clipE e).low, .int .i64 (clipE e).high, .slice N e.needs.length ncap] := by
      have := f4.blk
      unfold evV at this
      rw [q1] at this
      exact this
    refine TW.load rfl rfl one3 rfl ct (fun _ => hBk4.fld rfl) ?_
    refine TW.fieldAddr rfl rfl fo43_1 rfl ct ?_
    refine TW.load rfl rfl one3 rfl ct (fun _ => hBk4.fld rfl) ?_
    refine TW.fieldAddr rfl rfl fo43_2 rfl ct ?_
    refine TW.load rfl rfl one3 rfl ct (fun _ => hBk4.fld rfl) ?_
    refine TW.fieldAddr rfl rfl fo43_0 rfl ct ?_
    refine TW.load rfl rfl one3 rfl ct (fun _ => hBk4.fld rfl) ?_
    refine TW.build [0, 1, 2, 3, 4, 6] [.tmp 133, .const (.int .i64 (-1)), .tmp 135, .tmp 137, .tmp 139, .tmp 141] (nodeAt i e).cells rfl rfl rfl (Args.cons rfl ct (Args.cons rfl ct (Args.cons rfl ct (Args.cons rfl ct (Args.cons rfl ct (Args.cons rfl ct Args.nil)))))) (by kernel_rfl) ?_
    refine TW.buildSlice 136 _ rfl rfl rfl eo131 (Args.cons rfl ct Args.nil) rfl rfl rfl rfl rfl ?_
    rintro g5 w5 f5
    refine TW.append (nodeAt i e).cells rfl rfl go131 rfl (hN4.below f5.below) rfl rfl (fun j v hj => ⟨⟨g5, 0, none⟩, rfl, f5.blk.fld hj⟩) (fun v hv => by simp [Nd.cells] at hv; rcases hv with rfl | rfl | rfl | rfl | rfl | rfl | rfl <;> rfl) (by omega) (by omega) ?_
    rintro nv' w6 o6 hg6 hn6
    refine TW.assign rfl rfl rfl ct ?_
    refine TW.nil (KW.pick [1, 8, 9, 14, 15] [(1, _, _), (8, _, _), (9, _, _), (14, _, _), (15, _, _)] rfl (KW.blockN (KW.then_ ?_)))
    refine CW.region ?_
    refine TW.move rfl rfl rfl ct ?_
    refine TW.add rfl rfl rfl ct rfl ct (fun _ => by (try dsimp only); omega) ?_
    refine TW.assign rfl rfl rfl ct ?_
    refine TW.nil (KW.pick [1, 8, 9, 14, 15] [(1, _, _), (8, _, _), (9, _, _), (14, _, _), (15, _, _)] rfl ?_)
    have hb5 := hb4.step f5.below
    have hbW5 := hB.step hb5
    have hs5 := hb5.size
    have hUlt := hU.lt
    refine KW.round (i + 1, nv') [1, 8, 9, 14] rfl ⟨by show i + 1 ≤ l.length; omega, hbW5.grown hg6 hbW5.size (fun q hq => by have := hown q hq; omega), ?_, fun g hg => ?_, ?_⟩ (by show l.length - (i + 1) < l.length - i; omega)
    · show OwnS w6 _ 7 nv' (nodesTo l (i + 1)).length ((nodesTo l (i + 1)).flatMap Nd.cells)
      rw [nodesTo_succ he, List.flatMap_append]
      simpa using o6
    · rcases hn6 with h | h
      · exact hown g (by rw [← h]; exact hg)
      · rw [h] at hg; cases hg; omega
    · have hU5 := hU.next hb5
      exact (hg6.block g1 hU5.lt (fun e => absurd (hown g1 e.symm) (Nat.lt_irrefl _))).trans hU5
  have hie : i = l.length := by omega
  subst hie
  have hsl : SL ndT (fun q => w.heap.size ≤ q ∧ q < W.heap.size) W nv (nodesTo l l.length) := OwnS.toSL (T := ndT) Nd.cells (fun _ _ => rfl) hN (fun g hg => ⟨by have := hown g hg; omega, hN.lt hg⟩) (by omega)
  obtain ⟨A, ncap, rfl, _⟩ := hsl.form
  refine CW.exit (KW.thenX (KW.thenX (KW.blockX (KW.then_ (CW.seq (CW.seq (CW.region ?_)))))))
  refine TW.assign rfl rfl rfl ct ?_
  refine TW.nil (KW.pick [1, 8, 9, 14, 16] [(1, _, _), (8, _, _), (9, _, _), (14, _, _), (16, _, _)] rfl (KW.then_ ?_))
  refine CW.block ?_
  refine CW.loopS (fun k : Nat => [(8, none, .slice A (nodesTo l l.length).length ncap), (16, none, .int .i64 (k : Int))])
    (fun k W' => k ≤ l.length ∧ Below W.heap.size W W' ∧ ∀ (i : Nat) e, i < k → l[i]? = some e → lowC e ≤ highC e) (fun k => l.length - k) 0 [8, 16] ⟨Nat.zero_le _, Below.refl _ _, fun i e hi => by omega⟩ rfl ?_
  rintro k W' ⟨hk, hBk, hall⟩
  refine CW.seq (CW.seq (CW.region ?_))
  refine TW.move rfl rfl rfl ct ?_
  refine TW.move rfl rfl rfl ct ?_
  refine TW.lenSlice rfl rfl Tryz.underlying131 rfl ct ?_
  refine TW.lss rfl rfl rfl ct rfl ct ?_
  refine TW.nil (KW.pick [8, 16, 148] [(8, _, _), (16, _, _), (148, _, _)] rfl (KW.then_ ?_))
  refine CW.condP rfl (fun hlt4 => ?_) (fun hge4 => ?_)
  · obtain ⟨e, he, hem⟩ := getx (l := l) (k := k) (by omega)
    have hsl' := hsl.below hBk
    obtain ⟨ad, rfl⟩ := hsl'.addr (by omega)
    have hnx : (nodesTo l l.length)[k]? = some (nodeAt k e) := by
      unfold nodesTo
      rw [List.take_length, List.getElem?_mapIdx, he]
      rfl
    have hc := nd_get hsl' hnx
    refine CW.skip (KW.then_ (CW.seq (CW.block (CW.seq (CW.draw mixed (by kernel_rfl) ?_)))))
    refine DW.move rfl rfl rfl ct ?_
    refine DW.move rfl rfl rfl ct ?_
    refine DW.indexAddr rfl rfl Tryz.underlying131 sz136 rfl ct rfl ct (fun _ => by (try dsimp only); omega) ?_
    refine DW.fieldAddr rfl rfl fo136_3 rfl ct ?_
    refine DW.load rfl rfl one3 rfl ct (fun _ => hc 3 _ rfl) ?_
    refine DW.move rfl rfl rfl ct ?_
    refine DW.move rfl rfl rfl ct ?_
    refine DW.indexAddr rfl rfl Tryz.underlying131 sz136 rfl ct rfl ct (fun _ => by (try dsimp only); omega) ?_
    refine DW.fieldAddr rfl rfl fo136_4 rfl ct ?_
    refine DW.load rfl rfl one3 rfl ct (fun _ => hc 4 _ rfl) ?_
    refine DW.gtr rfl rfl rfl ct rfl ct ?_
    refine DW.nil (DW.fin [8, 16, 161] [(8, _, _), (16, _, _), (161, _, _)] rfl (fun w7 b7 => KW.then_ ?_))
    have hbb := hB.step (hBk.step b7)
    refine CW.condP rfl (fun hbad => ?_) (fun hgood => ?_)
    · refine CW.seq (CW.region ?_)
      refine TW.assign rfl rfl rfl ct ?_
      refine TW.assign rfl rfl rfl ct ?_
      refine TW.nil (KW.pick [6, 7, 8, 16] [(6, _, _), (7, _, _), (8, _, _), (16, _, _)] rfl (KW.then_ ?_))
      refine CW.ret (KW.blockR (KW.thenR (KW.thenR (KW.blockR (KW.thenR ?_)))))
      refine ret2 Tryz.results107 rfl rfl (⟨hbb, .slice none 0 0, ?_, fun h => ?_⟩)
      · rw [dec_neg]
        intro h
        have := clip_ok.2 (h e hem)
        have hbad : (clipE e).low > (clipE e).high := hbad
        omega
      · have := clip_ok.2 (h e hem)
        have hbad : (clipE e).low > (clipE e).high := hbad
        omega
    · refine CW.skip (KW.blockN (KW.then_ (CW.region ?_)))
      refine TW.move rfl rfl rfl ct ?_
      refine TW.add rfl rfl rfl ct rfl ct (fun _ => by (try dsimp only); omega) ?_
      refine TW.assign rfl rfl rfl ct ?_
      refine TW.nil (KW.pick [8, 16] [(8, _, _), (16, _, _)] rfl ?_)
      refine KW.round (k + 1) [8, 16] rfl ⟨by omega, hBk.step b7, fun i e' hi he' => ?_⟩ (by omega)
      by_cases hik : i < k
      · exact hall i e' hik he'
      · have : i = k := by omega
        subst this
        rw [he] at he'
        cases he'
        exact clip_ok.1 (by have hgood : ¬ (clipE e).low > (clipE e).high := hgood; omega)
  · have hal : ∀ e ∈ l, lowC e ≤ highC e := fun e he => by
      obtain ⟨i, hi⟩ := List.mem_iff_getElem?.1 he
      exact hall i e (by have := (List.getElem?_eq_some_iff.1 hi).1; omega) hi
    refine CW.exit (KW.thenX (KW.thenX (KW.blockX (KW.then_ (CW.seq (CW.region ?_))))))
    refine TW.move rfl rfl rfl ct ?_
    refine TW.assign rfl rfl rfl ct ?_
    refine TW.assign rfl rfl rfl ct ?_
    refine TW.nil (KW.pick [6, 7, 8, 16] [(6, _, _), (7, _, _), (8, _, _), (16, _, _)] rfl (KW.then_ ?_))
    refine CW.ret ?_
    refine ret2 Tryz.results107 rfl rfl (⟨hB.step hBk, _, by rw [dec_pos hal], fun _ => ?_⟩)
    have hs := hBk.size
    exact (hsl.below hBk).wider (fun q hq => ⟨hq.1, by omega⟩)
end Go.Proofs.YtmhfeehkpndadaaGreat

namespace Go.Proofs.YtmhfeehkpndadaaGreat
open Go.PF Go.RowKit Go.Ord

set_option maxRecDepth 20000 in
set_option maxHeartbeats 1000000 in
theorem rtimes_c {w : World} {nv lv : Value} {d : Dist} {ns : List Nd} {L : List RS} {F G : Nat → Prop} {m k : Nat} (hn : SL ndT G w nv ns) (hok : ∀ x ∈ ns, NdOK d m x) (hm : m ≤ 16) (hL : SL rsT F w lv L) (hback : ∀ (i : Nat) s, L[i]? = some s → s.frm < i ∧ -1 ≤ s.frm ∧ s.last < ns.length ∧ 0 ≤ s.time ∧ s.time ≤ 1000000) (hk : k < L.length) :
    Gives Tryz.prog 110 #[nv, lv, .int .i64 (k : Int), .int .i64 (m : Int)] w fun u w' => Below w.heap.size w w' := by
  obtain ⟨A, cap, rfl, _⟩ := hn.form
  obtain ⟨B, bcap, rfl, _⟩ := hL.form
  obtain ⟨ld, rfl⟩ := hL.addr (by omega)
  refine gives_of (vs := [.slice A ns.length cap, .slice (some ld) L.length bcap, .int .i64 (k : Int), .int .i64 (m : Int)]) [(0, none, _), (1, none, _), (2, none, _), (3, none, _)] Tryz.func110 rfl Tryz.ntmps110 rfl rfl ?_
  refine CW.seq (CW.region ?_)
  refine TW.assign rfl rfl rfl ct ?_
  refine TW.nil (KW.pick [0, 1, 2, 3, 8] [(0, _, _), (1, _, _), (2, _, _), (3, _, _), (8, _, _)] rfl (KW.then_ ?_))
  refine CW.seq (CW.region ?_)
  refine TW.move rfl rfl rfl ct ?_
  refine TW.makeSlice rfl rfl (zero1_of go24 ze3 rfl) rfl rfl (by omega) (by omega) ?_
  rintro g1 w1 f1
  refine TW.assign rfl rfl rfl ct ?_
  refine TW.nil (KW.pick [0, 1, 2, 3, 8, 9] [(0, _, _), (1, _, _), (2, _, _), (3, _, _), (8, _, _), (9, _, _)] rfl (KW.then_ ?_))
  refine CW.seq (CW.block ?_)
  have ha1 := f1.at_
  refine CW.loopS (fun x : Nat => [(0, none, .slice A ns.length cap), (1, none, .slice (some ld) L.length bcap), (2, none, .int .i64 ((x : Int) - 1)), (9, none, .slice (some ⟨g1, 0, none⟩) m m)])
    (fun x W => x ≤ L.length ∧ Below w.heap.size w W ∧ Times W g1 m) (fun x => x) (k + 1) [0, 1, 2, 9] ⟨by omega, f1.below, List.replicate m 0, by simp, by simpa using f1.blk⟩ (by rw [show (((k + 1 : Nat) : Int) - 1) = (k : Int) by omega]; rfl) ?_
  rintro j W ⟨hj, hB, ⟨xs, hxl, hX⟩⟩
  refine CW.seq (CW.seq (CW.region ?_))
  refine TW.move rfl rfl rfl ct ?_
  refine TW.geq rfl rfl rfl ct rfl ct ?_
  refine TW.nil (KW.pick [0, 1, 2, 9, 14] [(0, _, _), (1, _, _), (2, _, _), (9, _, _), (14, _, _)] rfl (KW.then_ ?_))
  refine CW.condP rfl (fun hlt => ?_) (fun hge => ?_)
  · obtain ⟨i, rfl⟩ : ∃ i, j = i + 1 := ⟨j - 1, by omega⟩
    rw [show (((i + 1 : Nat) : Int) - 1) = (i : Int) by omega]
    obtain ⟨s, hs, hsm⟩ := getx (l := L) (k := i) (by omega)
    obtain ⟨q1, q2, q3, q4, q5⟩ := hback i s hs
    obtain ⟨x, hx, hxm⟩ := getx (l := ns) (k := s.last) q3
    have hxo := hok x hxm
    have hg0 := hxo.g0
    have hg1 := hxo.g1
    obtain ⟨nd, rfl⟩ := hn.addr (by omega)
    have hLW := hL.below hB
    have hnW := hn.below hB
    have hsc := SL.getC rsCells (fun _ _ _ _ h => h) hLW hs
    have hxc := nd_get hnW hx
    obtain ⟨fi, hfi⟩ : ∃ o : Nat, x.first = o := ⟨x.first.toNat, by have := hxo.f0; omega⟩
    have hfm : fi < m := by have := hxo.f1; omega
    refine CW.skip (KW.then_ (CW.block (CW.seq (CW.region ?_))))
    refine TW.move rfl rfl rfl ct ?_
    refine TW.move rfl rfl rfl ct ?_
    refine TW.move rfl rfl rfl ct ?_
    refine TW.indexAddr rfl rfl Tryz.underlying134 sz139 rfl ct rfl ct (fun _ => by (try dsimp only); omega) ?_
    refine TW.fieldAddr rfl rfl fo139_1 rfl ct ?_
    refine TW.load rfl rfl one3 rfl ct (fun _ => hsc 1 _ rfl) ?_
    refine TW.indexAddr rfl rfl Tryz.underlying131 sz136 rfl ct rfl ct (fun _ => by (try dsimp only); omega) ?_
    refine TW.loadS _ rfl rfl Tryz.underlying136 sz136 rfl ct (fun _ => hxc) rfl ?_
    refine TW.newVar rfl zc136 rfl sz136 rfl rfl ?_
    rintro g3 w3 f3
    refine TW.nil (KW.pick [0, 1, 2, 9, 10] [(0, _, _), (1, _, _), (2, _, _), (9, _, _), (10, _, _)] rfl (KW.then_ ?_))
    refine CW.seq ?_
    refine CW.drawR mixed fun W4 hb4 => ?_
    refine RW.draw .weak 9 (by kernel_rfl) (by kernel_rfl) rfl rfl hb4 ?_
    refine DW.move rfl rfl rfl ct ?_
    refine DW.fieldAddr rfl rfl fo136_0 rfl ct ?_
    have ha3 := f3.at_
    have hlt3 := hX.lt
    have hB3 := hB.step f3.below
    have hX3 := hX.next f3.below
    have hsc3 := SL.getC rsCells (fun _ _ _ _ h => h) (hLW.below f3.below) hs
    have hf0 : w3.cell? (Addr.add ⟨g3, 0, none⟩ 0) = some (.int .i64 (fi : Int)) := by rw [← hfi]; exact f3.blk.fld rfl
    refine DW.load rfl rfl one3 rfl ct (fun _ => hf0) ?_
    refine DW.move rfl rfl rfl ct ?_
    refine DW.move rfl rfl rfl ct ?_
    refine DW.indexAddr rfl rfl Tryz.underlying134 sz139 rfl ct rfl ct (fun _ => by (try dsimp only); omega) ?_
    refine DW.fieldAddr rfl rfl fo139_0 rfl ct ?_
    refine DW.load rfl rfl one3 rfl ct (fun _ => hsc3 0 _ rfl) ?_
    refine DW.indexAddr rfl rfl Tryz.underlying24 sz3 rfl ct rfl ct (fun _ => by omega) ?_
    refine DW.nil (DW.fin [0, 1, 2, 9, 10, 30, 31] [(0, _, _), (1, _, _), (2, _, _), (9, _, _), (10, _, _), (30, _, _), (31, _, _)] rfl (fun w4 b4 => KW.rk' ?_))
    refine RW.one (by kernel_rfl) (by kernel_rfl) rfl ?_
    have hX4 := hX3.next b4
    refine TW.storeFld rfl sz3 rfl rfl hX4 (by simp; omega) rfl ?_
    rintro w5 hX5 hbut5 hsz5
    refine TW.nil (KW.pick [0, 1, 2, 9, 10] [(0, _, _), (1, _, _), (2, _, _), (9, _, _), (10, _, _)] rfl (KW.rk ?_))
    refine RW.end rfl (KW.pick [0, 1, 2, 9, 10] [(0, _, _), (1, _, _), (2, _, _), (9, _, _), (10, _, _)] rfl (KW.then_ ?_))
    refine CW.seq (CW.seq (CW.region ?_))
    refine TW.fieldAddr rfl rfl fo136_1 rfl ct ?_
    have hB4 := hB3.step b4
    have hB5 : Below w.heap.size w w5 := hB4.grown hbut5 hB4.size (fun q hq => by cases hq; omega)
    have hBk5 : Blk w5 g3 136 x.cells := hbut5.blk (f3.blk.next b4) (by omega)
    have hX5' : Times w5 g1 m := ⟨xs.set fi s.time, by simp [hxl], by simpa [List.map_set] using hX5⟩
    refine TW.load rfl rfl one3 rfl ct (fun _ => hBk5.fld rfl) ?_
    refine TW.geq rfl rfl rfl ct rfl ct ?_
    refine TW.nil (KW.pick [0, 1, 2, 9, 10, 34] [(0, _, _), (1, _, _), (2, _, _), (9, _, _), (10, _, _), (34, _, _)] rfl (KW.then_ ?_))
    refine CW.condP rfl (fun hsec => ?_) (fun hno => ?_)
    · obtain ⟨se, hse⟩ : ∃ o : Nat, x.second = o := ⟨x.second.toNat, by omega⟩
      have hsm : se < m := by have := hxo.s1; omega
      have hsc5 := SL.getC rsCells (fun _ _ _ _ h => h) (hL.below hB5) hs
      have hf1 : w5.cell? (Addr.add ⟨g3, 0, none⟩ 1) = some (.int .i64 (se : Int)) := by rw [← hse]; exact hBk5.fld rfl
      obtain ⟨ys, hyl, hY⟩ := hX5'
      refine CW.drawR mixed fun W6 hb6 => ?_
      refine RW.draw .weak 12 (by kernel_rfl) (by kernel_rfl) rfl rfl hb6 ?_
      refine DW.move rfl rfl rfl ct ?_
      refine DW.fieldAddr rfl rfl fo136_1 rfl ct ?_
      refine DW.load rfl rfl one3 rfl ct (fun _ => hf1) ?_
      refine DW.move rfl rfl rfl ct ?_
      refine DW.move rfl rfl rfl ct ?_
      refine DW.indexAddr rfl rfl Tryz.underlying134 sz139 rfl ct rfl ct (fun _ => by (try dsimp only); omega) ?_
      refine DW.fieldAddr rfl rfl fo139_0 rfl ct ?_
      refine DW.load rfl rfl one3 rfl ct (fun _ => hsc5 0 _ rfl) ?_
      refine DW.fieldAddr rfl rfl fo136_5 rfl ct ?_
      refine DW.load rfl rfl one3 rfl ct (fun _ => hBk5.fld rfl) ?_
      refine DW.add rfl rfl rfl ct rfl ct (fun _ => by omega) ?_
      refine DW.indexAddr rfl rfl Tryz.underlying24 sz3 rfl ct rfl ct (fun _ => by omega) ?_
      refine DW.nil (DW.fin [0, 1, 2, 9, 10, 45, 46] [(0, _, _), (1, _, _), (2, _, _), (9, _, _), (10, _, _), (45, _, _), (46, _, _)] rfl (fun w6 b6 => KW.rk' ?_))
      refine RW.one (by kernel_rfl) (by kernel_rfl) rfl ?_
      have hY6 := hY.next b6
      refine TW.storeFld rfl sz3 rfl rfl hY6 (by simp; omega) rfl ?_
      rintro w7 hY7 hbut7 hsz7
      refine TW.nil (KW.pick [0, 1, 2, 9, 10] [(0, _, _), (1, _, _), (2, _, _), (9, _, _), (10, _, _)] rfl (KW.rk ?_))
      refine RW.end rfl (KW.pick [0, 1, 2, 9, 10] [(0, _, _), (1, _, _), (2, _, _), (9, _, _), (10, _, _)] rfl (KW.then_ ?_))
      refine CW.region ?_
      refine TW.move rfl rfl rfl ct ?_
      refine TW.move rfl rfl rfl ct ?_
      refine TW.indexAddr rfl rfl Tryz.underlying134 sz139 rfl ct rfl ct (fun _ => by (try dsimp only); omega) ?_
      refine TW.fieldAddr rfl rfl fo139_3 rfl ct ?_
      have hB6 := hB5.step b6
      have hB7 : Below w.heap.size w w7 := hB6.grown hbut7 hB6.size (fun q hq => by cases hq; omega)
      have hsc7 := SL.getC rsCells (fun _ _ _ _ h => h) (hL.below hB7) hs
      refine TW.load rfl rfl one3 rfl ct (fun _ => hsc7 3 _ rfl) ?_
      refine TW.assign rfl rfl rfl ct ?_
      refine TW.nil (KW.pick [0, 1, 2, 9, 10] [(0, _, _), (1, _, _), (2, _, _), (9, _, _), (10, _, _)] rfl (KW.blockN ?_))
      refine KW.round (s.frm + 1).toNat [0, 1, 2, 9] ?_ ⟨by omega, hB7, ys.set se (s.time + x.gap), by simp [hyl], by simpa [List.map_set] using hY7⟩ (by omega)
      rw [show (((s.frm + 1).toNat : Nat) : Int) - 1 = s.frm by omega]
      rfl
    · have hsc5 := SL.getC rsCells (fun _ _ _ _ h => h) (hL.below hB5) hs
      refine CW.skip (KW.then_ (CW.region ?_))
      refine TW.move rfl rfl rfl ct ?_
      refine TW.move rfl rfl rfl ct ?_
      refine TW.indexAddr rfl rfl Tryz.underlying134 sz139 rfl ct rfl ct (fun _ => by (try dsimp only); omega) ?_
      refine TW.fieldAddr rfl rfl fo139_3 rfl ct ?_
      refine TW.load rfl rfl one3 rfl ct (fun _ => hsc5 3 _ rfl) ?_
      refine TW.assign rfl rfl rfl ct ?_
      refine TW.nil (KW.pick [0, 1, 2, 9, 10] [(0, _, _), (1, _, _), (2, _, _), (9, _, _), (10, _, _)] rfl (KW.blockN ?_))
      refine KW.round (s.frm + 1).toNat [0, 1, 2, 9] ?_ ⟨by omega, hB5, hX5'⟩ (by omega)
      rw [show (((s.frm + 1).toNat : Nat) : Int) - 1 = s.frm by omega]
      rfl
  · refine CW.exit (KW.thenX (KW.thenX (KW.blockX (KW.then_ (CW.seq (CW.region ?_))))))
    refine TW.move rfl rfl rfl ct ?_
    refine TW.assign rfl rfl rfl ct ?_
    refine TW.nil (KW.pick [0, 1, 2, 8, 9] [(0, _, _), (1, _, _), (2, _, _), (8, _, _), (9, _, _)] rfl (KW.then_ ?_))
    refine CW.ret ?_
    refine ret1 Tryz.results110 rfl (hB)

/-- what the reference's search shows -/
theorem poss_feas {d : Dist} {l : List Ev} (hw : WfE d l) (h : ∀ e ∈ l, lowC e ≤ highC e) : Poss d l ↔ Feas d (none, 0) (usOf (nodesTo l l.length)) := by
  rw [feas_iff hw.wd hw.each (List.Perm.refl _), nodes_us h]
  constructor
  · exact fun h => h.2
  · refine fun hf => ⟨fun u hu => ?_, hf⟩
    obtain ⟨e, he, rfl⟩ := List.mem_map.1 hu
    exact h e he
theorem poss_win {d : Dist} {l : List Ev} (hw : WfE d l) (h : Poss d l) : ∀ e ∈ l, lowC e ≤ highC e := fun e he => ((feas_iff hw.wd hw.each (List.Perm.refl _)).1 h).1 (uOf e) (List.mem_map_of_mem he)

set_option maxRecDepth 20000 in
set_option maxHeartbeats 1000000 in
theorem rfit_c {w : World} {dv lv : Value} {d : Dist} {l : List Ev} (hd : SD w dv d) (hl : SE w lv l) :
    Gives Tryz.prog 91 #[dv, lv, .slice none 0 0] w fun x w' => Below w.heap.size w w' ∧ ∃ tv, x = .tuple #[tv, .bool (dec (WfE d l ∧ Poss d l))] := by
  obtain ⟨D, dcap, rfl, _⟩ := hd.form
  obtain ⟨B, bcap, rfl, _⟩ := hl.form
  refine gives_of (vs := [.slice D d.length dcap, .slice B l.length bcap, .slice none 0 0]) [(0, none, _), (1, none, _), (2, none, _)] Tryz.func91 rfl Tryz.ntmps91 rfl rfl ?_
  refine CW.seq (CW.region ?_)
  refine TW.assign rfl rfl rfl ct ?_
  refine TW.assign rfl rfl rfl ct ?_
  refine TW.nil (KW.pick [0, 1, 2, 6, 7] [(0, _, _), (1, _, _), (2, _, _), (6, _, _), (7, _, _)] rfl (KW.then_ ?_))
  refine CW.seq (CW.seq (CW.region ?_))
  refine TW.move rfl rfl rfl ct ?_
  refine TW.move rfl rfl rfl ct ?_
  refine TW.move rfl rfl rfl ct ?_
  refine TW.call0 (cap := []) rfl rfl en64 rfl (Args.cons rfl ct (Args.cons rfl ct (Args.cons rfl ct Args.nil))) (rvalid27_c hd hl) ?_
  rintro y w1 ⟨c1, rfl⟩
  refine TW.not rfl rfl rfl ct ?_
  refine TW.nil (KW.pick [0, 1, 2, 6, 7, 20] [(0, _, _), (1, _, _), (2, _, _), (6, _, _), (7, _, _), (20, _, _)] rfl (KW.then_ ?_))
  refine CW.cond rfl (fun hbad => ?_) (fun hgood => ?_)
  · refine CW.seq (CW.region ?_)
    refine TW.assign rfl rfl rfl ct ?_
    refine TW.assign rfl rfl rfl ct ?_
    refine TW.nil (KW.pick [0, 1, 2, 6, 7] [(0, _, _), (1, _, _), (2, _, _), (6, _, _), (7, _, _)] rfl (KW.then_ ?_))
    refine CW.ret (KW.thenR ?_)
    refine ret2 Tryz.results91 rfl rfl (⟨c1, .slice none 0 0, ?_⟩)
    rw [dec_neg (p := WfE d l ∧ Poss d l)]
    rintro ⟨h, _⟩
    rw [dec_pos h] at hbad
    simp at hbad
  have hwf : WfE d l := dec_iff.1 (by simpa using hgood)
  have hl16 := hwf.few
  refine CW.skip (KW.then_ (CW.seq (CW.region ?_)))
  refine TW.move rfl rfl rfl ct ?_
  refine TW.move rfl rfl rfl ct ?_
  refine TW.move rfl rfl rfl ct ?_
  refine TW.call0 (cap := []) rfl rfl en107 rfl (Args.cons rfl ct (Args.cons rfl ct (Args.cons rfl ct Args.nil))) (rnodes_c (se_step hl c1) hl16) ?_
  rintro y w2 ⟨c2, nv, rfl, hns⟩
  have b2 := c1.step c2
  refine TW.move rfl rfl rfl ct ?_
  refine TW.extract rfl rfl rfl rfl ct ?_
  refine TW.extract rfl rfl rfl rfl ct ?_
  refine TW.assign rfl rfl rfl ct ?_
  refine TW.assign rfl rfl rfl ct ?_
  refine TW.nil (KW.pick [0, 1, 2, 6, 7, 8, 9] [(0, _, _), (1, _, _), (2, _, _), (6, _, _), (7, _, _), (8, _, _), (9, _, _)] rfl (KW.then_ ?_))
  refine CW.seq (CW.seq (CW.region ?_))
  refine TW.move rfl rfl rfl ct ?_
  refine TW.not rfl rfl rfl ct ?_
  refine TW.nil (KW.pick [0, 1, 2, 6, 7, 8, 9, 29] [(0, _, _), (1, _, _), (2, _, _), (6, _, _), (7, _, _), (8, _, _), (9, _, _), (29, _, _)] rfl (KW.then_ ?_))
  refine CW.cond rfl (fun hbad2 => ?_) (fun hgood2 => ?_)
  · refine CW.seq (CW.region ?_)
    refine TW.assign rfl rfl rfl ct ?_
    refine TW.assign rfl rfl rfl ct ?_
    refine TW.nil (KW.pick [0, 1, 2, 6, 7, 8, 9] [(0, _, _), (1, _, _), (2, _, _), (6, _, _), (7, _, _), (8, _, _), (9, _, _)] rfl (KW.then_ ?_))
    refine CW.ret (KW.thenR ?_)
    refine ret2 Tryz.results91 rfl rfl (⟨b2, .slice none 0 0, ?_⟩)
    rw [dec_neg (p := WfE d l ∧ Poss d l)]
    rintro ⟨h, hp⟩
    rw [dec_pos (poss_win h hp)] at hbad2
    simp at hbad2
  have hwin : ∀ e ∈ l, lowC e ≤ highC e := dec_iff.1 (by simpa using hgood2)
  have hn2 := hns hwin
  have hok := nodes_ok hwf hwin
  have hnl := nodesTo_len (Nat.le_refl l.length)
  have hpf := poss_feas hwf hwin
  obtain ⟨ns, hnse⟩ : ∃ ns, ns = nodesTo l l.length := ⟨_, rfl⟩
  rw [← hnse] at hn2 hok hnl hpf
  obtain ⟨N, ncap, rfl, _⟩ := hn2.form
  have husl : (usOf ns).length = ns.length := by simp [usOf]
  have huok := us_ok hok
  have huwin := us_win hok
  refine CW.skip (KW.then_ (CW.seq (CW.seq (CW.region ?_))))
  refine TW.move rfl rfl rfl ct ?_
  refine TW.lenSlice rfl rfl Tryz.underlying131 rfl ct ?_
  refine TW.eql rfl rfl rfl ct rfl ct ?_
  refine TW.nil (KW.pick [0, 1, 2, 6, 7, 8, 9, 32] [(0, _, _), (1, _, _), (2, _, _), (6, _, _), (7, _, _), (8, _, _), (9, _, _), (32, _, _)] rfl (KW.then_ ?_))
  refine CW.condP rfl (fun hz => ?_) (fun hnz => ?_)
  · refine CW.seq (CW.region ?_)
    refine TW.assign rfl rfl rfl ct ?_
    refine TW.assign rfl rfl rfl ct ?_
    refine TW.nil (KW.pick [0, 1, 2, 6, 7, 8, 9] [(0, _, _), (1, _, _), (2, _, _), (6, _, _), (7, _, _), (8, _, _), (9, _, _)] rfl (KW.then_ ?_))
    refine CW.ret (KW.thenR ?_)
    refine ret2 Tryz.results91 rfl rfl (⟨b2, .slice none 0 0, ?_⟩)
    have h0 : l = [] := List.eq_nil_of_length_eq_zero (by omega)
    rw [dec_pos (p := WfE d l ∧ Poss d l) ⟨hwf, by rw [h0]; exact poss_nil d⟩]
  have hn0 : 0 < ns.length := by omega
  obtain ⟨nd, rfl⟩ := hn2.addr hn0
  refine CW.skip (KW.then_ (CW.seq (CW.region ?_)))
  refine TW.assign rfl rfl rfl ct ?_
  refine TW.nil (KW.pick [0, 1, 2, 6, 7, 8, 9, 10] [(0, _, _), (1, _, _), (2, _, _), (6, _, _), (7, _, _), (8, _, _), (9, _, _), (10, _, _)] rfl (KW.then_ ?_))
  refine CW.seq (CW.seq (CW.region ?_))
  refine TW.assign rfl rfl rfl ct ?_
  refine TW.nil (KW.pick [0, 1, 2, 6, 7, 8, 9, 10, 11] [(0, _, _), (1, _, _), (2, _, _), (6, _, _), (7, _, _), (8, _, _), (9, _, _), (10, _, _), (11, _, _)] rfl (KW.then_ ?_))
  refine CW.block ?_
  refine CW.loopS (fun x : Nat × Value => [(0, none, .slice D d.length dcap), (1, none, .slice B l.length bcap), (8, none, .slice (some nd) ns.length ncap), (10, none, x.2), (11, none, .int .i64 (x.1 : Int))])
    (fun x W => x.1 ≤ ns.length ∧ Below w2.heap.size w2 W ∧ RL W x.2 (startL (usOf ns) x.1) ∧ ∀ g, x.2.ownBlock = some g → w2.heap.size ≤ g) (fun x => ns.length - x.1) (0, .slice none 0 0) [0, 1, 8, 10, 11] ⟨Nat.zero_le _, Below.refl _ _, OwnS.nil _ _ _, fun g hg => by simp [Value.ownBlock] at hg⟩ rfl ?_
  rintro ⟨i, cv⟩ W ⟨hi, hB, hR, hown⟩
  dsimp only at hi hR hown
  refine CW.seq (CW.seq (CW.region ?_))
  refine TW.move rfl rfl rfl ct ?_
  refine TW.move rfl rfl rfl ct ?_
  refine TW.lenSlice rfl rfl Tryz.underlying131 rfl ct ?_
  refine TW.lss rfl rfl rfl ct rfl ct ?_
  refine TW.nil (KW.pick [0, 1, 8, 10, 11, 36] [(0, _, _), (1, _, _), (8, _, _), (10, _, _), (11, _, _), (36, _, _)] rfl (KW.then_ ?_))
  refine CW.condP rfl (fun hlt => ?_) (fun hge => ?_)
  · obtain ⟨x, hx, hxm⟩ := getx (l := ns) (k := i) (by omega)
    have hnW := hn2.below hB
    have hxc := nd_get hnW hx
    have hp16 := pow_le16 (i := i) (by omega)
    have hst : start1 (usOf ns) i = ⟨x.low, i, 1 <<< i, -1⟩ := by
      unfold start1
      rw [us_get hx]
      rfl
    obtain ⟨CA, ccap, rfl, _⟩ := hR.form
    refine CW.skip (KW.then_ (CW.seq (CW.block ?_)))
    refine CW.drawR mixed fun W3 hb3 => ?_
    refine RW.draw .weak 11 (by kernel_rfl) (by kernel_rfl) rfl rfl hb3 ?_
    refine DW.move rfl rfl rfl ct ?_
    refine DW.move rfl rfl rfl ct ?_
    refine DW.move rfl rfl rfl ct ?_
    refine DW.indexAddr rfl rfl Tryz.underlying131 sz136 rfl ct rfl ct (fun _ => by (try dsimp only); omega) ?_
    refine DW.fieldAddr rfl rfl fo136_3 rfl ct ?_
    refine DW.load rfl rfl one3 rfl ct (fun _ => hxc 3 _ rfl) ?_
    refine DW.move rfl rfl rfl ct ?_
    refine DW.move rfl rfl rfl ct ?_
    refine DW.call (.ex (.int .i64 ((2 ^ i : Nat) : Int))) trivial rfl rfl en108 rfl ct (DArgs.cons rfl ct DArgs.nil) (fun _ w' hb' => (rbit_c (i := i) (by omega)).mono fun u w'' ⟨h1, h2⟩ => ⟨h1, h2⟩) ?_
    refine DW.build [0, 1, 2, 3] [.tmp 44, .tmp 45, .tmp 47, .const (.int .i64 (-1))] [.int .i64 x.low, .int .i64 (i : Int), .int .i64 ((2 ^ i : Nat) : Int), .int .i64 (-1)] rfl rfl rfl rfl (DArgs.cons rfl ct (DArgs.cons rfl ct (DArgs.cons rfl ct (DArgs.cons rfl ct DArgs.nil)))) (by kernel_rfl) ?_
    refine DW.buildSlice 139 _ rfl rfl rfl eo134 (DArgs.cons rfl ct DArgs.nil) rfl rfl rfl rfl rfl ?_
    refine DW.nil (DW.finX [0, 1, 8, 10, 11, 39] [(0, _, _), (1, _, _), (8, _, _), (10, _, _), (11, _, _), (39, _, _)] rfl [49] rfl fun vs w3 b3 hs3 => KW.rk' ?_)
    obtain ⟨v49, rfl, h49⟩ := Sats.one hs3
    obtain ⟨g3, rfl, hB3⟩ := h49
    refine RW.one (by kernel_rfl) (by kernel_rfl) rfl ?_
    refine TW.append (rsCells (start1 (usOf ns) i)) rfl rfl go134 rfl (hR.below b3) rfl rfl (fun j v hj => ⟨⟨g3, 0, none⟩, rfl, ?_⟩) (fun v hv => by simp [rsCells] at hv; rcases hv with rfl | rfl | rfl | rfl <;> rfl) (by have := startL_len (usOf ns) i; omega) (by omega) ?_
    · rw [hst, Nat.one_shiftLeft] at hj
      exact hB3.fld hj
    rintro cv' w4 o4 hg4 hn4
    refine TW.nil (KW.pick [0, 1, 8, 10, 11, 50] [(0, _, _), (1, _, _), (8, _, _), (10, _, _), (11, _, _), (50, _, _)] rfl (KW.rk ?_))
    refine RW.one (by kernel_rfl) (by kernel_rfl) rfl ?_
    refine TW.assign rfl rfl rfl ct ?_
    refine TW.nil (KW.pick [0, 1, 8, 10, 11] [(0, _, _), (1, _, _), (8, _, _), (10, _, _), (11, _, _)] rfl (KW.rk ?_))
    refine RW.end rfl (KW.pick [0, 1, 8, 10, 11] [(0, _, _), (1, _, _), (8, _, _), (10, _, _), (11, _, _)] rfl (KW.blockN (KW.then_ ?_)))
    refine CW.region ?_
    refine TW.move rfl rfl rfl ct ?_
    refine TW.add rfl rfl rfl ct rfl ct (fun _ => by (try dsimp only); omega) ?_
    refine TW.assign rfl rfl rfl ct ?_
    refine TW.nil (KW.pick [0, 1, 8, 10, 11] [(0, _, _), (1, _, _), (8, _, _), (10, _, _), (11, _, _)] rfl ?_)
    have hB3' := hB.step b3
    refine KW.round (i + 1, cv') [0, 1, 8, 10, 11] rfl ⟨by show i + 1 ≤ ns.length; omega, hB3'.grown hg4 hB3'.size hown, ?_, fun g hg => ?_⟩ (by show ns.length - (i + 1) < ns.length - i; omega)
    · show OwnS w4 _ 4 cv' (startL (usOf ns) (i + 1)).length ((startL (usOf ns) (i + 1)).flatMap rsCells)
      rw [startL_succ, List.flatMap_append]
      simpa using o4
    · rcases hn4 with h | h
      · exact hown g (by rw [← h]; exact hg)
      · rw [h] at hg; cases hg; exact hB3'.size
  have hie : i = ns.length := by omega
  subst hie
  have hdp0 := start_dp (d := d) huwin
  have hgood0 : Feas d (none, 0) (usOf ns) → GoodR d (usOf ns) 1 (startL (usOf ns) (usOf ns).length) := start_good hwf.wd huok huwin (fun e => by rw [e] at husl; simp at husl; omega)
  rw [husl] at hdp0 hgood0
  refine CW.exit (KW.thenX (KW.thenX (KW.blockX (KW.then_ (CW.seq (CW.seq (CW.region ?_)))))))
  refine TW.assign rfl rfl rfl ct ?_
  refine TW.nil (KW.pick [0, 1, 8, 10, 11, 12] [(0, _, _), (1, _, _), (8, _, _), (10, _, _), (11, _, _), (12, _, _)] rfl (KW.then_ ?_))
  refine CW.block ?_
  refine CW.loopS (fun x : Nat × Value × List RS => [(0, none, .slice D d.length dcap), (1, none, .slice B l.length bcap), (8, none, .slice (some nd) ns.length ncap), (10, none, x.2.1), (12, none, .int .i64 ((x.1 : Int) + 1))])
    (fun x W => x.1 + 1 ≤ ns.length ∧ Below w2.heap.size w2 W ∧ RL W x.2.1 x.2.2 ∧ (∀ g, x.2.1.ownBlock = some g → w2.heap.size ≤ g) ∧ (∃ b, DP d (usOf ns) x.1 b x.2.2) ∧ 0 < x.2.2.length ∧ (Feas d (none, 0) (usOf ns) → GoodR d (usOf ns) (x.1 + 1) x.2.2)) (fun x => ns.length - x.1) (0, cv, startL (usOf ns) ns.length) [0, 1, 8, 10, 12] ⟨by show 0 + 1 ≤ ns.length; omega, hB, hR, hown, ⟨0, hdp0⟩, by rw [startL_len]; omega, hgood0⟩ rfl ?_
  rintro ⟨r, cv1, L⟩ W1 ⟨hr, hB1, hR1, hown1, ⟨b, hdpL⟩, hL0, hgoodL⟩
  dsimp only at hr hR1 hown1 hdpL hL0 hgoodL
  obtain ⟨C1, cc1, rfl, _⟩ := hR1.form
  have hfewL := hdpL.few (by omega)
  refine CW.seq (CW.seq (CW.region ?_))
  refine TW.move rfl rfl rfl ct ?_
  refine TW.move rfl rfl rfl ct ?_
  refine TW.lenSlice rfl rfl Tryz.underlying131 rfl ct ?_
  refine TW.lss rfl rfl rfl ct rfl ct ?_
  refine TW.nil (KW.pick [0, 1, 8, 10, 12, 54] [(0, _, _), (1, _, _), (8, _, _), (10, _, _), (12, _, _), (54, _, _)] rfl (KW.then_ ?_))
  refine CW.condP rfl (fun hlt1 => ?_) (fun hge1 => ?_)
  · have hdpR := hdpL.round
    refine CW.skip (KW.then_ (CW.seq (CW.block (CW.seq (CW.region ?_)))))
    refine TW.move rfl rfl rfl ct ?_
    refine TW.lenSlice rfl rfl Tryz.underlying134 rfl ct ?_
    refine TW.assign rfl rfl rfl ct ?_
    refine TW.nil (KW.pick [0, 1, 8, 10, 12, 13] [(0, _, _), (1, _, _), (8, _, _), (10, _, _), (12, _, _), (13, _, _)] rfl (KW.then_ ?_))
    refine CW.seq (CW.region ?_)
    refine TW.assign rfl rfl rfl ct ?_
    refine TW.nil (KW.pick [0, 1, 8, 10, 12, 13, 14] [(0, _, _), (1, _, _), (8, _, _), (10, _, _), (12, _, _), (13, _, _), (14, _, _)] rfl (KW.then_ ?_))
    refine CW.block ?_
    refine CW.loopS (fun x : Nat × Value × List RS => [(0, none, .slice D d.length dcap), (1, none, .slice B l.length bcap), (8, none, .slice (some nd) ns.length ncap), (10, none, x.2.1), (12, none, .int .i64 ((r : Int) + 1)), (13, none, .int .i64 (L.length : Int)), (14, none, .int .i64 (x.1 : Int))])
      (fun x W => x.1 ≤ L.length ∧ Below w2.heap.size w2 W ∧ RL W x.2.1 x.2.2 ∧ (∀ g, x.2.1.ownBlock = some g → w2.heap.size ≤ g) ∧ DP d (usOf ns) (r + 1) L.length x.2.2 ∧ Lat L.length L x.2.2 ∧ ∀ (j : Nat) s, j < x.1 → L[j]? = some s → pc s.set = r + 1 → Done d (usOf ns) s x.2.2 ns.length) (fun x => L.length - x.1) (0, .slice C1 L.length cc1, L) [0, 1, 8, 10, 12, 13, 14] ⟨Nat.zero_le _, hB1, hR1, hown1, hdpR, Lat.refl (Nat.le_refl _), fun j s hj => by omega⟩ rfl ?_
    rintro ⟨k, cv2, M⟩ W2 ⟨hk, hB2, hR2, hown2, hdpM, hlat, hdone⟩
    dsimp only at hk hR2 hown2 hdpM hlat hdone
    have hML : L.length ≤ M.length := by
      have h1 := congrArg List.length hlat.2.1
      simp only [List.length_take] at h1
      omega
    refine CW.seq (CW.seq (CW.region ?_))
    refine TW.move rfl rfl rfl ct ?_
    refine TW.move rfl rfl rfl ct ?_
    refine TW.lss rfl rfl rfl ct rfl ct ?_
    refine TW.nil (KW.pick [0, 1, 8, 10, 12, 13, 14, 61] [(0, _, _), (1, _, _), (8, _, _), (10, _, _), (12, _, _), (13, _, _), (14, _, _), (61, _, _)] rfl (KW.then_ ?_))
    refine CW.condP rfl (fun hlt2 => ?_) (fun hge2 => ?_)
    · obtain ⟨s, hs, hsm⟩ := getx (l := L) (k := k) (by omega)
      have hsM : M[k]? = some s := by
        have h1 : (M.take L.length)[k]? = (L.take L.length)[k]? := by rw [hlat.2.1]
        rw [List.getElem?_take_of_lt (by omega), List.getElem?_take_of_lt (by omega), hs] at h1
        exact h1
      have hdW : SL (sliceT intT) (fun q => q < w.heap.size) W2 (.slice D d.length dcap) d := hd.below (b2.step hB2)
      have hnW := hn2.below hB2
      have hbs := b2.size
      refine CW.skip (KW.then_ (CW.seq (CW.block (CW.region ?_))))
      refine TW.move rfl rfl rfl ct ?_
      refine TW.move rfl rfl rfl ct ?_
      refine TW.move rfl rfl rfl ct ?_
      refine TW.move rfl rfl rfl ct ?_
      refine TW.move rfl rfl rfl ct ?_
      refine TW.move rfl rfl rfl ct ?_
      rw [show ((r : Int) + 1) = ((r + 1 : Nat) : Int) by omega]
      refine TW.call0 (cap := []) rfl rfl en109 rfl (Args.cons rfl ct (Args.cons rfl ct (Args.cons rfl ct (Args.cons rfl ct (Args.cons rfl ct (Args.cons rfl ct Args.nil)))))) (rext_c hdW hwf.wd hnW hok (by omega) hR2 (fun q hq e => by have := hown2 q e; omega) (fun q hq e => by have := hown2 q e; omega) hdpM hML hsM (by omega)) ?_
      rintro cv3 w3 ⟨hg3, ho3, L3, hR3, hdp3, hlat3, hdone3⟩
      refine TW.assign rfl rfl rfl ct ?_
      refine TW.nil (KW.pick [0, 1, 8, 10, 12, 13, 14] [(0, _, _), (1, _, _), (8, _, _), (10, _, _), (12, _, _), (13, _, _), (14, _, _)] rfl (KW.blockN (KW.then_ ?_)))
      refine CW.region ?_
      refine TW.move rfl rfl rfl ct ?_
      refine TW.add rfl rfl rfl ct rfl ct (fun _ => by (try dsimp only); omega) ?_
      refine TW.assign rfl rfl rfl ct ?_
      refine TW.nil (KW.pick [0, 1, 8, 10, 12, 13, 14] [(0, _, _), (1, _, _), (8, _, _), (10, _, _), (12, _, _), (13, _, _), (14, _, _)] rfl ?_)
      have hs2 := hB2.size
      refine KW.round (k + 1, cv3, L3) [0, 1, 8, 10, 12, 13, 14] rfl ⟨by show k + 1 ≤ L.length; omega, hB2.grown hg3 hB2.size hown2, hR3, fun g hg => ?_, hdp3, hlat.trans hlat3, fun j s' hj hs' hp => ?_⟩ (by show L.length - (k + 1) < L.length - k; omega)
      · rcases ho3 g hg with h | h
        · exact hown2 g h
        · omega
      · by_cases hjk : j < k
        · exact (hdone j s' hjk hs' hp).lat hlat3
        · have : j = k := by have hj : j < k + 1 := hj; omega
          subst this
          rw [hs] at hs'
          cases hs'
          exact hdone3 hp
    · have hke : k = L.length := by omega
      subst hke
      refine CW.exit (KW.thenX (KW.thenX (KW.blockX (KW.blockN (KW.then_ (CW.region ?_))))))
      refine TW.move rfl rfl rfl ct ?_
      refine TW.add rfl rfl rfl ct rfl ct (fun _ => by (try dsimp only); omega) ?_
      refine TW.assign rfl rfl rfl ct ?_
      refine TW.nil (KW.pick [0, 1, 8, 10, 12, 13, 14] [(0, _, _), (1, _, _), (8, _, _), (10, _, _), (12, _, _), (13, _, _), (14, _, _)] rfl ?_)
      rw [show ((r : Int) + 1 + 1) = (((r + 1 : Nat) : Int) + 1) by omega]
      refine KW.round (r + 1, cv2, M) [0, 1, 8, 10, 12] rfl ⟨by show r + 1 + 1 ≤ ns.length; omega, hB2, hR2, hown2, ⟨_, hdpM⟩, by show 0 < M.length; omega, fun hf => ?_⟩ (by show ns.length - (r + 1) < ns.length - r; omega)
      obtain ⟨s, hs, hsp, hsf⟩ := hgoodL hf
      obtain ⟨j, hj⟩ := List.mem_iff_getElem?.1 hs
      have hjl := (List.getElem?_eq_some_iff.1 hj).1
      have hsok := hdpL.each s hs
      have hleft := pc_left (usOf ns) s.set hsok.bits
      have hsokS := hsok.way.sok huok
      obtain ⟨i, u, h1, h2, h3, h4, h5⟩ := feas_next hwf.wd huok hsokS hsf (fun e => by rw [e] at hleft; simp only [List.length_nil] at hleft; omega)
      have hil : i < ns.length := by have := (List.getElem?_eq_some_iff.1 h1).1; omega
      have hhas := hdone j s hjl hj hsp i u hil h1 h2 h3 h4
      have hg := has_good huok h1 hhas h5
      rw [(pc_or (by omega) hsok.bits h2).1, hsp] at hg
      exact hg
  have hrn : r + 1 = ns.length := by omega
  have hRsl := RL.sl hR1 (by omega)
  obtain ⟨cg1, rfl⟩ := rl_addr hR1 hL0
  have hp16 := pow_le16 (i := ns.length) (by omega)
  have hp := Nat.two_pow_pos ns.length
  have hn1 := hn2.below hB1
  refine CW.exit (KW.thenX (KW.thenX (KW.blockX (KW.then_ (CW.seq (CW.seq (CW.region ?_)))))))
  refine TW.move rfl rfl rfl ct ?_
  refine TW.lenSlice rfl rfl Tryz.underlying134 rfl ct ?_
  refine TW.sub rfl rfl rfl ct rfl ct (fun _ => by (try dsimp only); omega) ?_
  refine TW.assign rfl rfl rfl ct ?_
  refine TW.nil (KW.pick [0, 1, 8, 10, 12, 15] [(0, _, _), (1, _, _), (8, _, _), (10, _, _), (12, _, _), (15, _, _)] rfl (KW.then_ ?_))
  refine CW.block ?_
  refine CW.loopS (fun x : Nat => [(1, none, .slice B l.length bcap), (8, none, .slice (some nd) ns.length ncap), (10, none, .slice (some ⟨cg1, 0, none⟩) L.length cc1), (15, none, .int .i64 ((x : Int) - 1))])
    (fun x W => x ≤ L.length ∧ Below W1.heap.size W1 W ∧ ∀ (j : Nat) s, x ≤ j → L[j]? = some s → s.set ≠ 2 ^ ns.length - 1) (fun x => x) L.length [1, 8, 10, 15] ⟨Nat.le_refl _, Below.refl _ _, fun j s h1 h2 => by have := (List.getElem?_eq_some_iff.1 h2).1; omega⟩ rfl ?_
  rintro j W3 ⟨hj, hB3, hnone⟩
  refine CW.seq (CW.seq (CW.region ?_))
  refine TW.move rfl rfl rfl ct ?_
  refine TW.geq rfl rfl rfl ct rfl ct ?_
  refine TW.nil (KW.pick [1, 8, 10, 15, 75] [(1, _, _), (8, _, _), (10, _, _), (15, _, _), (75, _, _)] rfl (KW.then_ ?_))
  refine CW.condP rfl (fun hlt3 => ?_) (fun hge3 => ?_)
  · obtain ⟨i, rfl⟩ : ∃ i, j = i + 1 := ⟨j - 1, by omega⟩
    rw [show (((i + 1 : Nat) : Int) - 1) = (i : Int) by omega]
    obtain ⟨s, hs, hsm⟩ := getx (l := L) (k := i) (by omega)
    have hR3 := hR1.below hB3
    have hsc := rs_get hR3 (by omega) hs
    refine CW.skip (KW.then_ (CW.seq (CW.block (CW.seq (CW.draw mixed (by kernel_rfl) ?_)))))
    refine DW.move rfl rfl rfl ct ?_
    refine DW.move rfl rfl rfl ct ?_
    refine DW.indexAddr rfl rfl Tryz.underlying134 sz139 rfl ct rfl ct (fun _ => by (try dsimp only); omega) ?_
    refine DW.fieldAddr rfl rfl fo139_2 rfl ct ?_
    refine DW.load rfl rfl one3 rfl ct (fun _ => hsc 2 _ rfl) ?_
    refine DW.move rfl rfl rfl ct ?_
    refine DW.lenSlice rfl rfl Tryz.underlying131 rfl ct ?_
    refine DW.call (.ex (.int .i64 ((2 ^ ns.length : Nat) : Int))) trivial rfl rfl en108 rfl ct (DArgs.cons rfl ct DArgs.nil) (fun _ w' hb' => (rbit_c (i := ns.length) (by omega)).mono fun u w'' ⟨h1, h2⟩ => ⟨h1, h2⟩) ?_
    refine DW.sub rfl rfl rfl ct rfl ct (fun _ => by omega) ?_
    refine DW.eql rfl rfl rfl ct rfl ct ?_
    refine DW.nil (DW.fin [1, 8, 10, 15, 87] [(1, _, _), (8, _, _), (10, _, _), (15, _, _), (87, _, _)] rfl (fun w4 b4 => KW.then_ ?_))
    have hB4 := hB3.step b4
    refine CW.condP rfl (fun heq => ?_) (fun hne => ?_)
    · have hset : s.set = 2 ^ ns.length - 1 := by omega
      have hf : Feas d (none, 0) (usOf ns) := full_feas hdpL.each ⟨s, hsm, by rw [husl]; exact hset⟩
      refine CW.seq (CW.region ?_)
      refine TW.move rfl rfl rfl ct ?_
      refine TW.move rfl rfl rfl ct ?_
      refine TW.move rfl rfl rfl ct ?_
      refine TW.move rfl rfl rfl ct ?_
      refine TW.lenSlice rfl rfl Tryz.underlying23 rfl ct ?_
      have hbk : ∀ (q : Nat) s', L[q]? = some s' → s'.frm < q ∧ -1 ≤ s'.frm ∧ s'.last < ns.length ∧ 0 ≤ s'.time ∧ s'.time ≤ 1000000 := fun q s' hs' => by
        have h1 := hdpL.each s' (List.mem_of_getElem? hs')
        have h2 := h1.last
        exact ⟨hdpL.back q s' hs', h1.f1, by omega, h1.t0, h1.t1⟩
      refine TW.call0 (cap := []) rfl rfl en110 rfl (Args.cons rfl ct (Args.cons rfl ct (Args.cons rfl ct (Args.cons rfl ct Args.nil)))) (rtimes_c (hn1.below hB4) hok hl16 (hRsl.below hB4) hbk (by omega)) ?_
      rintro tv w5 c5
      refine TW.assign rfl rfl rfl ct ?_
      refine TW.assign rfl rfl rfl ct ?_
      refine TW.nil (KW.pick [1, 6, 7, 8, 10, 15] [(1, _, _), (6, _, _), (7, _, _), (8, _, _), (10, _, _), (15, _, _)] rfl (KW.then_ ?_))
      refine CW.ret (KW.blockR (KW.thenR (KW.thenR (KW.blockR (KW.thenR ?_)))))
      refine ret2 Tryz.results91 rfl rfl (⟨b2.step (hB1.step (hB4.step c5)), tv, ?_⟩)
      rw [dec_pos (p := WfE d l ∧ Poss d l) ⟨hwf, hpf.2 hf⟩]
    · refine CW.skip (KW.blockN (KW.then_ (CW.region ?_)))
      refine TW.move rfl rfl rfl ct ?_
      refine TW.sub rfl rfl rfl ct rfl ct (fun _ => by (try dsimp only); omega) ?_
      refine TW.assign rfl rfl rfl ct ?_
      refine TW.nil (KW.pick [1, 8, 10, 15] [(1, _, _), (8, _, _), (10, _, _), (15, _, _)] rfl ?_)
      refine KW.round i [1, 8, 10, 15] rfl ⟨by omega, hB4, fun q s' hq hs' => ?_⟩ (by omega)
      by_cases hqi : q = i
      · subst hqi
        rw [hs] at hs'
        cases hs'
        intro e
        omega
      · exact hnone q s' (by omega) hs'
  · refine CW.exit (KW.thenX (KW.thenX (KW.blockX (KW.then_ (CW.seq (CW.region ?_))))))
    refine TW.assign rfl rfl rfl ct ?_
    refine TW.assign rfl rfl rfl ct ?_
    refine TW.nil (KW.pick [1, 6, 7, 8, 10, 15] [(1, _, _), (6, _, _), (7, _, _), (8, _, _), (10, _, _), (15, _, _)] rfl (KW.then_ ?_))
    refine CW.ret ?_
    refine ret2 Tryz.results91 rfl rfl (⟨b2.step (hB1.step hB3), .slice none 0 0, ?_⟩)
    rw [dec_neg (p := WfE d l ∧ Poss d l)]
    rintro ⟨_, hp⟩
    have hg := hgoodL (hpf.1 hp)
    rw [hrn, ← husl] at hg
    obtain ⟨s, hs, he⟩ := good_full hdpL.each hg
    obtain ⟨q, hq⟩ := List.mem_iff_getElem?.1 hs
    exact hnone q s (by omega) hq (by rw [← husl]; exact he)
end Go.Proofs.YtmhfeehkpndadaaGreat

/- Owned rows whose elements lie in blocks made by the call. -/
namespace Go.PF
open Go.RowKit
variable {α : Type}

def RowB (T : Ty α) (w : World) (e : TypeId) (b : Nat) (v : Value) (ps : List (List Value × α)) : Prop := OwnS w e T.n v ps.length (ps.flatMap (·.1)) ∧ (∀ p ∈ ps, T.rep (fun k => b ≤ k ∧ RowF w v k) w p.1 p.2) ∧ ∀ g, v.ownBlock = some g → b ≤ g
theorem RowB.nil (T : Ty α) (w : World) (e : TypeId) (b : Nat) : RowB T w e b (.slice none 0 0) [] := ⟨OwnS.nil _ _ _, (fun p hp => by cases hp), fun g h => by simp [Value.ownBlock] at h⟩
theorem RowB.new {T : Ty α} {w : World} {e : TypeId} {b g : Nat} (hB : Blk w g e []) (hg : b ≤ g) : RowB T w e b (.slice (some ⟨g, 0, none⟩) 0 0) [] :=
  ⟨OwnS.of_blk hB (by simp) (by simp), (fun p hp => by cases hp), fun q h => by simp [Value.ownBlock] at h; omega⟩
theorem RowB.l {T : Ty α} {w : World} {e : TypeId} {b : Nat} {v : Value} {ps : List (List Value × α)} (h : RowB T w e b v ps) : RowL T w e b v ps := ⟨h.1, fun p hp => T.wider _ _ _ _ _ (fun _ hk => hk.2) (h.2.1 p hp), h.2.2⟩
theorem RowB.sl {T : Ty α} (h0 : 0 < T.n) {w : World} {e : TypeId} {b : Nat} {v : Value} {ps : List (List Value × α)} (h : RowB T w e b v ps) : SL T (fun k => b ≤ k ∧ k < w.heap.size) w v (ps.map (·.2)) :=
  OwnS.toSLp ps (fun p hp => T.wider _ _ _ _ _ (fun _ hk => ⟨hk.1, hk.2.1⟩) (h.2.1 p hp)) h0 h.1 rfl (fun g hg => ⟨h.2.2 g hg, h.1.lt hg⟩) h.l.big
theorem RowB.step {T : Ty α} {w w' : World} {e : TypeId} {b : Nat} {v : Value} {ps : List (List Value × α)} (h : RowB T w e b v ps) (hb : Below w.heap.size w w') : RowB T w' e b v ps :=
  ⟨h.1.below hb, fun p hp => T.wider _ _ _ _ _ (fun k hk => ⟨hk.1, Nat.lt_of_lt_of_le hk.2.1 hb.size, hk.2.2⟩) (T.mono _ _ _ _ _ (Kept.of_below hb) (h.2.1 p hp)), h.2.2⟩
theorem RowB.app {T : Ty α} {w w' : World} {e : TypeId} {b : Nat} {v v' : Value} {ps : List (List Value × α)} {cs : List Value} {x : α} (h : RowB T w e b v ps) (hO : OwnS w' e T.n v' (ps.length + 1) (ps.flatMap (·.1) ++ cs)) (hg : w.grownBy w' v.ownBlock) (hn : v'.ownBlock = v.ownBlock ∨ v'.ownBlock = some w.heap.size)
    (hr : T.rep (fun k => b ≤ k ∧ RowF w v k) w cs x) (hb : b ≤ w.heap.size) : RowB T w' e b v' (ps ++ [(cs, x)]) := by
  have hk : Kept (fun k => b ≤ k ∧ RowF w v k) w w' := Kept.of_blocks fun k hk hlt => hg.block k hlt (fun e => hk.2.2 e.symm)
  have hw : ∀ k, (b ≤ k ∧ RowF w v k) → b ≤ k ∧ RowF w' v' k := fun k hk => ⟨hk.1, Nat.lt_of_lt_of_le hk.2.1 hg.size, fun e => by
    rcases hn with h' | h'
    · exact hk.2.2 (by rw [← h']; exact e)
    · rw [h'] at e; cases e; exact absurd hk.2.1 (Nat.lt_irrefl _)⟩
  refine ⟨by rw [List.flatMap_append, List.length_append]; simpa using hO, fun p hp => ?_, fun q hq => ?_⟩
  · rcases List.mem_append.1 hp with hp | hp
    · exact T.wider _ _ _ _ _ hw (T.mono _ _ _ _ _ hk (h.2.1 p hp))
    · rw [List.mem_singleton] at hp
      subst hp
      exact T.wider _ _ _ _ _ hw (T.mono _ _ _ _ _ hk hr)
  · rcases hn with h' | h'
    · exact h.2.2 q (by rw [← h']; exact hq)
    · rw [h'] at hq; cases hq; exact hb
end Go.PF
