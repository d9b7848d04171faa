/- Texts joined: RowB Yj Yk. -/
import Derived.Test.YthjcgmjcpmodlaaDoorQD
import Derived.Test.YthjcgmjcpmodlaaDoorQC
import Derived.Test.YthjcgmjcpmodlaaDoorQJ
set_option linter.unusedSimpArgs false
set_option linter.unusedVariables false

/- Owned rows whose elements lie in blocks made by the call. -/
namespace Go.PF
open Go.RowKit
variable {α : Type}

def RowB (T : Ty α) (w : World) (e : TypeId) (b : Nat) (v : Value) (ps : List (List Value × α)) : Prop := OwnS w e T.n v ps.length (ps.flatMap (·.1)) ∧ (∀ p ∈ ps, T.rep (fun k => b ≤ k ∧ RowF w v k) w p.1 p.2) ∧ ∀ g, v.ownBlock = some g → b ≤ g
theorem RowB.nil (T : Ty α) (w : World) (e : TypeId) (b : Nat) : RowB T w e b (.slice none 0 0) [] := ⟨OwnS.nil _ _ _, (fun p hp => by cases hp), fun g h => by simp [Value.ownBlock] at h⟩
theorem RowB.new {T : Ty α} {w : World} {e : TypeId} {b g : Nat} (hB : Blk w g e []) (hg : b ≤ g) : RowB T w e b (.slice (some ⟨g, 0, none⟩) 0 0) [] :=
  ⟨OwnS.of_blk hB (by simp) (by simp), (fun p hp => by cases hp), fun q h => by simp [Value.ownBlock] at h; omega⟩
theorem RowB.l {T : Ty α} {w : World} {e : TypeId} {b : Nat} {v : Value} {ps : List (List Value × α)} (h : RowB T w e b v ps) : RowL T w e b v ps := ⟨h.1, fun p hp => T.wider _ _ _ _ _ (fun _ hk => hk.2) (h.2.1 p hp), h.2.2⟩
theorem RowB.sl {T : Ty α} (h0 : 0 < T.n) {w : World} {e : TypeId} {b : Nat} {v : Value} {ps : List (List Value × α)} (h : RowB T w e b v ps) : SL T (fun k => b ≤ k ∧ k < w.heap.size) w v (ps.map (·.2)) :=
  OwnS.toSLp ps (fun p hp => T.wider _ _ _ _ _ (fun _ hk => ⟨hk.1, hk.2.1⟩) (h.2.1 p hp)) h0 h.1 rfl (fun g hg => ⟨h.2.2 g hg, h.1.lt hg⟩) h.l.big
theorem RowB.step {T : Ty α} {w w' : World} {e : TypeId} {b : Nat} {v : Value} {ps : List (List Value × α)} (h : RowB T w e b v ps) (hb : Below w.heap.size w w') : RowB T w' e b v ps :=
  ⟨h.1.below hb, fun p hp => T.wider _ _ _ _ _ (fun k hk => ⟨hk.1, Nat.lt_of_lt_of_le hk.2.1 hb.size, hk.2.2⟩) (T.mono _ _ _ _ _ (Kept.of_below hb) (h.2.1 p hp)), h.2.2⟩
theorem RowB.app {T : Ty α} {w w' : World} {e : TypeId} {b : Nat} {v v' : Value} {ps : List (List Value × α)} {cs : List Value} {x : α} (h : RowB T w e b v ps) (hO : OwnS w' e T.n v' (ps.length + 1) (ps.flatMap (·.1) ++ cs)) (hg : w.grownBy w' v.ownBlock) (hn : v'.ownBlock = v.ownBlock ∨ v'.ownBlock = some w.heap.size)
    (hr : T.rep (fun k => b ≤ k ∧ RowF w v k) w cs x) (hb : b ≤ w.heap.size) : RowB T w' e b v' (ps ++ [(cs, x)]) := by
  have hk : Kept (fun k => b ≤ k ∧ RowF w v k) w w' := Kept.of_blocks fun k hk hlt => hg.block k hlt (fun e => hk.2.2 e.symm)
  have hw : ∀ k, (b ≤ k ∧ RowF w v k) → b ≤ k ∧ RowF w' v' k := fun k hk => ⟨hk.1, Nat.lt_of_lt_of_le hk.2.1 hg.size, fun e => by
    rcases hn with h' | h'
    · exact hk.2.2 (by rw [← h']; exact e)
    · rw [h'] at e; cases e; exact absurd hk.2.1 (Nat.lt_irrefl _)⟩
  refine ⟨by rw [List.flatMap_append, List.length_append]; simpa using hO, fun p hp => ?_, fun q hq => ?_⟩
  · rcases List.mem_append.1 hp with hp | hp
    · exact T.wider _ _ _ _ _ hw (T.mono _ _ _ _ _ hk (h.2.1 p hp))
    · rw [List.mem_singleton] at hp
      subst hp
      exact T.wider _ _ _ _ _ hw (T.mono _ _ _ _ _ hk hr)
  · rcases hn with h' | h'
    · exact h.2.2 q (by rw [← h']; exact hq)
    · rw [h'] at hq; cases hq; exact hb
end Go.PF

namespace Go.Proofs.YthjcgmjcpmodlaaDoor
open Go.PF Go.RowKit Go.Ord Go.Sort Go.Proofs

set_option maxRecDepth 20000 in
theorem needs_c {w : World} {v : Value} {e : Ev} {n : Int} {F : Nat → Prop} (h : EvOK F w v e) :
    Gives Tryd.prog 15 #[.agg (evV e v).toArray, .int .i64 n] w fun u w' => Below w.heap.size w w' ∧ u = .bool (decide (n ∈ e.needs)) := by
  obtain ⟨A, cap, rfl, _⟩ := h.nd.form
  have hmax := h.nd.len.2.2
  refine gives_of (vs := [.agg (evV e (.slice A e.needs.length cap)).toArray, .int .i64 n]) [(0, none, _), (1, none, _)] Tryd.func15 rfl Tryd.ntmps15 rfl rfl ?_
  refine CW.seq (CW.region ?_)
  refine TW.box rfl rfl rfl rfl ?_
  rintro g1 w1 f1
  refine TW.assign rfl rfl rfl ct ?_
  refine TW.nil (KW.pick [0, 1, 2, 4] [(0, _, _), (1, _, _), (2, _, _), (4, _, _)] rfl (KW.then_ ?_))
  refine CW.seq (CW.seq (CW.region ?_))
  refine TW.assign rfl rfl rfl ct ?_
  refine TW.nil (KW.pick [0, 1, 2, 4, 5] [(0, _, _), (1, _, _), (2, _, _), (4, _, _), (5, _, _)] rfl (KW.then_ ?_))
  refine CW.block ?_
  have hB := f1.blk
  have nd1 := h.nd.below f1.below
  refine CW.loopS (fun i : Nat => [(1, none, .int .i64 n), (2, none, .pointer (some ⟨g1, 0, none⟩)), (5, none, .int .i64 (i : Int))])
    (fun i W => i ≤ e.needs.length ∧ W = w1 ∧ n ∉ e.needs.take i) (fun i => e.needs.length - i) 0 [1, 2, 5] ⟨by omega, rfl, by simp⟩ rfl ?_
  rintro i W ⟨hi, rfl, hno⟩
  refine CW.seq (CW.seq (CW.region ?_))
  refine TW.move rfl rfl rfl ct ?_
  refine TW.fieldAddr rfl rfl fo31_3 rfl ct ?_
  refine TW.load rfl rfl one29 rfl ct (fun _ => hB.fld rfl) ?_
  refine TW.lenSlice rfl rfl Tryd.underlying29 rfl ct ?_
  refine TW.lss rfl rfl rfl ct rfl ct ?_
  refine TW.nil (KW.pick [1, 2, 5, 10] [(1, _, _), (2, _, _), (5, _, _), (10, _, _)] rfl (KW.then_ ?_))
  refine CW.condP rfl (fun hlt => ?_) (fun hge => ?_)
  · obtain ⟨y, hy, hym⟩ := getx (l := e.needs) (k := i) (by omega)
    obtain ⟨ad, rfl⟩ := nd1.addr (by omega)
    refine CW.skip (KW.then_ (CW.seq (CW.block (CW.seq (CW.region ?_)))))
    refine TW.fieldAddr rfl rfl fo31_3 rfl ct ?_
    refine TW.load rfl rfl one29 rfl ct (fun _ => hB.fld rfl) ?_
    refine TW.move rfl rfl rfl ct ?_
    refine TW.indexAddr rfl rfl Tryd.underlying29 sz3 rfl ct rfl ct (fun _ => by (try dsimp only); omega) ?_
    refine TW.load rfl rfl one3 rfl ct (fun _ => nd1.getI hy) ?_
    refine TW.move rfl rfl rfl ct ?_
    refine TW.eql rfl rfl rfl ct rfl ct ?_
    refine TW.nil (KW.pick [1, 2, 5, 19] [(1, _, _), (2, _, _), (5, _, _), (19, _, _)] rfl (KW.then_ ?_))
    refine CW.condP rfl (fun heq => ?_) (fun hne => ?_)
    · refine CW.seq (CW.region ?_)
      refine TW.assign rfl rfl rfl ct ?_
      refine TW.nil (KW.pick [1, 2, 4, 5] [(1, _, _), (2, _, _), (4, _, _), (5, _, _)] rfl (KW.then_ ?_))
      refine CW.ret (KW.blockR (KW.thenR (KW.thenR (KW.blockR (KW.thenR ?_)))))
      refine ret1 Tryd.results15 rfl (⟨f1.below, ?_⟩)
      have : y = n := by simpa using heq
      subst this
      rw [decide_eq_true hym]
    · refine CW.skip (KW.blockN (KW.then_ (CW.region ?_)))
      refine TW.move rfl rfl rfl ct ?_
      refine TW.add rfl rfl rfl ct rfl ct (fun _ => by (try dsimp only); omega) ?_
      refine TW.assign rfl rfl rfl ct ?_
      refine TW.nil (KW.pick [1, 2, 5] [(1, _, _), (2, _, _), (5, _, _)] rfl ?_)
      refine KW.round (i + 1) [1, 2, 5] rfl ⟨by omega, rfl, fun h => ?_⟩ (by omega)
      rw [List.take_add_one, hy] at h
      rcases List.mem_append.1 h with h | h
      · exact hno h
      · simp at h
        exact (by simpa using hne : ¬ y = n) h.symm
  · refine CW.exit (KW.thenX (KW.thenX (KW.blockX (KW.then_ (CW.seq (CW.region ?_))))))
    refine TW.assign rfl rfl rfl ct ?_
    refine TW.nil (KW.pick [1, 2, 4, 5] [(1, _, _), (2, _, _), (4, _, _), (5, _, _)] rfl (KW.then_ ?_))
    refine CW.ret ?_
    refine ret1 Tryd.results15 rfl (⟨f1.below, ?_⟩)
    rw [List.take_of_length_le (by omega)] at hno
    rw [decide_eq_false hno]

set_option maxRecDepth 20000 in
theorem renum_c {w : World} {v : Value} {l : List Ev} {n : Nat} (hl : SE w v l) (hsm : l.length ≤ 1000) (hn : n ≤ 1000) (hk : ∀ e ∈ l, (∀ k ∈ e.needs, 0 ≤ k ∧ k < (n : Int)) ∧ e.needs.length ≤ 1000) :
    Gives Tryd.prog 14 #[v, .int .i64 (n : Int)] w fun x w' => Below w.heap.size w w' ∧ SE w' x (canon (l.map (revEv n))) := by
  obtain ⟨A, cap, rfl, _⟩ := hl.form
  refine gives_of (vs := [.slice A l.length cap, .int .i64 (n : Int)]) [(0, none, _), (1, none, _)] Tryd.func14 rfl Tryd.ntmps14 rfl rfl ?_
  refine CW.seq (CW.region ?_)
  refine TW.assign rfl rfl rfl ct ?_
  refine TW.nil (KW.pick [0, 1, 4] [(0, _, _), (1, _, _), (4, _, _)] rfl (KW.then_ ?_))
  refine CW.seq (CW.region ?_)
  refine TW.assign rfl rfl rfl ct ?_
  refine TW.nil (KW.pick [0, 1, 4, 5] [(0, _, _), (1, _, _), (4, _, _), (5, _, _)] rfl (KW.then_ ?_))
  refine CW.seq (CW.seq (CW.region ?_))
  refine TW.assign rfl rfl rfl ct ?_
  refine TW.nil (KW.pick [0, 1, 4, 5, 6] [(0, _, _), (1, _, _), (4, _, _), (5, _, _), (6, _, _)] rfl (KW.then_ ?_))
  refine CW.block ?_
  refine CW.loopS (fun x : Nat × Value × List (List Value × Ev) => [(0, none, .slice A l.length cap), (1, none, .int .i64 (n : Int)), (5, none, x.2.1), (6, none, .int .i64 (x.1 : Int))])
    (fun x W => x.1 ≤ l.length ∧ Below w.heap.size w W ∧ RowL evT W 31 w.heap.size x.2.1 x.2.2 ∧ x.2.2.map (·.2) = (l.take x.1).map (revEv n)) (fun x => l.length - x.1) (0, .slice none 0 0, []) [0, 1, 5, 6]
    ⟨Nat.zero_le _, Below.refl _ _, RowL.nil _ _ _ _, by simp⟩ rfl ?_
  rintro ⟨i, ov, ps⟩ W ⟨hi, hB, hR, hmap⟩
  dsimp only at hi hB hR hmap
  have hpl : ps.length = i := by
    have := congrArg List.length hmap
    simp at this
    omega
  have hlW := se_step hl hB
  refine CW.seq (CW.seq (CW.region ?_))
  refine TW.move rfl rfl rfl ct ?_
  refine TW.move rfl rfl rfl ct ?_
  refine TW.lenSlice rfl rfl Tryd.underlying26 rfl ct ?_
  refine TW.lss rfl rfl rfl ct rfl ct ?_
  refine TW.nil (KW.pick [0, 1, 5, 6, 12] [(0, _, _), (1, _, _), (5, _, _), (6, _, _), (12, _, _)] rfl (KW.then_ ?_))
  refine CW.condP rfl (fun hlt => ?_) (fun hge => ?_)
  · obtain ⟨e, he, hem⟩ := getx (l := l) (k := i) (by omega)
    obtain ⟨ad, rfl⟩ := hlW.addr (by omega)
    obtain ⟨N1, nc, hcells, hok⟩ := SE.ok hlW he
    have hIe := sl_allI hok.nd
    obtain ⟨hke, hkl⟩ := hk e hem
    have hmax := hok.nd.len.2.2
    refine CW.skip (KW.then_ (CW.seq (CW.block (CW.seq (CW.region ?_)))))
    refine TW.move rfl rfl rfl ct ?_
    refine TW.move rfl rfl rfl ct ?_
    refine TW.indexAddr rfl rfl Tryd.underlying26 sz31 rfl ct rfl ct (fun _ => by (try dsimp only); omega) ?_
    refine TW.loadS _ rfl rfl Tryd.underlying31 sz31 rfl ct (fun _ => (fun j u hj => hcells j u hj)) rfl ?_
    refine TW.newVar rfl zc31 rfl sz31 rfl rfl ?_
    rintro g7 w7 f7
    refine TW.nil (KW.pick [0, 1, 5, 6, 7] [(0, _, _), (1, _, _), (5, _, _), (6, _, _), (7, _, _)] rfl (KW.then_ ?_))
    refine CW.seq (CW.region ?_)
    refine TW.fieldAddr rfl rfl fo31_3 rfl ct ?_
    have hg7 := f7.at_
    refine TW.storeFld rfl sz29 rfl rfl f7.blk (by show 3 < 4; decide) rfl ?_
    rintro w8 hB8 hbut8 hsz8
    refine TW.nil (KW.pick [0, 1, 5, 6, 7] [(0, _, _), (1, _, _), (5, _, _), (6, _, _), (7, _, _)] rfl (KW.then_ ?_))
    refine CW.seq (CW.seq (CW.region ?_))
    refine TW.move rfl rfl rfl ct ?_
    refine TW.move rfl rfl rfl ct ?_
    refine TW.indexAddr rfl rfl Tryd.underlying26 sz31 rfl ct rfl ct (fun _ => by (try dsimp only); omega) ?_
    refine TW.fieldAddr rfl rfl fo31_3 rfl ct ?_
    have hb8 : Below W.heap.size W w8 := f7.below.grown hbut8 f7.below.size (fun k hk => by cases hk; omega)
    have hcl : ∀ {X : World}, Below W.heap.size W X → ∀ j u, (evV e (.slice N1 e.needs.length nc))[j]? = some u → X.cell? ((ad.add ((i : Int).toNat * 4)).add j) = some u := fun hb j u hj => (hb.cell (block_lt_of_cell (hcells j u hj))).trans (hcells j u hj)
    refine TW.load rfl rfl one29 rfl ct (fun _ => hcl hb8 3 _ rfl) ?_
    refine TW.lenSlice rfl rfl Tryd.underlying29 rfl ct ?_
    refine TW.sub rfl rfl rfl ct rfl ct (fun _ => by (try dsimp only); omega) ?_
    refine TW.assign rfl rfl rfl ct ?_
    refine TW.nil (KW.pick [0, 1, 5, 6, 7, 8] [(0, _, _), (1, _, _), (5, _, _), (6, _, _), (7, _, _), (8, _, _)] rfl (KW.then_ ?_))
    refine CW.block ?_
    refine CW.loopS (fun x : Nat × Value => [(0, none, .slice (some ad) l.length cap), (1, none, .int .i64 (n : Int)), (5, none, ov), (6, none, .int .i64 (i : Int)), (7, none, .pointer (some ⟨g7, 0, none⟩)), (8, none, .int .i64 ((x.1 : Int) - 1))])
      (fun x X => x.1 ≤ e.needs.length ∧ Below W.heap.size W X ∧ g7 < X.heap.size ∧ Blk X g7 31 (evV e x.2) ∧ OwnS X 3 1 x.2 (e.needs.length - x.1) ((revI n (e.needs.drop x.1)).map (Value.int .i64)) ∧ ∀ g, x.2.ownBlock = some g → W.heap.size < g) (fun x => x.1) (e.needs.length, .slice none 0 0) [0, 1, 5, 6, 7, 8]
      ⟨Nat.le_refl _, hb8, hB8.lt, hB8, by rw [Nat.sub_self, List.drop_length]; exact OwnS.nil _ _ _, fun g hg => by simp [Value.ownBlock] at hg⟩ rfl ?_
    rintro ⟨j, rv⟩ X ⟨hj, hbX, hgX, hBX, hO, hro⟩
    dsimp only at hj hBX hO hro
    refine CW.seq (CW.seq (CW.region ?_))
    refine TW.move rfl rfl rfl ct ?_
    refine TW.geq rfl rfl rfl ct rfl ct ?_
    refine TW.nil (KW.pick [0, 1, 5, 6, 7, 8, 28] [(0, _, _), (1, _, _), (5, _, _), (6, _, _), (7, _, _), (8, _, _), (28, _, _)] rfl (KW.then_ ?_))
    refine CW.condP rfl (fun hjp => ?_) (fun hjn => ?_)
    · have hj0 : 0 < j := by simp at hjp; omega
      obtain ⟨y, hy, hym⟩ := getx (l := e.needs) (k := j - 1) (by omega)
      have hky := hke y hym
      obtain ⟨nd, rfl⟩ := hok.nd.addr (by omega)
      have hj1 : ((j - 1 : Nat) : Int) = (j : Int) - 1 := by omega
      have hyc : ∀ {X : World}, Below W.heap.size W X → X.cell? (nd.add (((j : Int) - 1).toNat * 1)) = some (.int .i64 y) := fun hb => by
        have := (hok.nd.below hb).getI hy
        rw [hj1] at this
        exact this
      have hno : ∀ k, rv.ownBlock = some k → k < X.heap.size := fun k hk => hO.lt hk
      have hWX := hbX.size
      have hlowB : ∀ {k : Nat}, k ≤ W.heap.size → rv.ownBlock ≠ some k := fun hk e => by have := hro _ e; omega
      have hlt1 : ∀ {cd : Addr} {u : Value}, W.cell? cd = some u → rv.ownBlock ≠ some cd.block := fun hc => hlowB (Nat.le_of_lt (block_lt_of_cell hc))
      have hl3 := hcells 3 _ rfl
      have hyc0 := hyc (Below.refl _ _)
      have hyI : I64 ((n : Int) - 1 - y) := ⟨by omega, by omega⟩
      have hn7 : rv.ownBlock ≠ some g7 := hlowB (by omega)
      refine CW.skip (KW.then_ (CW.seq (CW.block ?_)))
      refine CW.drawR mixed fun X9 hX9 => ?_
      refine RW.drawRow rv.ownBlock 45 15 (by kernel_rfl) (by kernel_rfl) rfl rfl hX9 ?_
      refine DR.fieldAddr rfl rfl fo31_3 rfl ct ?_
      refine DR.load rfl rfl one29 rfl ct (fun _ => ⟨hBX.fld rfl, hn7⟩) ?_
      refine DR.move rfl rfl rfl ct ?_
      refine DR.sub rfl rfl rfl ct rfl ct (fun _ => by (try dsimp only); omega) ?_
      refine DR.move rfl rfl rfl ct ?_
      refine DR.move rfl rfl rfl ct ?_
      refine DR.indexAddr rfl rfl Tryd.underlying26 sz31 rfl ct rfl ct (fun _ => by (try dsimp only); omega) ?_
      refine DR.fieldAddr rfl rfl fo31_3 rfl ct ?_
      refine DR.load rfl rfl one29 rfl ct (fun _ => ⟨hcl hbX 3 _ rfl, hlt1 hl3⟩) ?_
      refine DR.move rfl rfl rfl ct ?_
      refine DR.indexAddr rfl rfl Tryd.underlying29 sz3 rfl ct rfl ct (fun _ => by (try dsimp only); omega) ?_
      refine DR.load rfl rfl one3 rfl ct (fun _ => ⟨hyc hbX, hlt1 hyc0⟩) ?_
      refine DR.sub rfl rfl rfl ct rfl ct (fun _ => by (try dsimp only); omega) ?_
      refine DR.buildSlice 3 _ hno rfl rfl rfl eo29 (DArgs.cons rfl ct DArgs.nil) rfl rfl rfl rfl rfl ?_
      refine DR.append [.int .i64 ((n : Int) - 1 - y)] rfl rfl rfl go29 rfl hO rfl rfl rfl (fun u hu => by simp at hu; subst hu; rfl) (by omega) (by omega) ?_
      refine DR.nil (DR.finX [0, 1, 5, 6, 7, 8] [(0, _, _), (1, _, _), (5, _, _), (6, _, _), (7, _, _), (8, _, _)] rfl [45] rfl fun vs w9 hg9 hs9 => KW.rk' ?_)
      obtain ⟨v45, rfl, h45⟩ := Sats.one hs9
      have h45 : AppE X rv.ownBlock 3 1 (e.needs.length - j + 1) ((revI n (e.needs.drop j)).map (Value.int .i64) ++ [.int .i64 ((n : Int) - 1 - y)]) v45 w9 := h45
      obtain ⟨Q1, qc1, hv45, _⟩ := h45.1.form
      subst hv45
      have hB9 := GB.blk hg9 hBX hn7
      refine RW.one (by kernel_rfl) (by kernel_rfl) rfl ?_
      refine TW.fieldAddr rfl rfl fo31_3 rfl ct ?_
      refine TW.nil (KW.pick [0, 1, 5, 6, 7, 8, 45, 46] [(0, _, _), (1, _, _), (5, _, _), (6, _, _), (7, _, _), (8, _, _), (45, _, _), (46, _, _)] rfl (KW.rk ?_))
      refine RW.one (by kernel_rfl) (by kernel_rfl) rfl ?_
      refine TW.storeFld rfl sz29 rfl rfl hB9 (by show 3 < 4; decide) rfl ?_
      rintro w10 hB10 hbut10 hsz10
      refine TW.nil (KW.pick [0, 1, 5, 6, 7, 8] [(0, _, _), (1, _, _), (5, _, _), (6, _, _), (7, _, _), (8, _, _)] rfl (KW.rk ?_))
      refine RW.end rfl (KW.pick [0, 1, 5, 6, 7, 8] [(0, _, _), (1, _, _), (5, _, _), (6, _, _), (7, _, _), (8, _, _)] rfl (KW.blockN (KW.then_ ?_)))
      refine CW.region ?_
      refine TW.move rfl rfl rfl ct ?_
      refine TW.sub rfl rfl rfl ct rfl ct (fun _ => by (try dsimp only); omega) ?_
      refine TW.assign rfl rfl rfl ct ?_
      refine TW.nil (KW.pick [0, 1, 5, 6, 7, 8] [(0, _, _), (1, _, _), (5, _, _), (6, _, _), (7, _, _), (8, _, _)] rfl ?_)
      have hb9 : Below W.heap.size W w9 := hbX.grown hg9 hbX.size (fun k hk => by have := hro k hk; omega)
      have hb10 : Below W.heap.size W w10 := hb9.grown hbut10 hb9.size (fun k hk => by cases hk; omega)
      have hd9 : ∀ g, (Value.slice Q1 (e.needs.length - j + 1) qc1).ownBlock = some g → W.heap.size < g := fun g hg => by
        rcases h45.2 with h | ⟨g', h, hl⟩
        · exact hro g (by rw [← h]; exact hg)
        · rw [h] at hg; cases hg; omega
      have hrow : (revI n (e.needs.drop (j - 1))).map (Value.int .i64) = (revI n (e.needs.drop j)).map (Value.int .i64) ++ [.int .i64 ((n : Int) - 1 - y)] := by
        obtain ⟨h3, h4⟩ := List.getElem?_eq_some_iff.1 hy
        rw [List.drop_eq_getElem_cons h3, h4, show j - 1 + 1 = j by omega]
        simp [revI]
      refine KW.round (j - 1, .slice Q1 (e.needs.length - j + 1) qc1) [0, 1, 5, 6, 7, 8] ?_ ⟨by show j - 1 ≤ e.needs.length; omega, hb10, hB10.lt, hB10, ?_, hd9⟩ (by show j - 1 < j; omega)
      · show _ = some [(0, none, _), (1, none, _), (5, none, _), (6, none, _), (7, none, _), (8, none, Value.int .i64 (((j - 1 : Nat) : Int) - 1))]
        rw [hj1]
        rfl
      · show OwnS w10 _ 1 (.slice Q1 (e.needs.length - j + 1) qc1) (e.needs.length - (j - 1)) ((revI n (e.needs.drop (j - 1))).map (Value.int .i64))
        rw [hrow, show e.needs.length - (j - 1) = e.needs.length - j + 1 by omega]
        exact h45.1.kept fun g hg => hbut10.block g (h45.1.lt hg) (fun e2 => by have := hd9 g hg; cases e2; omega)
    · have hj0 : j = 0 := by simp at hjn; omega
      subst hj0
      rw [List.drop_zero, Nat.sub_zero] at hO
      refine CW.exit (KW.thenX (KW.thenX (KW.blockX (KW.then_ (CW.region ?_)))))
      refine TW.move rfl rfl rfl ct ?_
      refine TW.loadS _ rfl rfl Tryd.underlying31 sz31 rfl ct (fun _ => (fun _ _ hv => hBX.fld hv)) rfl ?_
      have hRX := hR.step hbX
      refine TW.buildSlice 31 _ rfl rfl rfl eo26 (Args.cons rfl ct Args.nil) rfl rfl rfl rfl rfl ?_
      rintro g11 w11 f11
      have hbX11 := hbX.step f11.below
      have hO11 := hO.below f11.below
      have hR11 := hRX.step f11.below
      have hrlen : (revI n e.needs).length = e.needs.length := by simp [revI]
      rw [← hrlen] at hO11
      have hrn : SL intT (RowF w11 ov) w11 rv (revI n e.needs) := OwnS.toInts hO11 (fun x hx => by
        have := hke _ (mem_revI.1 hx)
        exact ⟨by omega, by omega⟩) (fun g hg => ⟨hO11.lt hg, fun e2 => by
        have h1 := hro g hg
        have h2 := hR.1.lt e2
        omega⟩) (by omega)
      obtain ⟨R1, rc1, rfl, _⟩ := hrn.form
      refine TW.append (evV (revEv n e) (.slice R1 (revI n e.needs).length rc1)) rfl rfl go26 rfl hR11.1 rfl rfl (fun j u hj => ⟨_, rfl, f11.blk.fld hj⟩) (fun u hu => by simp [evV] at hu; rcases hu with rfl | rfl | rfl | rfl <;> rfl) (by omega) (by omega) ?_
      rintro ov' w12 hO12 hg12 hn12
      refine TW.assign rfl rfl rfl ct ?_
      refine TW.nil (KW.pick [0, 1, 5, 6, 7, 8] [(0, _, _), (1, _, _), (5, _, _), (6, _, _), (7, _, _), (8, _, _)] rfl (KW.blockN (KW.then_ ?_)))
      refine CW.region ?_
      refine TW.move rfl rfl rfl ct ?_
      refine TW.add rfl rfl rfl ct rfl ct (fun _ => by (try dsimp only); omega) ?_
      refine TW.assign rfl rfl rfl ct ?_
      refine TW.nil (KW.pick [0, 1, 5, 6, 7, 8] [(0, _, _), (1, _, _), (5, _, _), (6, _, _), (7, _, _), (8, _, _)] rfl ?_)
      have hBw11 := hB.step hbX11
      have hR12 : RowL evT w12 31 w.heap.size ov' (ps ++ [(evV (revEv n e) (.slice R1 (revI n e.needs).length rc1), revEv n e)]) := hR11.app hO12 hg12 hn12 ⟨_, rfl, hok.i1, hok.i2, hok.i3, hrn⟩ hBw11.size
      refine KW.round (i + 1, ov', ps ++ [(evV (revEv n e) (.slice R1 (revI n e.needs).length rc1), revEv n e)]) [0, 1, 5, 6] rfl ⟨by show i + 1 ≤ l.length; omega, hBw11.grown hg12 hBw11.size hR.2.2, hR12, ?_⟩ (by show l.length - (i + 1) < l.length - i; omega)
      show List.map Prod.snd (ps ++ [_]) = (l.take (i + 1)).map (revEv n)
      rw [List.map_append, hmap, List.take_add_one, he]
      simp
  · have hie : i = l.length := by omega
    subst hie
    rw [List.take_length] at hmap
    have hs := hR.sl (by decide)
    rw [hmap] at hs
    have hnl : ∀ f ∈ l.map (revEv n), f.needs.length ≤ 1000 := fun f hf => by
      obtain ⟨e, he, rfl⟩ := List.mem_map.1 hf
      have := (hk e he).2
      simpa [revEv, revI] using this
    rw [show ps.length = (l.map (revEv n)).length by rw [← hmap, List.length_map]] at *
    refine CW.exit (KW.thenX (KW.thenX (KW.blockX (KW.then_ (CW.seq (CW.region ?_))))))
    refine TW.move rfl rfl rfl ct ?_
    refine TW.call0 (cap := []) rfl rfl en23 rfl (Args.cons rfl ct Args.nil) (rsorted_c hs (by simp; omega) (fun f hf => Nat.le_trans (hnl f hf) (by omega))) ?_
    rintro y w2 ⟨hb2, qs2, hE2, hcan, hfr2⟩
    refine TW.assign rfl rfl rfl ct ?_
    refine TW.nil (KW.pick [0, 1, 4, 5, 6] [(0, _, _), (1, _, _), (4, _, _), (5, _, _), (6, _, _)] rfl (KW.then_ ?_))
    refine CW.ret ?_
    have hcl : (canon (l.map (revEv n))).length ≤ 1000 := by
      have := canon_len_le (l.map (revEv n))
      rw [List.length_map] at this
      omega
    have hs2 := EvRow.sl hE2 (by rw [← List.length_map (f := Prod.fst), hcan]; omega)
    rw [hcan] at hs2
    refine ret1 Tryd.results14 rfl (⟨hB.step hb2, hs2⟩)
end Go.Proofs.YthjcgmjcpmodlaaDoor

namespace Go.Proofs.YthjcgmjcpmodlaaDoor
open Go.PF Go.RowKit Go.Ord Go.Sort Go.Proofs

theorem OwnS.most {w : World} {e : TypeId} {sz n : Nat} {v : Value} {xs : List Value} (h : OwnS w e sz v n xs) : n ≤ 9223372036854775807 := by
  have hm : maxLen = 9223372036854775807 := rfl
  rcases h.2 with ⟨_, h⟩ | ⟨g, cap, cur, _, _, _, h1, h2, _⟩ <;> omega
theorem evs_len (l : List Sc) (r : List Rc) (lab : ByteArray) : (evsOf l r lab).length ≤ 14 := by unfold evsOf; rw [List.length_take]; omega
theorem mem_evs {l : List Sc} {r : List Rc} {lab : ByteArray} {e : Ev} (h : e ∈ evsOf l r lab) : Fol l r lab e := mem_folL.1 (mem_canon.1 (List.mem_of_mem_take h))
theorem evs_needs {l : List Sc} {r : List Rc} {lab : ByteArray} {n : Nat} (hn : 4 ≤ n) : ∀ e ∈ evsOf l r lab, e.needs.length ≤ n := fun e he => Nat.le_trans (mem_evs he).len.2 hn
theorem evs_srt (l : List Sc) (r : List Rc) (lab : ByteArray) : SrtE (evsOf l r lab) := List.Pairwise.sublist (List.take_sublist _ _) (srt_canon _)
theorem evs_all {l : List Sc} {r : List Rc} {lab : ByteArray} (h : (evsOf l r lab).length < 14) : evsOf l r lab = canon (folL l r lab) := by
  unfold evsOf at h ⊢
  rw [List.length_take] at h
  exact List.take_of_length_le (by omega)

end Go.Proofs.YthjcgmjcpmodlaaDoor
