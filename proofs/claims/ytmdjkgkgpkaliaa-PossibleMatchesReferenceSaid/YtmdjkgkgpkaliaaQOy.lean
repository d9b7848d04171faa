/- Texts joined: RowB Lit De Df. -/
import Derived.Test.YtmdjkgkgpkaliaaQSpr
import Derived.Test.YtmdjkgkgpkaliaaQOc
import Derived.Test.YtmdjkgkgpkaliaaQOx
import Derived.Test.YtmdjkgkgpkaliaaQOh
import Derived.Test.YtmdjkgkgpkaliaaQOe
import Derived.Test.YtmdjkgkgpkaliaaQOb
set_option linter.unusedSimpArgs false
set_option linter.unusedVariables false

/- Owned rows whose elements lie in blocks made by the call. -/
namespace Go.PF
open Go.RowKit
variable {α : Type}

def RowB (T : Ty α) (w : World) (e : TypeId) (b : Nat) (v : Value) (ps : List (List Value × α)) : Prop := OwnS w e T.n v ps.length (ps.flatMap (·.1)) ∧ (∀ p ∈ ps, T.rep (fun k => b ≤ k ∧ RowF w v k) w p.1 p.2) ∧ ∀ g, v.ownBlock = some g → b ≤ g
theorem RowB.nil (T : Ty α) (w : World) (e : TypeId) (b : Nat) : RowB T w e b (.slice none 0 0) [] := ⟨OwnS.nil _ _ _, (fun p hp => by cases hp), fun g h => by simp [Value.ownBlock] at h⟩
theorem RowB.new {T : Ty α} {w : World} {e : TypeId} {b g : Nat} (hB : Blk w g e []) (hg : b ≤ g) : RowB T w e b (.slice (some ⟨g, 0, none⟩) 0 0) [] :=
  ⟨OwnS.of_blk hB (by simp) (by simp), (fun p hp => by cases hp), fun q h => by simp [Value.ownBlock] at h; omega⟩
theorem RowB.l {T : Ty α} {w : World} {e : TypeId} {b : Nat} {v : Value} {ps : List (List Value × α)} (h : RowB T w e b v ps) : RowL T w e b v ps := ⟨h.1, fun p hp => T.wider _ _ _ _ _ (fun _ hk => hk.2) (h.2.1 p hp), h.2.2⟩
theorem RowB.sl {T : Ty α} (h0 : 0 < T.n) {w : World} {e : TypeId} {b : Nat} {v : Value} {ps : List (List Value × α)} (h : RowB T w e b v ps) : SL T (fun k => b ≤ k ∧ k < w.heap.size) w v (ps.map (·.2)) :=
  OwnS.toSLp ps (fun p hp => T.wider _ _ _ _ _ (fun _ hk => ⟨hk.1, hk.2.1⟩) (h.2.1 p hp)) h0 h.1 rfl (fun g hg => ⟨h.2.2 g hg, h.1.lt hg⟩) h.l.big
theorem RowB.step {T : Ty α} {w w' : World} {e : TypeId} {b : Nat} {v : Value} {ps : List (List Value × α)} (h : RowB T w e b v ps) (hb : Below w.heap.size w w') : RowB T w' e b v ps :=
  ⟨h.1.below hb, fun p hp => T.wider _ _ _ _ _ (fun k hk => ⟨hk.1, Nat.lt_of_lt_of_le hk.2.1 hb.size, hk.2.2⟩) (T.mono _ _ _ _ _ (Kept.of_below hb) (h.2.1 p hp)), h.2.2⟩
theorem RowB.app {T : Ty α} {w w' : World} {e : TypeId} {b : Nat} {v v' : Value} {ps : List (List Value × α)} {cs : List Value} {x : α} (h : RowB T w e b v ps) (hO : OwnS w' e T.n v' (ps.length + 1) (ps.flatMap (·.1) ++ cs)) (hg : w.grownBy w' v.ownBlock) (hn : v'.ownBlock = v.ownBlock ∨ v'.ownBlock = some w.heap.size)
    (hr : T.rep (fun k => b ≤ k ∧ RowF w v k) w cs x) (hb : b ≤ w.heap.size) : RowB T w' e b v' (ps ++ [(cs, x)]) := by
  have hk : Kept (fun k => b ≤ k ∧ RowF w v k) w w' := Kept.of_blocks fun k hk hlt => hg.block k hlt (fun e => hk.2.2 e.symm)
  have hw : ∀ k, (b ≤ k ∧ RowF w v k) → b ≤ k ∧ RowF w' v' k := fun k hk => ⟨hk.1, Nat.lt_of_lt_of_le hk.2.1 hg.size, fun e => by
    rcases hn with h' | h'
    · exact hk.2.2 (by rw [← h']; exact e)
    · rw [h'] at e; cases e; exact absurd hk.2.1 (Nat.lt_irrefl _)⟩
  refine ⟨by rw [List.flatMap_append, List.length_append]; simpa using hO, fun p hp => ?_, fun q hq => ?_⟩
  · rcases List.mem_append.1 hp with hp | hp
    · exact T.wider _ _ _ _ _ hw (T.mono _ _ _ _ _ hk (h.2.1 p hp))
    · rw [List.mem_singleton] at hp
      subst hp
      exact T.wider _ _ _ _ _ hw (T.mono _ _ _ _ _ hk hr)
  · rcases hn with h' | h'
    · exact h.2.2 q (by rw [← h']; exact hq)
    · rw [h'] at hq; cases hq; exact hb
end Go.PF



namespace Go.Proofs.Ytmdjkgkgpkaliaa
open Go.PF Go.RowKit Go.Ord

theorem sets_zero (l : List Int) : setsS l 0 = [[]] := by cases l <;> rfl
theorem setsAt_eq {l : List Int} {k i : Nat} {x : Int} (hx : l[i]? = some x) : setsAt l k i = (setsS (l.drop (i + 1)) k).map (x :: ·) := by
  unfold setsAt
  rw [hx]

theorem setsTo_mono (l : List Int) (k : Nat) : ∀ {n m : Nat}, n ≤ m → (setsTo l k n).length ≤ (setsTo l k m).length := by
  intro n m h
  induction h with
  | refl => exact Nat.le_refl _
  | step _ ih => rw [setsTo_succ, List.length_append]; omega
theorem setsTo_small {l : List Int} {k n : Nat} (h : l.length ≤ 14) (hk : k ≤ 7) (hn : n ≤ l.length) : (setsTo l k n).length ≤ 2562890625 := by
  have h0 := setsTo_mono l k hn
  rw [← setsS_eq] at h0
  have h1 := setsS_len l (k + 1)
  have h2 : (l.length + 1) ^ (k + 1) ≤ 15 ^ (k + 1) := Nat.pow_le_pow_left (by omega) _
  have h3 : 15 ^ (k + 1) ≤ 15 ^ 8 := Nat.pow_le_pow_right (by decide) (by omega)
  have h4 : (15 : Nat) ^ 8 = 2562890625 := by decide
  omega
set_option maxRecDepth 20000 in
set_option maxHeartbeats 1000000 in
theorem rsets_c : ∀ (k : Nat) {w : World} {F : Nat → Prop} {v : Value} {l : List Int} (_ : SL intT F w v l) (_ : l.length ≤ 14) (_ : k ≤ 7),
    Gives Try.prog 33 #[v, .int .i64 (k : Int)] w fun x w' => Below w.heap.size w w' ∧ SL (sliceT intT) (fun q => w.heap.size ≤ q ∧ q < w'.heap.size) w' x (setsS l k) := by
  intro k
  induction k with
  | zero =>
    intro w F v l hl h14 _
    refine gives_of (vs := [v, .int .i64 ((0 : Nat) : Int)]) [(0, none, _), (1, none, _)] Try.func33 rfl Try.ntmps33 rfl rfl ?_
    refine CW.seq (CW.region ?_)
    refine TW.assign rfl rfl rfl ct ?_
    refine TW.nil (KW.pick [0, 1, 4] [(0, _, _), (1, _, _), (4, _, _)] rfl (KW.then_ ?_))
    refine CW.seq (CW.seq (CW.region ?_))
    refine TW.move rfl rfl rfl ct ?_
    refine TW.eql rfl rfl rfl ct rfl ct ?_
    refine TW.nil (KW.pick [0, 1, 4, 10] [(0, _, _), (1, _, _), (4, _, _), (10, _, _)] rfl (KW.then_ ?_))
    refine CW.condP rfl (fun h0 => ?_) (fun h1 => ?_)
    · refine CW.seq (CW.region ?_)
      refine TW.buildSlice0 3 rfl rfl eo24 ?_
      rintro g1 w1 f1
      refine TW.buildSlice 24 _ rfl rfl rfl eo22 (Args.cons rfl ct Args.nil) rfl rfl rfl rfl rfl ?_
      rintro g2 w2 f2
      refine TW.assign rfl rfl rfl ct ?_
      refine TW.nil (KW.pick [0, 1, 4] [(0, _, _), (1, _, _), (4, _, _)] rfl (KW.then_ ?_))
      refine CW.ret (KW.thenR ?_)
      have ha1 := f1.at_
      have ha2 := f2.at_
      have hs1 := f1.size
      have hs2 := f2.size
      refine ret1 Try.results33 rfl (⟨f1.below.step f2.below, ?_⟩)
      rw [sets_zero]
      refine OwnS.toSLp (T := sliceT intT) (e := 24) (n := 1) [([.slice (some ⟨g1, 0, none⟩) 0 0], [])] (fun p hp => ?_) (by show 0 < 1; decide) (OwnS.of_blk f2.blk rfl (by omega)) rfl (fun q hq => by simp [Value.ownBlock] at hq; omega) (by simp)
      rw [List.mem_singleton] at hp
      subst hp
      exact ⟨_, rfl, OwnS.toInts (e := 3) (l := []) (OwnS.of_blk (f1.blk.next f2.below) rfl (by simp)) (fun x hx => by cases hx) (fun q hq => by simp [Value.ownBlock] at hq; omega) (by simp)⟩
    · exact absurd rfl h1
  | succ k ih =>
    intro w F v l hl h14 hk7
    obtain ⟨A, cap, rfl, hcap⟩ := hl.form
    have hI := hl.allI
    refine gives_of (vs := [.slice A l.length cap, .int .i64 ((k + 1 : Nat) : Int)]) [(0, none, _), (1, none, _)] Try.func33 rfl Try.ntmps33 rfl rfl ?_
    refine CW.seq (CW.region ?_)
    refine TW.assign rfl rfl rfl ct ?_
    refine TW.nil (KW.pick [0, 1, 4] [(0, _, _), (1, _, _), (4, _, _)] rfl (KW.then_ ?_))
    refine CW.seq (CW.seq (CW.region ?_))
    refine TW.move rfl rfl rfl ct ?_
    refine TW.eql rfl rfl rfl ct rfl ct ?_
    refine TW.nil (KW.pick [0, 1, 4, 10] [(0, _, _), (1, _, _), (4, _, _), (10, _, _)] rfl (KW.then_ ?_))
    refine CW.condP rfl (fun h0 => ?_) (fun h1 => ?_)
    · exfalso
      omega
    refine CW.skip (KW.then_ (CW.seq (CW.region ?_)))
    refine TW.buildSlice0 24 rfl rfl eo22 ?_
    rintro g1 w1 f1
    refine TW.assign rfl rfl rfl ct ?_
    refine TW.nil (KW.pick [0, 1, 4, 5] [(0, _, _), (1, _, _), (4, _, _), (5, _, _)] rfl (KW.then_ ?_))
    refine CW.seq (CW.seq (CW.region ?_))
    refine TW.assign rfl rfl rfl ct ?_
    refine TW.nil (KW.pick [0, 1, 4, 5, 6] [(0, _, _), (1, _, _), (4, _, _), (5, _, _), (6, _, _)] rfl (KW.then_ ?_))
    refine CW.block ?_
    have ha1 := f1.at_
    refine CW.loopS (fun x : Nat × Value × List (List Value × List Int) => [(0, none, .slice A l.length cap), (1, none, .int .i64 ((k + 1 : Nat) : Int)), (5, none, x.2.1), (6, none, .int .i64 (x.1 : Int))])
      (fun x W => x.1 ≤ l.length ∧ Below w.heap.size w W ∧ RowB (sliceT intT) W 24 w.heap.size x.2.1 x.2.2 ∧ x.2.2.map (·.2) = setsTo l k x.1) (fun x => l.length - x.1) (0, .slice (some ⟨g1, 0, none⟩) 0 0, []) [0, 1, 5, 6] ⟨Nat.zero_le _, f1.below, RowB.new f1.blk (by omega), rfl⟩ rfl ?_
    rintro ⟨i, ov, ps⟩ W ⟨hi, hB, hR, hmap⟩
    dsimp only at hi hB hR hmap
    refine CW.seq (CW.seq (CW.region ?_))
    refine TW.move rfl rfl rfl ct ?_
    refine TW.move rfl rfl rfl ct ?_
    refine TW.add rfl rfl rfl ct rfl ct (fun _ => by (try dsimp only); omega) ?_
    refine TW.move rfl rfl rfl ct ?_
    refine TW.lenSlice rfl rfl Try.underlying24 rfl ct ?_
    refine TW.leq rfl rfl rfl ct rfl ct ?_
    refine TW.nil (KW.pick [0, 1, 5, 6, 19] [(0, _, _), (1, _, _), (5, _, _), (6, _, _), (19, _, _)] rfl (KW.then_ ?_))
    refine CW.condP rfl (fun hlt => ?_) (fun hge => ?_)
    · obtain ⟨x, hx, hxm⟩ := getx (l := l) (k := i) (by omega)
      have hlW := hl.below hB
      obtain ⟨ad, rfl⟩ := hlW.addr (by omega)
      have hdr := SL.dropS hlW (i := i + 1) (by omega)
      have hsm := setsTo_small (l := l) (k := k) (n := i + 1) h14 (by omega) (by omega)
      rw [setsTo_succ, setsAt_eq hx, List.length_append, List.length_map] at hsm
      have hsW := hB.size
      refine CW.skip (KW.then_ (CW.seq (CW.block (CW.seq (CW.region ?_)))))
      refine TW.move rfl rfl rfl ct ?_
      refine TW.move rfl rfl rfl ct ?_
      refine TW.add rfl rfl rfl ct rfl ct (fun _ => by (try dsimp only); omega) ?_
      refine TW.sliceL rfl rfl Try.underlying24 sz3 rfl ct rfl ct (fun _ => by (try dsimp only); omega) ?_
      refine TW.move rfl rfl rfl ct ?_
      refine TW.sub rfl rfl rfl ct rfl ct (fun _ => by (try dsimp only); omega) ?_
      rw [show ((k + 1 : Nat) : Int) - 1 = (k : Int) by omega]
      refine TW.call0 (cap := []) rfl rfl en33 rfl (Args.cons rfl ct (Args.cons rfl ct Args.nil)) (ih hdr (by simp; omega) (by omega)) ?_
      rintro mv w2 ⟨c2, hm2⟩
      obtain ⟨M, mcap, rfl, _⟩ := hm2.form
      have hs2 := c2.size
      obtain ⟨ms, hms⟩ : ∃ ms, ms = setsS (l.drop (i + 1)) k := ⟨_, rfl⟩
      rw [← hms] at hm2 hsm
      rw [← hms]
      refine TW.assign rfl rfl rfl ct ?_
      refine TW.nil (KW.pick [0, 1, 5, 6, 7] [(0, _, _), (1, _, _), (5, _, _), (6, _, _), (7, _, _)] rfl (KW.then_ ?_))
      refine CW.seq (CW.region ?_)
      refine TW.assign rfl rfl rfl ct ?_
      refine TW.nil (KW.pick [0, 1, 5, 6, 7, 8] [(0, _, _), (1, _, _), (5, _, _), (6, _, _), (7, _, _), (8, _, _)] rfl (KW.then_ ?_))
      refine CW.block ?_
      refine CW.loopS (fun x : Nat × Value × List (List Value × List Int) => [(0, none, .slice (some ad) l.length cap), (1, none, .int .i64 ((k + 1 : Nat) : Int)), (5, none, x.2.1), (6, none, .int .i64 (i : Int)), (7, none, .slice M ms.length mcap), (8, none, .int .i64 (x.1 : Int))])
        (fun y W' => y.1 ≤ ms.length ∧ Below w.heap.size w W' ∧ w2.heap.size ≤ W'.heap.size ∧ SL (sliceT intT) (fun q => W.heap.size ≤ q ∧ q < w2.heap.size) W' (.slice M ms.length mcap) ms ∧ RowB (sliceT intT) W' 24 w.heap.size y.2.1 y.2.2 ∧ y.2.2.map (·.2) = setsTo l k i ++ (ms.take y.1).map (x :: ·) ∧ ∀ g, y.2.1.ownBlock = some g → g < W.heap.size ∨ w2.heap.size ≤ g) (fun y => ms.length - y.1) (0, ov, ps) [0, 1, 5, 6, 7, 8]
        ⟨Nat.zero_le _, hB.step c2, Nat.le_refl _, hm2, hR.step c2, by simpa using hmap, fun g hg => .inl (hR.1.lt hg)⟩ rfl ?_
      rintro ⟨j, ov, ps⟩ W3 ⟨hj, hB3, hs3, hm3, hR3, hmap3, hov3⟩
      dsimp only at hj hR3 hmap3 hov3
      have hpl : ps.length = (setsTo l k i).length + j := by
        have := congrArg List.length hmap3
        simp at this
        omega
      refine CW.seq (CW.seq (CW.region ?_))
      refine TW.move rfl rfl rfl ct ?_
      refine TW.move rfl rfl rfl ct ?_
      refine TW.lenSlice rfl rfl Try.underlying22 rfl ct ?_
      refine TW.lss rfl rfl rfl ct rfl ct ?_
      refine TW.nil (KW.pick [0, 1, 5, 6, 7, 8, 32] [(0, _, _), (1, _, _), (5, _, _), (6, _, _), (7, _, _), (8, _, _), (32, _, _)] rfl (KW.then_ ?_))
      refine CW.condP rfl (fun hlt3 => ?_) (fun hge3 => ?_)
      · obtain ⟨y, hy, hym⟩ := getx (l := ms) (k := j) (by omega)
        have hyl : y.length = k := by rw [hms] at hym; exact (mem_setsS.1 hym).2
        obtain ⟨md, rfl⟩ := hm3.addr (by omega)
        obtain ⟨yv, hcy, hry⟩ := hm3.row hy
        obtain ⟨Y, ycap, rfl, _⟩ := hry.form
        have hl3 := hl.below hB3
        have hIy := hry.allI
        obtain ⟨OA, ocap, rfl, _⟩ := hR3.1.form
        have hn1 : ∀ (j : Nat) (u : Value), (y.map (Value.int .i64))[j]? = some u → ∃ ad' : Addr, Y = some ad' ∧ W3.cell? (ad'.add j) = some u := by
          intro j u hu
          simp only [List.getElem?_map] at hu
          obtain ⟨z, hz, rfl⟩ := Option.map_eq_some_iff.1 hu
          obtain ⟨ad', h1, h2, _⟩ := hry.int hz
          exact ⟨ad', h1, by rw [Nat.mul_one] at h2; exact h2⟩
        refine CW.skip (KW.then_ (CW.seq (CW.block ?_)))
        refine CW.drawPlus [0] 11 mixed (by kernel_rfl) (fun _ _ d _ _ h => by cases d <;> exact h) fun W4 hb4 => ?_
        refine RW.draw .own 11 (by kernel_rfl) (by kernel_rfl) rfl rfl hb4 ?_
        refine DW.move rfl rfl rfl ct ?_
        refine DW.move rfl rfl rfl ct ?_
        refine DW.move rfl rfl rfl ct ?_
        refine DW.indexAddr rfl rfl Try.underlying24 sz3 rfl ct rfl ct (fun _ => by (try dsimp only); omega) ?_
        refine DW.load rfl rfl one3 rfl ct (fun _ => hl3.getI hx) ?_
        refine OW.buildSlice 3 _ rfl rfl rfl eo24 (DArgs.cons rfl ct DArgs.nil) rfl rfl rfl rfl rfl ?_
        refine DW.move rfl rfl rfl ct ?_
        refine DW.move rfl rfl rfl ct ?_
        refine DW.indexAddr rfl rfl Try.underlying22 sz24 rfl ct rfl ct (fun _ => by (try dsimp only); omega) ?_
        refine DW.load rfl rfl one24 rfl ct (fun _ => hcy) ?_
        refine OW.append (m := y.length) (A := Y) (y.map (Value.int .i64)) rfl rfl go24 rfl (by kernel_rfl) rfl ct hn1 (by simp) (ints_one _) (by omega) (by omega) ?_
        refine DW.nil (DW.finX [0, 1, 5, 6, 7, 8, 35] [(0, _, _), (1, _, _), (5, _, _), (6, _, _), (7, _, _), (8, _, _), (35, _, _)] rfl [45] rfl fun vs w5 b5 hs5 => KW.rk' ?_)
        obtain ⟨v45, rfl, h45⟩ := Sats.one hs5
        have h45' : OwnS w5 3 1 v45 (1 + y.length) ([.int .i64 x] ++ y.map (Value.int .i64)) ∧ ∀ g, v45.ownBlock = some g → W3.heap.size ≤ g := h45
        have hOx : OwnS w5 3 1 v45 (x :: y).length ((x :: y).map (Value.int .i64)) := by
          have := h45'.1
          rw [Nat.add_comm] at this
          exact this
        have hown45 := h45'.2
        obtain ⟨Z, zcap, rfl, _⟩ := hOx.form
        refine RW.one (by kernel_rfl) (by kernel_rfl) rfl ?_
        refine TW.buildSlice 24 _ rfl rfl rfl eo22 (Args.cons rfl ct Args.nil) rfl rfl rfl rfl rfl ?_
        rintro g6 w6 f6
        have hR6 := (hR3.step b5).step f6.below
        refine TW.nil (KW.pick [0, 1, 5, 6, 7, 8, 35, 46] [(0, _, _), (1, _, _), (5, _, _), (6, _, _), (7, _, _), (8, _, _), (35, _, _), (46, _, _)] rfl (KW.rk ?_))
        refine RW.one (by kernel_rfl) (by kernel_rfl) rfl ?_
        refine TW.append [.slice Z (x :: y).length zcap] rfl rfl go22 rfl hR6.1 rfl rfl (fun j v hj => ⟨⟨g6, 0, none⟩, rfl, f6.blk.fld hj⟩) (fun v hv => by simp at hv; subst hv; rfl) (by omega) (by omega) ?_
        rintro ov' w7 o7 hg7 hn7
        refine TW.nil (KW.pick [0, 1, 5, 6, 7, 8, 47] [(0, _, _), (1, _, _), (5, _, _), (6, _, _), (7, _, _), (8, _, _), (47, _, _)] rfl (KW.rk ?_))
        refine RW.one (by kernel_rfl) (by kernel_rfl) rfl ?_
        refine TW.assign rfl rfl rfl ct ?_
        refine TW.nil (KW.pick [0, 1, 5, 6, 7, 8] [(0, _, _), (1, _, _), (5, _, _), (6, _, _), (7, _, _), (8, _, _)] rfl (KW.rk ?_))
        refine RW.end rfl (KW.pick [0, 1, 5, 6, 7, 8] [(0, _, _), (1, _, _), (5, _, _), (6, _, _), (7, _, _), (8, _, _)] rfl (KW.blockN (KW.then_ ?_)))
        refine CW.region ?_
        refine TW.move rfl rfl rfl ct ?_
        refine TW.add rfl rfl rfl ct rfl ct (fun _ => by (try dsimp only); omega) ?_
        refine TW.assign rfl rfl rfl ct ?_
        refine TW.nil (KW.pick [0, 1, 5, 6, 7, 8] [(0, _, _), (1, _, _), (5, _, _), (6, _, _), (7, _, _), (8, _, _)] rfl ?_)
        have b36 := b5.step f6.below
        have hB6 := hB3.step b36
        have hs36 := b36.size
        have hO6 := hOx.below f6.below
        have hrx : (sliceT intT).rep (fun q => w.heap.size ≤ q ∧ RowF w6 (.slice OA ps.length ocap) q) w6 [.slice Z (x :: y).length zcap] (x :: y) := by
          refine ⟨_, rfl, OwnS.toInts hO6 (fun z hz => ?_) (fun g hg => ?_) (by simp; omega)⟩
          · rcases List.mem_cons.1 hz with rfl | hz
            · exact hI _ hxm
            · exact hIy z hz
          · have h1 := hown45 g hg
            have h2 := hB3.size
            exact ⟨by omega, hO6.lt hg, fun e => by have := hR3.1.lt e; omega⟩
        have hR7 : RowB (sliceT intT) w7 24 w.heap.size ov' (ps ++ [([.slice Z (x :: y).length zcap], x :: y)]) := hR6.app o7 hg7 hn7 hrx hB6.size
        refine KW.round (j + 1, ov', ps ++ [([.slice Z (x :: y).length zcap], x :: y)]) [0, 1, 5, 6, 7, 8] rfl ⟨by show j + 1 ≤ ms.length; omega, hB6.grown hg7 hB6.size hR3.2.2, by show w2.heap.size ≤ w7.heap.size; have := hg7.size; omega, ?_, hR7, ?_, fun g hg => ?_⟩ (by show ms.length - (j + 1) < ms.length - j; omega)
        · refine (hm3.below b36).mono (Kept.of_blocks fun q hq hlt => hg7.block q hlt (fun e => ?_))
          have := hov3 q e.symm
          omega
        · show List.map Prod.snd (ps ++ [_]) = setsTo l k i ++ (ms.take (j + 1)).map (x :: ·)
          rw [List.map_append, hmap3, List.take_add_one, hy]
          simp
        · rcases hn7 with h | h
          · exact hov3 g (by rw [← h]; exact hg)
          · rw [h] at hg; cases hg; exact .inr (by omega)
      · have hje : j = ms.length := by omega
        subst hje
        rw [List.take_length] at hmap3
        refine CW.exit (KW.thenX (KW.thenX (KW.blockX (KW.blockN (KW.then_ (CW.region ?_))))))
        refine TW.move rfl rfl rfl ct ?_
        refine TW.add rfl rfl rfl ct rfl ct (fun _ => by (try dsimp only); omega) ?_
        refine TW.assign rfl rfl rfl ct ?_
        refine TW.nil (KW.pick [0, 1, 5, 6, 7, 8] [(0, _, _), (1, _, _), (5, _, _), (6, _, _), (7, _, _), (8, _, _)] rfl ?_)
        refine KW.round (i + 1, ov, ps) [0, 1, 5, 6] rfl ⟨by show i + 1 ≤ l.length; omega, hB3, hR3, ?_⟩ (by show l.length - (i + 1) < l.length - i; omega)
        show ps.map (·.2) = setsTo l k (i + 1)
        rw [setsTo_succ, setsAt_eq hx, ← hms]
        exact hmap3
    · have hie : i + (k + 1) > l.length := by omega
      refine CW.exit (KW.thenX (KW.thenX (KW.blockX (KW.then_ (CW.seq (CW.region ?_))))))
      refine TW.move rfl rfl rfl ct ?_
      refine TW.assign rfl rfl rfl ct ?_
      refine TW.nil (KW.pick [0, 1, 4, 5, 6] [(0, _, _), (1, _, _), (4, _, _), (5, _, _), (6, _, _)] rfl (KW.then_ ?_))
      refine CW.ret ?_
      refine ret1 Try.results33 rfl (⟨hB, ?_⟩)
      have h1 := hR.sl (by show 0 < 1; decide)
      rw [hmap] at h1
      have h2 : setsTo l k i = setsS l (k + 1) := by
        rw [setsS_eq]
        have := setsTo_enough (l := l) (k := k) i (l.length - i) (by omega)
        rw [show i + (l.length - i) = l.length by omega] at this
        exact this.symm
      rw [h2] at h1
      exact h1
end Go.Proofs.Ytmdjkgkgpkaliaa

namespace Go.Proofs.Ytmdjkgkgpkaliaa
open Go.PF Go.RowKit Go.Ord

theorem rposs_c {w : World} {dv lv : Value} {d : Dist} {l : List Ev} (hd : SD w dv d) (hl : SE w lv l) : Gives Try.prog 34 #[dv, lv] w fun x w' => Below w.heap.size w w' ∧ x = .bool (dec (Fitted d l)) := by
  refine gives_of (vs := [dv, lv]) [(0, none, _), (1, none, _)] Try.func34 rfl Try.ntmps34 rfl rfl ?_
  refine CW.seq (CW.region ?_)
  refine TW.assign rfl rfl rfl ct ?_
  refine TW.nil (KW.pick [0, 1, 4] [(0, _, _), (1, _, _), (4, _, _)] rfl (KW.then_ ?_))
  refine CW.seq (CW.region ?_)
  refine TW.move rfl rfl rfl ct ?_
  refine TW.move rfl rfl rfl ct ?_
  refine TW.call0 (cap := []) rfl rfl en59 rfl (Args.cons rfl ct (Args.cons rfl ct (Args.cons rfl ct Args.nil))) (rfit_c hd hl) ?_
  rintro y w1 ⟨c1, tv, rfl⟩
  refine TW.move rfl rfl rfl ct ?_
  refine TW.extract rfl rfl rfl rfl ct ?_
  refine TW.extract rfl rfl rfl rfl ct ?_
  refine TW.assign rfl rfl rfl ct ?_
  refine TW.assign rfl rfl rfl ct ?_
  refine TW.nil (KW.pick [0, 1, 4, 6] [(0, _, _), (1, _, _), (4, _, _), (6, _, _)] rfl (KW.then_ ?_))
  refine CW.seq (CW.region ?_)
  refine TW.move rfl rfl rfl ct ?_
  refine TW.assign rfl rfl rfl ct ?_
  refine TW.nil (KW.pick [0, 1, 4, 6] [(0, _, _), (1, _, _), (4, _, _), (6, _, _)] rfl (KW.then_ ?_))
  refine CW.ret ?_
  refine ret1 Try.results34 rfl (⟨c1, rfl⟩)

set_option maxRecDepth 20000 in
set_option maxHeartbeats 1000000 in
theorem rworlds_c {w : World} {dv lv : Value} {d : Dist} {l : List Ev} {most : Int} (hd : SD w dv d) (hl : SE w lv l) (hne : ∀ e ∈ l, e.needs.length ≤ 1000) :
    Gives Try.prog 13 #[dv, lv, .int .i64 most] w fun x w' => Below w.heap.size w w' ∧ ∃ v, x = .tuple #[v, .int .i64 (worldsE d l most)] ∧ SL (sliceT intT) (fun k => k < w'.heap.size) w' v (worldsS d l most) := by
  refine gives_of (vs := [dv, lv, .int .i64 most]) [(0, none, _), (1, none, _), (2, none, _)] Try.func13 rfl Try.ntmps13 rfl rfl ?_
  refine CW.seq (CW.region ?_)
  refine TW.assign rfl rfl rfl ct ?_
  refine TW.assign rfl rfl rfl ct ?_
  refine TW.nil (KW.pick [0, 1, 2, 6, 7] [(0, _, _), (1, _, _), (2, _, _), (6, _, _), (7, _, _)] rfl (KW.then_ ?_))
  refine CW.seq (CW.seq (CW.region ?_))
  refine TW.move rfl rfl rfl ct ?_
  refine TW.move rfl rfl rfl ct ?_
  refine TW.call0 (cap := []) rfl rfl en25 rfl (Args.cons rfl ct (Args.cons rfl ct Args.nil)) (rvalid28_c hd hl) ?_
  rintro y w1 ⟨c1, rfl⟩
  refine TW.not rfl rfl rfl ct ?_
  refine TW.move rfl rfl rfl ct ?_
  refine TW.move rfl rfl rfl ct ?_
  refine TW.lss rfl rfl rfl id rfl ct ?_
  refine TW.pickOr rfl rfl rfl ct rfl pOr0 ?_
  refine TW.move rfl rfl rfl ct ?_
  refine TW.move rfl rfl rfl ct ?_
  refine TW.gtr rfl rfl rfl id rfl ct ?_
  refine TW.pickOr rfl rfl rfl ct rfl pOr0 ?_
  refine TW.nil (KW.pick [0, 1, 2, 6, 7, 23] [(0, _, _), (1, _, _), (2, _, _), (6, _, _), (7, _, _), (23, _, _)] rfl (KW.then_ ?_))
  refine CW.cond rfl (fun hbad => ?_) (fun hgood => ?_)
  · have hno : ¬ (dec (WfP d l) = true ∧ 0 ≤ most ∧ most ≤ 3) := by
      rintro ⟨h1, h2, h3⟩
      rw [h1] at hbad
      simp at hbad
      omega
    refine CW.seq (CW.region ?_)
    refine TW.assign rfl rfl rfl ct ?_
    refine TW.assign rfl rfl rfl ct ?_
    refine TW.nil (KW.pick [0, 1, 2, 6, 7] [(0, _, _), (1, _, _), (2, _, _), (6, _, _), (7, _, _)] rfl (KW.then_ ?_))
    refine CW.ret (KW.thenR ?_)
    refine ret2 Try.results13 rfl rfl (⟨c1, .slice none 0 0, ?_, ?_⟩)
    · unfold worldsE
      rw [if_neg hno]
    · unfold worldsS
      rw [if_neg (fun h => hno ⟨h.1, h.2.1, h.2.2.1⟩)]
      exact SL.nil _ _ _
  have hok : dec (WfP d l) = true ∧ 0 ≤ most ∧ most ≤ 3 := by
    cases hq : dec (WfP d l) <;> simp [hq] at hgood
    exact ⟨rfl, by omega, by omega⟩
  have hwf : WfP d l := dec_iff.1 hok.1
  obtain ⟨_, hm0, hm3⟩ := hok
  have hl14 := hwf.few
  have hd1 := sd_step hd c1
  have hl1 := se_step hl c1
  refine CW.skip (KW.then_ (CW.seq (CW.region ?_)))
  refine TW.move rfl rfl rfl ct ?_
  refine TW.call0 (cap := []) rfl rfl en19 rfl (Args.cons rfl ct Args.nil) (rrecords_c hl1 (by omega) hne) ?_
  rintro rv w2 ⟨c2, hrv⟩
  obtain ⟨R, rcap, rfl, _⟩ := hrv.form
  have b2 := c1.step c2
  refine TW.assign rfl rfl rfl ct ?_
  refine TW.nil (KW.pick [0, 1, 2, 6, 7, 8] [(0, _, _), (1, _, _), (2, _, _), (6, _, _), (7, _, _), (8, _, _)] rfl (KW.then_ ?_))
  refine CW.seq (CW.seq (CW.region ?_))
  refine TW.move rfl rfl rfl ct ?_
  refine TW.lenSlice rfl rfl Try.underlying24 rfl ct ?_
  refine TW.gtr rfl rfl rfl ct rfl ct ?_
  refine TW.nil (KW.pick [0, 1, 2, 6, 7, 8, 28] [(0, _, _), (1, _, _), (2, _, _), (6, _, _), (7, _, _), (8, _, _), (28, _, _)] rfl (KW.then_ ?_))
  refine CW.condP rfl (fun hlim => ?_) (fun hfew => ?_)
  · refine CW.seq (CW.region ?_)
    refine TW.assign rfl rfl rfl ct ?_
    refine TW.assign rfl rfl rfl ct ?_
    refine TW.nil (KW.pick [0, 1, 2, 6, 7, 8] [(0, _, _), (1, _, _), (2, _, _), (6, _, _), (7, _, _), (8, _, _)] rfl (KW.then_ ?_))
    refine CW.ret (KW.thenR ?_)
    refine ret2 Try.results13 rfl rfl (⟨b2, .slice none 0 0, ?_, ?_⟩)
    · unfold worldsE
      rw [if_pos ⟨dec_pos hwf, hm0, hm3⟩, if_neg (by omega)]
    · unfold worldsS
      rw [if_neg (fun h => by have := h.2.2.2; omega)]
      exact SL.nil _ _ _
  have h14 : (recsS l).length ≤ 14 := by omega
  obtain ⟨sz, hsz⟩ : ∃ sz : Nat, sz = min most.toNat (recsS l).length := ⟨_, rfl⟩
  have hW : worldsS d l most = (setsS (recsS l) sz).filter (fun S => dec (Poss d (restS l S))) := by
    unfold worldsS
    rw [if_pos ⟨dec_pos hwf, hm0, hm3, h14⟩, hsz]
  have hE : worldsE d l most = if worldsS d l most = [] then 280 else 0 := by
    unfold worldsE
    rw [if_pos ⟨dec_pos hwf, hm0, hm3⟩, if_pos h14]
  refine CW.skip (KW.then_ (CW.seq (CW.region ?_)))
  refine TW.move rfl rfl rfl ct ?_
  refine TW.move rfl rfl rfl ct ?_
  refine TW.move rfl rfl rfl ct ?_
  refine TW.lenSlice rfl rfl Try.underlying24 rfl ct ?_
  refine TW.minI rfl rfl rfl ct rfl ct ?_
  rw [show min most ((recsS l).length : Int) = (sz : Int) by omega]
  refine TW.call0 (cap := []) rfl rfl en33 rfl (Args.cons rfl ct (Args.cons rfl ct Args.nil)) (rsets_c sz hrv h14 (by omega)) ?_
  rintro sv w3 ⟨c3, hs3⟩
  obtain ⟨ss, hss⟩ : ∃ ss, ss = setsS (recsS l) sz := ⟨_, rfl⟩
  have hsmall : ss.length ≤ 2562890625 := by
    have h1 := setsS_len (recsS l) sz
    have h2 : ((recsS l).length + 1) ^ sz ≤ 15 ^ sz := Nat.pow_le_pow_left (by omega) _
    have h3 : 15 ^ sz ≤ 15 ^ 8 := Nat.pow_le_pow_right (by decide) (by omega)
    have h4 : (15 : Nat) ^ 8 = 2562890625 := by decide
    rw [← hss] at h1
    omega
  rw [← hss] at hs3 hW
  obtain ⟨SA, scap, rfl, _⟩ := hs3.form
  have b3 := b2.step c3
  refine TW.assign rfl rfl rfl ct ?_
  refine TW.nil (KW.pick [0, 1, 2, 6, 7, 8, 9] [(0, _, _), (1, _, _), (2, _, _), (6, _, _), (7, _, _), (8, _, _), (9, _, _)] rfl (KW.then_ ?_))
  refine CW.seq (CW.region ?_)
  refine TW.buildSlice0 24 rfl rfl eo22 ?_
  rintro g4 w4 f4
  have hg4 := f4.at_
  refine TW.assign rfl rfl rfl ct ?_
  refine TW.nil (KW.pick [0, 1, 2, 6, 7, 8, 9, 10] [(0, _, _), (1, _, _), (2, _, _), (6, _, _), (7, _, _), (8, _, _), (9, _, _), (10, _, _)] rfl (KW.then_ ?_))
  refine CW.seq (CW.seq (CW.region ?_))
  refine TW.assign rfl rfl rfl ct ?_
  refine TW.nil (KW.pick [0, 1, 2, 6, 7, 8, 9, 10, 11] [(0, _, _), (1, _, _), (2, _, _), (6, _, _), (7, _, _), (8, _, _), (9, _, _), (10, _, _), (11, _, _)] rfl (KW.then_ ?_))
  refine CW.block ?_
  have hd3 := sd_step (sd_step hd1 c2) c3
  have hl3 := se_step (se_step hl1 c2) c3
  refine CW.loopS (fun x : Nat × Value × List (List Value × List Int) => [(0, none, dv), (1, none, lv), (9, none, .slice SA ss.length scap), (10, none, x.2.1), (11, none, .int .i64 (x.1 : Int))])
    (fun x W => x.1 ≤ ss.length ∧ Below w3.heap.size w3 W ∧ RowL (sliceT intT) W 24 w3.heap.size x.2.1 x.2.2 ∧ x.2.2.map (·.2) = (ss.take x.1).filter (fun S => dec (Poss d (restS l S)))) (fun x => ss.length - x.1) (0, .slice (some ⟨g4, 0, none⟩) 0 0, []) [0, 1, 9, 10, 11] ⟨Nat.zero_le _, f4.below, (RowB.new f4.blk (by omega)).l, rfl⟩ rfl ?_
  rintro ⟨i, ov, ps⟩ W ⟨hi, hB, hR, hmap⟩
  dsimp only at hi hR hmap
  have hpl : ps.length ≤ ss.length := by
    have h1 := congrArg List.length hmap
    rw [List.length_map] at h1
    have h2 := List.length_filter_le (fun S => dec (Poss d (restS l S))) (ss.take i)
    have h3 : (ss.take i).length ≤ ss.length := by rw [List.length_take]; omega
    omega
  refine CW.seq (CW.seq (CW.region ?_))
  refine TW.move rfl rfl rfl ct ?_
  refine TW.move rfl rfl rfl ct ?_
  refine TW.lenSlice rfl rfl Try.underlying22 rfl ct ?_
  refine TW.lss rfl rfl rfl ct rfl ct ?_
  refine TW.nil (KW.pick [0, 1, 9, 10, 11, 39] [(0, _, _), (1, _, _), (9, _, _), (10, _, _), (11, _, _), (39, _, _)] rfl (KW.then_ ?_))
  refine CW.condP rfl (fun hlt => ?_) (fun hge => ?_)
  · obtain ⟨S, hS, hSm⟩ := getx (l := ss) (k := i) (by omega)
    have hsW := hs3.below hB
    obtain ⟨sd, rfl⟩ := hsW.addr (by omega)
    obtain ⟨Sv, hcS, hrS⟩ := hsW.row hS
    have htk : (ss.take (i + 1)).filter (fun S => dec (Poss d (restS l S))) = (ss.take i).filter (fun S => dec (Poss d (restS l S))) ++ if dec (Poss d (restS l S)) then [S] else [] := by
      rw [List.take_add_one, hS, List.filter_append]
      cases hq : dec (Poss d (restS l S)) <;> simp [List.filter, hq]
    have hlW := se_step hl3 hB
    have hdW := sd_step hd3 hB
    refine CW.skip (KW.then_ (CW.seq (CW.block (CW.seq (CW.region ?_)))))
    refine TW.move rfl rfl rfl ct ?_
    refine TW.move rfl rfl rfl ct ?_
    refine TW.move rfl rfl rfl ct ?_
    refine TW.move rfl rfl rfl ct ?_
    refine TW.indexAddr rfl rfl Try.underlying22 sz24 rfl ct rfl ct (fun _ => by (try dsimp only); omega) ?_
    refine TW.load rfl rfl one24 rfl ct (fun _ => hcS) ?_
    refine TW.call0 (cap := []) rfl rfl en17 rfl (Args.cons rfl ct (Args.cons rfl ct Args.nil)) (rrest_c hlW hrS (by omega)) ?_
    rintro rv5 w5 ⟨c5, hr5⟩
    refine TW.call0 (cap := []) rfl rfl en34 rfl (Args.cons rfl ct (Args.cons rfl ct Args.nil)) (rposs_c (sd_step hdW c5) hr5) ?_
    rintro y w6 ⟨c6, rfl⟩
    rw [dec_congr (hwf.rest S)]
    have c56 := c5.step c6
    have hB6 := hB.step c56
    refine TW.nil (KW.pick [0, 1, 9, 10, 11, 49] [(0, _, _), (1, _, _), (9, _, _), (10, _, _), (11, _, _), (49, _, _)] rfl (KW.then_ ?_))
    refine CW.cond rfl (fun hin => ?_) (fun hout => ?_)
    · rw [hin] at htk
      have hcS6 := (c56.cell (block_lt_of_cell hcS)).trans hcS
      have hrS6 := hrS.below c56
      obtain ⟨X, xcap, rfl, _⟩ := hrS6.form
      refine CW.region ?_
      refine TW.move rfl rfl rfl ct ?_
      refine TW.move rfl rfl rfl ct ?_
      refine TW.move rfl rfl rfl ct ?_
      refine TW.indexAddr rfl rfl Try.underlying22 sz24 rfl ct rfl ct (fun _ => by (try dsimp only); omega) ?_
      refine TW.load rfl rfl one24 rfl ct (fun _ => hcS6) ?_
      refine TW.buildSlice 24 _ rfl rfl rfl eo22 (Args.cons rfl ct Args.nil) rfl rfl rfl rfl rfl ?_
      rintro g7 w7 f7
      have hR7 := (hR.step c56).step f7.below
      have hB7 := hB6.step f7.below
      refine TW.append [.slice X S.length xcap] rfl rfl go22 rfl hR7.1 rfl rfl (fun j v hj => ⟨⟨g7, 0, none⟩, rfl, f7.blk.fld hj⟩) (fun v hv => by simp at hv; subst hv; rfl) (by omega) (by omega) ?_
      rintro ov' w8 o8 hg8 hn8
      refine TW.assign rfl rfl rfl ct ?_
      refine TW.nil (KW.pick [0, 1, 9, 10, 11] [(0, _, _), (1, _, _), (9, _, _), (10, _, _), (11, _, _)] rfl (KW.blockN (KW.then_ ?_)))
      refine CW.region ?_
      refine TW.move rfl rfl rfl ct ?_
      refine TW.add rfl rfl rfl ct rfl ct (fun _ => by (try dsimp only); omega) ?_
      refine TW.assign rfl rfl rfl ct ?_
      refine TW.nil (KW.pick [0, 1, 9, 10, 11] [(0, _, _), (1, _, _), (9, _, _), (10, _, _), (11, _, _)] rfl ?_)
      have hrep : (sliceT intT).rep (RowF w7 ov) w7 [.slice X S.length xcap] S := ⟨_, rfl, (hrS6.below f7.below).wider (fun q hq => ⟨by have := hB7.size; omega, fun e => by have := hR.2.2 q e; omega⟩)⟩
      have hR8 : RowL (sliceT intT) w8 24 w3.heap.size ov' (ps ++ [([.slice X S.length xcap], S)]) := hR7.app o8 hg8 hn8 hrep hB7.size
      refine KW.round (i + 1, ov', ps ++ [([.slice X S.length xcap], S)]) [0, 1, 9, 10, 11] rfl ⟨by show i + 1 ≤ ss.length; omega, hB7.grown hg8 hB7.size hR.2.2, hR8, ?_⟩ (by show ss.length - (i + 1) < ss.length - i; omega)
      show List.map Prod.snd (ps ++ [_]) = (ss.take (i + 1)).filter (fun S => dec (Poss d (restS l S)))
      rw [List.map_append, hmap, htk]
      simp
    · rw [hout] at htk
      refine CW.skip (KW.blockN (KW.then_ (CW.region ?_)))
      refine TW.move rfl rfl rfl ct ?_
      refine TW.add rfl rfl rfl ct rfl ct (fun _ => by (try dsimp only); omega) ?_
      refine TW.assign rfl rfl rfl ct ?_
      refine TW.nil (KW.pick [0, 1, 9, 10, 11] [(0, _, _), (1, _, _), (9, _, _), (10, _, _), (11, _, _)] rfl ?_)
      refine KW.round (i + 1, ov, ps) [0, 1, 9, 10, 11] rfl ⟨by show i + 1 ≤ ss.length; omega, hB6, hR.step c56, ?_⟩ (by show ss.length - (i + 1) < ss.length - i; omega)
      show ps.map (·.2) = (ss.take (i + 1)).filter (fun S => dec (Poss d (restS l S)))
      rw [hmap, htk]
      simp
  have hie : i = ss.length := by omega
  subst hie
  rw [List.take_length, ← hW] at hmap
  have hsl := hR.sl (by show 0 < 1; decide)
  rw [hmap] at hsl
  obtain ⟨O, ocap, rfl, _⟩ := hsl.form
  refine CW.exit (KW.thenX (KW.thenX (KW.blockX (KW.then_ (CW.seq (CW.seq (CW.region ?_)))))))
  refine TW.move rfl rfl rfl ct ?_
  refine TW.lenSlice rfl rfl Try.underlying22 rfl ct ?_
  refine TW.eql rfl rfl rfl ct rfl ct ?_
  refine TW.nil (KW.pick [0, 1, 9, 10, 11, 59] [(0, _, _), (1, _, _), (9, _, _), (10, _, _), (11, _, _), (59, _, _)] rfl (KW.then_ ?_))
  refine CW.condP rfl (fun hz => ?_) (fun hnz => ?_)
  · have h0 : worldsS d l most = [] := List.eq_nil_of_length_eq_zero (by omega)
    refine CW.seq (CW.region ?_)
    refine TW.assign rfl rfl rfl ct ?_
    refine TW.assign rfl rfl rfl ct ?_
    refine TW.nil (KW.pick [0, 1, 6, 7, 9, 10, 11] [(0, _, _), (1, _, _), (6, _, _), (7, _, _), (9, _, _), (10, _, _), (11, _, _)] rfl (KW.then_ ?_))
    refine CW.ret (KW.thenR ?_)
    refine ret2 Try.results13 rfl rfl (⟨b3.step hB, .slice none 0 0, ?_, ?_⟩)
    · rw [hE, if_pos h0]
    · rw [h0]; exact SL.nil _ _ _
  · have h0 : worldsS d l most ≠ [] := fun e => by rw [e] at hnz; simp at hnz
    refine CW.skip (KW.then_ (CW.seq (CW.region ?_)))
    refine TW.move rfl rfl rfl ct ?_
    refine TW.assign rfl rfl rfl ct ?_
    refine TW.assign rfl rfl rfl ct ?_
    refine TW.nil (KW.pick [0, 1, 6, 7, 9, 10, 11] [(0, _, _), (1, _, _), (6, _, _), (7, _, _), (9, _, _), (10, _, _), (11, _, _)] rfl (KW.then_ ?_))
    refine CW.ret ?_
    refine ret2 Try.results13 rfl rfl (⟨b3.step hB, _, ?_, hsl⟩)
    rw [hE, if_neg h0]
end Go.Proofs.Ytmdjkgkgpkaliaa
