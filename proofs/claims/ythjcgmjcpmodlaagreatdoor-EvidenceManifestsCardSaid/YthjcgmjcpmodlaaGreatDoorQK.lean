/- Texts joined: RowB Yj Yk. -/
import Derived.Test.YthjcgmjcpmodlaaGreatDoorQD
import Derived.Test.YthjcgmjcpmodlaaGreatDoorQC
import Derived.Test.YthjcgmjcpmodlaaGreatDoorQJ
set_option linter.unusedSimpArgs false
set_option linter.unusedVariables false

/- Owned rows whose elements lie in blocks made by the call. -/
namespace Go.PF
open Go.RowKit
variable {α : Type}

def RowB (T : Ty α) (w : World) (e : TypeId) (b : Nat) (v : Value) (ps : List (List Value × α)) : Prop := OwnS w e T.n v ps.length (ps.flatMap (·.1)) ∧ (∀ p ∈ ps, T.rep (fun k => b ≤ k ∧ RowF w v k) w p.1 p.2) ∧ ∀ g, v.ownBlock = some g → b ≤ g
theorem RowB.nil (T : Ty α) (w : World) (e : TypeId) (b : Nat) : RowB T w e b (.slice none 0 0) [] := ⟨OwnS.nil _ _ _, (fun p hp => by cases hp), fun g h => by simp [Value.ownBlock] at h⟩
theorem RowB.new {T : Ty α} {w : World} {e : TypeId} {b g : Nat} (hB : Blk w g e []) (hg : b ≤ g) : RowB T w e b (.slice (some ⟨g, 0, none⟩) 0 0) [] :=
  ⟨OwnS.of_blk hB (by simp) (by simp), (fun p hp => by cases hp), fun q h => by simp [Value.ownBlock] at h; omega⟩
theorem RowB.l {T : Ty α} {w : World} {e : TypeId} {b : Nat} {v : Value} {ps : List (List Value × α)} (h : RowB T w e b v ps) : RowL T w e b v ps := ⟨h.1, fun p hp => T.wider _ _ _ _ _ (fun _ hk => hk.2) (h.2.1 p hp), h.2.2⟩
theorem RowB.sl {T : Ty α} (h0 : 0 < T.n) {w : World} {e : TypeId} {b : Nat} {v : Value} {ps : List (List Value × α)} (h : RowB T w e b v ps) : SL T (fun k => b ≤ k ∧ k < w.heap.size) w v (ps.map (·.2)) :=
  OwnS.toSLp ps (fun p hp => T.wider _ _ _ _ _ (fun _ hk => ⟨hk.1, hk.2.1⟩) (h.2.1 p hp)) h0 h.1 rfl (fun g hg => ⟨h.2.2 g hg, h.1.lt hg⟩) h.l.big
theorem RowB.step {T : Ty α} {w w' : World} {e : TypeId} {b : Nat} {v : Value} {ps : List (List Value × α)} (h : RowB T w e b v ps) (hb : Below w.heap.size w w') : RowB T w' e b v ps :=
  ⟨h.1.below hb, fun p hp => T.wider _ _ _ _ _ (fun k hk => ⟨hk.1, Nat.lt_of_lt_of_le hk.2.1 hb.size, hk.2.2⟩) (T.mono _ _ _ _ _ (Kept.of_below hb) (h.2.1 p hp)), h.2.2⟩
theorem RowB.app {T : Ty α} {w w' : World} {e : TypeId} {b : Nat} {v v' : Value} {ps : List (List Value × α)} {cs : List Value} {x : α} (h : RowB T w e b v ps) (hO : OwnS w' e T.n v' (ps.length + 1) (ps.flatMap (·.1) ++ cs)) (hg : w.grownBy w' v.ownBlock) (hn : v'.ownBlock = v.ownBlock ∨ v'.ownBlock = some w.heap.size)
    (hr : T.rep (fun k => b ≤ k ∧ RowF w v k) w cs x) (hb : b ≤ w.heap.size) : RowB T w' e b v' (ps ++ [(cs, x)]) := by
  have hk : Kept (fun k => b ≤ k ∧ RowF w v k) w w' := Kept.of_blocks fun k hk hlt => hg.block k hlt (fun e => hk.2.2 e.symm)
  have hw : ∀ k, (b ≤ k ∧ RowF w v k) → b ≤ k ∧ RowF w' v' k := fun k hk => ⟨hk.1, Nat.lt_of_lt_of_le hk.2.1 hg.size, fun e => by
    rcases hn with h' | h'
    · exact hk.2.2 (by rw [← h']; exact e)
    · rw [h'] at e; cases e; exact absurd hk.2.1 (Nat.lt_irrefl _)⟩
  refine ⟨by rw [List.flatMap_append, List.length_append]; simpa using hO, fun p hp => ?_, fun q hq => ?_⟩
  · rcases List.mem_append.1 hp with hp | hp
    · exact T.wider _ _ _ _ _ hw (T.mono _ _ _ _ _ hk (h.2.1 p hp))
    · rw [List.mem_singleton] at hp
      subst hp
      exact T.wider _ _ _ _ _ hw (T.mono _ _ _ _ _ hk hr)
  · rcases hn with h' | h'
    · exact h.2.2 q (by rw [← h']; exact hq)
    · rw [h'] at hq; cases hq; exact hb
end Go.PF

namespace Go.Proofs.YthjcgmjcpmodlaaGreatDoor
open Go.PF Go.RowKit Go.Ord Go.Sort Go.Proofs

set_option maxRecDepth 20000 in
theorem needs_c {w : World} {v : Value} {e : Ev} {n : Int} {F : Nat → Prop} (h : EvOK F w v e) :
    Gives Tryz.prog 16 #[.agg (evV e v).toArray, .int .i64 n] w fun u w' => Below w.heap.size w w' ∧ u = .bool (decide (n ∈ e.needs)) := by
  obtain ⟨A, cap, rfl, _⟩ := h.nd.form
  have hmax := h.nd.len.2.2
  refine gives_of (vs := [.agg (evV e (.slice A e.needs.length cap)).toArray, .int .i64 n]) [(0, none, _), (1, none, _)] Tryz.func16 rfl Tryz.ntmps16 rfl rfl ?_
  refine CW.seq (CW.region ?_)
  refine TW.box rfl rfl rfl rfl ?_
  rintro g1 w1 f1
  refine TW.assign rfl rfl rfl ct ?_
  refine TW.nil (KW.pick [0, 1, 2, 4] [(0, _, _), (1, _, _), (2, _, _), (4, _, _)] rfl (KW.then_ ?_))
  refine CW.seq (CW.seq (CW.region ?_))
  refine TW.assign rfl rfl rfl ct ?_
  refine TW.nil (KW.pick [0, 1, 2, 4, 5] [(0, _, _), (1, _, _), (2, _, _), (4, _, _), (5, _, _)] rfl (KW.then_ ?_))
  refine CW.block ?_
  have hB := f1.blk
  have nd1 := h.nd.below f1.below
  refine CW.loopS (fun i : Nat => [(1, none, .int .i64 n), (2, none, .pointer (some ⟨g1, 0, none⟩)), (5, none, .int .i64 (i : Int))])
    (fun i W => i ≤ e.needs.length ∧ W = w1 ∧ n ∉ e.needs.take i) (fun i => e.needs.length - i) 0 [1, 2, 5] ⟨by omega, rfl, by simp⟩ rfl ?_
  rintro i W ⟨hi, rfl, hno⟩
  refine CW.seq (CW.seq (CW.region ?_))
  refine TW.move rfl rfl rfl ct ?_
  refine TW.fieldAddr rfl rfl fo29_3 rfl ct ?_
  refine TW.load rfl rfl one27 rfl ct (fun _ => hB.fld rfl) ?_
  refine TW.lenSlice rfl rfl Tryz.underlying27 rfl ct ?_
  refine TW.lss rfl rfl rfl ct rfl ct ?_
  refine TW.nil (KW.pick [1, 2, 5, 10] [(1, _, _), (2, _, _), (5, _, _), (10, _, _)] rfl (KW.then_ ?_))
  refine CW.condP rfl (fun hlt => ?_) (fun hge => ?_)
  · obtain ⟨y, hy, hym⟩ := getx (l := e.needs) (k := i) (by omega)
    obtain ⟨ad, rfl⟩ := nd1.addr (by omega)
    refine CW.skip (KW.then_ (CW.seq (CW.block (CW.seq (CW.region ?_)))))
    refine TW.fieldAddr rfl rfl fo29_3 rfl ct ?_
    refine TW.load rfl rfl one27 rfl ct (fun _ => hB.fld rfl) ?_
    refine TW.move rfl rfl rfl ct ?_
    refine TW.indexAddr rfl rfl Tryz.underlying27 sz3 rfl ct rfl ct (fun _ => by (try dsimp only); omega) ?_
    refine TW.load rfl rfl one3 rfl ct (fun _ => nd1.getI hy) ?_
    refine TW.move rfl rfl rfl ct ?_
    refine TW.eql rfl rfl rfl ct rfl ct ?_
    refine TW.nil (KW.pick [1, 2, 5, 19] [(1, _, _), (2, _, _), (5, _, _), (19, _, _)] rfl (KW.then_ ?_))
    refine CW.condP rfl (fun heq => ?_) (fun hne => ?_)
    · refine CW.seq (CW.region ?_)
      refine TW.assign rfl rfl rfl ct ?_
      refine TW.nil (KW.pick [1, 2, 4, 5] [(1, _, _), (2, _, _), (4, _, _), (5, _, _)] rfl (KW.then_ ?_))
      refine CW.ret (KW.blockR (KW.thenR (KW.thenR (KW.blockR (KW.thenR ?_)))))
      refine ret1 Tryz.results16 rfl (⟨f1.below, ?_⟩)
      have : y = n := by simpa using heq
      subst this
      rw [decide_eq_true hym]
    · refine CW.skip (KW.blockN (KW.then_ (CW.region ?_)))
      refine TW.move rfl rfl rfl ct ?_
      refine TW.add rfl rfl rfl ct rfl ct (fun _ => by (try dsimp only); omega) ?_
      refine TW.assign rfl rfl rfl ct ?_
      refine TW.nil (KW.pick [1, 2, 5] [(1, _, _), (2, _, _), (5, _, _)] rfl ?_)
      refine KW.round (i + 1) [1, 2, 5] rfl ⟨by omega, rfl, fun h => ?_⟩ (by omega)
      rw [List.take_add_one, hy] at h
      rcases List.mem_append.1 h with h | h
      · exact hno h
      · simp at h
        exact (by simpa using hne : ¬ y = n) h.symm
  · refine CW.exit (KW.thenX (KW.thenX (KW.blockX (KW.then_ (CW.seq (CW.region ?_))))))
    refine TW.assign rfl rfl rfl ct ?_
    refine TW.nil (KW.pick [1, 2, 4, 5] [(1, _, _), (2, _, _), (4, _, _), (5, _, _)] rfl (KW.then_ ?_))
    refine CW.ret ?_
    refine ret1 Tryz.results16 rfl (⟨f1.below, ?_⟩)
    rw [List.take_of_length_le (by omega)] at hno
    rw [decide_eq_false hno]

end Go.Proofs.YthjcgmjcpmodlaaGreatDoor

namespace Go.Proofs.YthjcgmjcpmodlaaGreatDoor
open Go.PF Go.RowKit Go.Ord Go.Sort Go.Proofs

theorem OwnS.most {w : World} {e : TypeId} {sz n : Nat} {v : Value} {xs : List Value} (h : OwnS w e sz v n xs) : n ≤ 9223372036854775807 := by
  have hm : maxLen = 9223372036854775807 := rfl
  rcases h.2 with ⟨_, h⟩ | ⟨g, cap, cur, _, _, _, h1, h2, _⟩ <;> omega
theorem evs_len (l : List Sc) (r : List Rc) (lab : ByteArray) : (evsOf l r lab).length ≤ 14 := by unfold evsOf; rw [List.length_take]; omega
theorem mem_evs {l : List Sc} {r : List Rc} {lab : ByteArray} {e : Ev} (h : e ∈ evsOf l r lab) : Fol l r lab e := mem_folL.1 (mem_canon.1 (List.mem_of_mem_take h))
theorem evs_needs {l : List Sc} {r : List Rc} {lab : ByteArray} {n : Nat} (hn : 4 ≤ n) : ∀ e ∈ evsOf l r lab, e.needs.length ≤ n := fun e he => Nat.le_trans (mem_evs he).len.2 hn
theorem evs_srt (l : List Sc) (r : List Rc) (lab : ByteArray) : SrtE (evsOf l r lab) := List.Pairwise.sublist (List.take_sublist _ _) (srt_canon _)
theorem evs_all {l : List Sc} {r : List Rc} {lab : ByteArray} (h : (evsOf l r lab).length < 14) : evsOf l r lab = canon (folL l r lab) := by
  unfold evsOf at h ⊢
  rw [List.length_take] at h
  exact List.take_of_length_le (by omega)

set_option maxRecDepth 20000 in
theorem matches_law {w : World} {u v ev : Value} {l : List Sc} {r : List Rc} {z : List Ev} (lab : ByteArray) (hl : SS w u l) (hr : SR w v r) (hz : SE w ev z) (ht : Tabs w) :
    Gives Tryz.prog 3 #[u, v, .string lab, ev] w fun x w' => Below w.heap.size w w' ∧ x = .bool true := by
  obtain ⟨A, cap, rfl, _⟩ := hr.form
  obtain ⟨B, bcap, rfl, _⟩ := hl.form
  obtain ⟨C, ccap, rfl, _⟩ := hz.form
  refine gives_of (vs := [.slice B l.length bcap, .slice A r.length cap, .string lab, .slice C z.length ccap]) [(0, none, _), (1, none, _), (2, none, _), (3, none, _)] Tryz.func3 rfl Tryz.ntmps3 rfl rfl ?_
  refine CW.seq (CW.region ?_)
  refine TW.assign rfl rfl rfl ct ?_
  refine TW.nil (KW.pick [0, 1, 2, 3, 8] [(0, _, _), (1, _, _), (2, _, _), (3, _, _), (8, _, _)] rfl (KW.then_ ?_))
  refine CW.seq (CW.region ?_)
  refine TW.call0 (cap := []) rfl rfl en5 rfl Args.nil (head_c ht) ?_
  rintro y w1 ⟨b1, rfl⟩
  refine TW.assign rfl rfl rfl ct ?_
  refine TW.nil (KW.pick [0, 1, 2, 3, 8, 9] [(0, _, _), (1, _, _), (2, _, _), (3, _, _), (8, _, _), (9, _, _)] rfl (KW.then_ ?_))
  refine CW.seq (CW.seq (CW.region ?_))
  refine TW.move rfl rfl rfl ct ?_
  refine TW.move rfl rfl rfl ct ?_
  have hl1 := ss_step hl b1
  have hr1 := sr_step hr b1
  refine TW.call0 (cap := []) rfl rfl en6 rfl (Args.cons rfl ct (Args.cons rfl ct Args.nil)) (rfew_c hl1 hr1) ?_
  rintro y w2 ⟨c2, b, rfl, hfew⟩
  have b2 := b1.step c2
  refine TW.not rfl rfl rfl ct ?_
  refine TW.move rfl rfl rfl ct ?_
  refine TW.move rfl rfl rfl ct ?_
  refine TW.lenSlice rfl rfl Tryz.underlying24 rfl id ?_
  refine TW.gtr rfl rfl rfl id rfl ct ?_
  refine TW.pickOr rfl rfl rfl ct rfl pOr0 ?_
  refine TW.nil (KW.pick [0, 1, 2, 3, 8, 9, 20] [(0, _, _), (1, _, _), (2, _, _), (3, _, _), (8, _, _), (9, _, _), (20, _, _)] rfl (KW.then_ ?_))
  refine CW.cond rfl (fun hbad => ?_) (fun hgood => ?_)
  · refine CW.seq (CW.region ?_)
    refine TW.move rfl rfl rfl ct ?_
    refine TW.assign rfl rfl rfl ct ?_
    refine TW.nil (KW.pick [0, 1, 2, 3, 8, 9] [(0, _, _), (1, _, _), (2, _, _), (3, _, _), (8, _, _), (9, _, _)] rfl (KW.then_ ?_))
    refine CW.ret (KW.thenR ?_)
    refine ret1 Tryz.results3 rfl (⟨b2, rfl⟩)
  have hb : b = true := by cases b with | true => rfl | false => simp at hgood
  subst hb
  obtain ⟨_, hr30⟩ := hfew rfl
  have hz30 : z.length ≤ 30 := by simp at hgood; omega
  refine CW.skip (KW.then_ (CW.seq (CW.seq (CW.region ?_))))
  refine TW.assign rfl rfl rfl ct ?_
  refine TW.nil (KW.pick [0, 1, 2, 3, 8, 9, 10] [(0, _, _), (1, _, _), (2, _, _), (3, _, _), (8, _, _), (9, _, _), (10, _, _)] rfl (KW.then_ ?_))
  refine CW.block ?_
  refine CW.loopS (fun i : Nat => [(0, none, .slice B l.length bcap), (1, none, .slice A r.length cap), (2, none, .string lab), (3, none, .slice C z.length ccap), (9, none, .bool true), (10, none, .int .i64 (i : Int))])
    (fun i W => i ≤ z.length ∧ W = w2 ∧ ∀ e ∈ z.take i, e.needs.length ≤ 20) (fun i => z.length - i) 0 [0, 1, 2, 3, 9, 10] ⟨by omega, rfl, fun e he => by simp at he⟩ rfl ?_
  rintro i W ⟨hi, rfl, hnd⟩
  have hzW := se_step hz b2
  refine CW.seq (CW.seq (CW.region ?_))
  refine TW.move rfl rfl rfl ct ?_
  refine TW.move rfl rfl rfl ct ?_
  refine TW.lenSlice rfl rfl Tryz.underlying24 rfl ct ?_
  refine TW.lss rfl rfl rfl ct rfl ct ?_
  refine TW.nil (KW.pick [0, 1, 2, 3, 9, 10, 25] [(0, _, _), (1, _, _), (2, _, _), (3, _, _), (9, _, _), (10, _, _), (25, _, _)] rfl (KW.then_ ?_))
  refine CW.condP rfl (fun hlt => ?_) (fun hge => ?_)
  · obtain ⟨e, he, hem⟩ := getx (l := z) (k := i) (by omega)
    obtain ⟨ad, rfl⟩ := hzW.addr (by omega)
    obtain ⟨N1, nc, hcells, hok⟩ := SE.ok hzW he
    refine CW.skip (KW.then_ (CW.seq (CW.block (CW.seq (CW.region ?_)))))
    refine TW.move rfl rfl rfl ct ?_
    refine TW.move rfl rfl rfl ct ?_
    refine TW.indexAddr rfl rfl Tryz.underlying24 sz29 rfl ct rfl ct (fun _ => by (try dsimp only); omega) ?_
    refine TW.fieldAddr rfl rfl fo29_3 rfl ct ?_
    refine TW.load rfl rfl one27 rfl ct (fun _ => hcells 3 _ rfl) ?_
    refine TW.lenSlice rfl rfl Tryz.underlying27 rfl ct ?_
    refine TW.gtr rfl rfl rfl ct rfl ct ?_
    refine TW.nil (KW.pick [0, 1, 2, 3, 9, 10, 34] [(0, _, _), (1, _, _), (2, _, _), (3, _, _), (9, _, _), (10, _, _), (34, _, _)] rfl (KW.then_ ?_))
    refine CW.condP rfl (fun hmany => ?_) (fun hok20 => ?_)
    · refine CW.seq (CW.region ?_)
      refine TW.move rfl rfl rfl ct ?_
      refine TW.assign rfl rfl rfl ct ?_
      refine TW.nil (KW.pick [0, 1, 2, 3, 8, 9, 10] [(0, _, _), (1, _, _), (2, _, _), (3, _, _), (8, _, _), (9, _, _), (10, _, _)] rfl (KW.then_ ?_))
      refine CW.ret (KW.blockR (KW.thenR (KW.thenR (KW.blockR (KW.thenR ?_)))))
      refine ret1 Tryz.results3 rfl (⟨b2, rfl⟩)
    · refine CW.skip (KW.blockN (KW.then_ (CW.region ?_)))
      refine TW.move rfl rfl rfl ct ?_
      refine TW.add rfl rfl rfl ct rfl ct (fun _ => by (try dsimp only); omega) ?_
      refine TW.assign rfl rfl rfl ct ?_
      refine TW.nil (KW.pick [0, 1, 2, 3, 9, 10] [(0, _, _), (1, _, _), (2, _, _), (3, _, _), (9, _, _), (10, _, _)] rfl ?_)
      refine KW.round (i + 1) [0, 1, 2, 3, 9, 10] rfl ⟨by omega, rfl, fun f hf => ?_⟩ (by omega)
      rw [List.take_add_one, he] at hf
      rcases List.mem_append.1 hf with hf | hf
      · exact hnd f hf
      · simp at hf
        subst hf
        simp at hok20
        omega
  · skip
    refine CW.exit (KW.thenX (KW.thenX (KW.blockX (KW.then_ (CW.seq (CW.region ?_))))))
    refine TW.move rfl rfl rfl ct ?_
    refine TW.move rfl rfl rfl ct ?_
    refine TW.known rfl (by simp [Cnd]) ?_
    refine TW.move rfl rfl rfl ct ?_
    refine TW.known rfl (by simp [Cnd]) ?_
    refine TW.move rfl rfl rfl ct ?_
    refine TW.known rfl (by simp [Cnd]) ?_
    refine TW.move rfl rfl rfl ct ?_
    refine TW.known rfl (by simp [Cnd]) ?_
    rw [List.take_of_length_le (by omega)] at hnd
    have hl2 := ss_step hl b2
    have hr2 := sr_step hr b2
    refine TW.call0 (cap := []) rfl rfl en8 rfl (Args.cons rfl ct (Args.cons rfl ct (Args.cons rfl ct Args.nil))) (events_c hl2 hr2 (by omega) (ht.below b2)) ?_
    rintro v3 w3 ⟨c3, h3⟩
    have hl3 := ss_step hl2 c3
    have hr3 := sr_step hr2 c3
    refine TW.known rfl (by simp [Cnd]) ?_
    refine TW.move rfl rfl rfl ct ?_
    refine TW.known rfl (by simp [Cnd]) ?_
    refine TW.move rfl rfl rfl ct ?_
    refine TW.known rfl (by simp [Cnd]) ?_
    refine TW.move rfl rfl rfl ct ?_
    refine TW.known rfl (by simp [Cnd]) ?_
    refine TW.call0 (cap := []) rfl rfl en9 rfl (Args.cons rfl ct (Args.cons rfl ct (Args.cons rfl ct Args.nil))) (revents_c hl3 hr3 hr30) ?_
    rintro v4 w4 ⟨c4, h4⟩
    refine TW.known rfl (by simp [Cnd]) ?_
    refine TW.call0 (cap := []) rfl rfl en7 rfl (Args.cons rfl ct (Args.cons rfl ct Args.nil)) (rsame_c (se_step h3 c4) h4 (evs_needs (by omega)) (evs_needs (by omega))) ?_
    rintro v5 w5 ⟨c5, rfl⟩
    have b5 := ((b2.step c3).step c4).step c5
    have hz5 := se_step hz b5
    rw [dec_pos rfl]
    refine TW.pickAnd rfl rfl rfl ct rfl pT ?_
    refine TW.move rfl rfl rfl ct ?_
    refine TW.known rfl (by simp [Cnd]) ?_
    refine TW.move rfl rfl rfl ct ?_
    refine TW.known rfl (by simp [Cnd]) ?_
    refine TW.call0 (cap := []) rfl rfl en11 rfl (Args.cons rfl ct Args.nil) (about_c hz5 (by omega) (fun e he => by have := hnd e he; omega)) ?_
    rintro v6 w6 ⟨c6, h6, _⟩
    have h6i : SI w6 v6 (recsS z) := OwnS.toInts h6 (fun x hx => by
      obtain ⟨e, he, hxe⟩ := mem_recsS.1 hx
      obtain ⟨i, hi⟩ := List.mem_iff_getElem?.1 he
      obtain ⟨ad, rfl⟩ := hzW.addr (l := z) (by have := (List.getElem?_eq_some_iff.1 hi).1; omega)
      obtain ⟨N1, nc, hcells, hok⟩ := SE.ok hzW hi
      exact sl_allI hok.nd x hxe) (fun g hg => h6.lt hg) (OwnS.most h6)
    refine TW.known rfl (by simp [Cnd]) ?_
    refine TW.move rfl rfl rfl ct ?_
    refine TW.known rfl (by simp [Cnd]) ?_
    refine TW.call0 (cap := []) rfl rfl en12 rfl (Args.cons rfl ct Args.nil) (rabout_c (se_step hz5 c6) (by omega) (fun e he => by have := hnd e he; omega)) ?_
    rintro v7 w7 ⟨c7, h7⟩
    refine TW.known rfl (by simp [Cnd]) ?_
    refine TW.call0 (cap := []) rfl rfl en10 rfl (Args.cons rfl ct (Args.cons rfl ct Args.nil)) (rints_c (si_step h6i c7) h7) ?_
    rintro v8 w8 ⟨c8, rfl⟩
    rw [decide_eq_true rfl]
    refine TW.pickAnd rfl rfl rfl ct rfl pT ?_
    refine TW.assign rfl rfl rfl ct ?_
    refine TW.nil (KW.pick [0, 1, 2, 3, 8, 9, 10] [(0, _, _), (1, _, _), (2, _, _), (3, _, _), (8, _, _), (9, _, _), (10, _, _)] rfl (KW.then_ ?_))
    refine CW.ret ?_
    refine ret1 Tryz.results3 rfl (⟨((b5.step c6).step c7).step c8, rfl⟩)
end Go.Proofs.YthjcgmjcpmodlaaGreatDoor
