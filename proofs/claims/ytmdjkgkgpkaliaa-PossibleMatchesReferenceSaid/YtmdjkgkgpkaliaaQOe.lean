/- Texts joined: Rf Rg Rh Ri Pl. -/
import Derived.Test.YtmdjkgkgpkaliaaQOb
set_option linter.unusedSimpArgs false
set_option linter.unusedVariables false

namespace Go.Proofs.Ytmdjkgkgpkaliaa
open Go.PF Go.RowKit Go.Ord

def Upto {α : Type} (p : α → Prop) (l : List α) (k : Nat) : Prop := ∀ (i : Nat) (e : α), i < k → l[i]? = some e → p e
theorem Upto.zero {α : Type} {p : α → Prop} {l : List α} : Upto p l 0 := fun i e hi => by omega
theorem Upto.succ {α : Type} {p : α → Prop} {l : List α} {k : Nat} {x : α} (h : Upto p l k) (hx : l[k]? = some x) (hp : p x) : Upto p l (k + 1) := fun i e hi he => by
  rcases Nat.lt_or_ge i k with h' | h'
  · exact h i e h' he
  · obtain rfl : i = k := by omega
    rw [hx] at he; cases he
    exact hp
theorem Upto.all {α : Type} {p : α → Prop} {l : List α} {k : Nat} (h : Upto p l k) (hk : l.length ≤ k) : ∀ e ∈ l, p e := fun e he => by
  obtain ⟨i, hi, hie⟩ := List.getElem_of_mem he
  exact h i e (by omega) (by rw [← hie]; exact List.getElem?_eq_getElem hi)
theorem getx {α : Type} {l : List α} {k : Nat} (h : k < l.length) : ∃ x, l[k]? = some x ∧ x ∈ l := ⟨l[k], List.getElem?_eq_getElem h, List.getElem_mem h⟩
abbrev SI (w : World) (v : Value) (l : List Int) : Prop := SL intT (fun k => k < w.heap.size) w v l
theorem si_step {w w' : World} {v : Value} {l : List Int} (h : SI w v l) (hb : Below w.heap.size w w') : SI w' v l := h.step intT_now hb

theorem rin_c {w : World} {F : Nat → Prop} {v : Value} {l : List Int} {n : Int} (hl : SL intT F w v l) : Gives Try.prog 40 #[v, .int .i64 n] w fun x w' => Below w.heap.size w w' ∧ x = .bool (decide (n ∈ l)) := by
  obtain ⟨A, cap, rfl, _⟩ := hl.form
  have hmax := hl.len.2.2
  refine gives_of (vs := [.slice A l.length cap, .int .i64 n]) [(0, none, _), (1, none, _)] Try.func40 rfl Try.ntmps40 rfl rfl ?_
  refine CW.seq (CW.region ?_)
  refine TW.assign rfl rfl rfl ct ?_
  refine TW.nil (KW.pick [0, 1, 4] [(0, _, _), (1, _, _), (4, _, _)] rfl (KW.then_ ?_))
  refine CW.seq (CW.seq (CW.region ?_))
  refine TW.assign rfl rfl rfl ct ?_
  refine TW.nil (KW.pick [0, 1, 4, 5] [(0, _, _), (1, _, _), (4, _, _), (5, _, _)] rfl (KW.then_ ?_))
  refine CW.block ?_
  refine CW.loopS (fun k : Nat => [(0, none, .slice A l.length cap), (1, none, .int .i64 n), (5, none, .int .i64 (k : Int))])
    (fun k W => k ≤ l.length ∧ W = w ∧ Upto (· ≠ n) l k) (fun k => l.length - k) 0 [0, 1, 5] ⟨by omega, rfl, Upto.zero⟩ rfl ?_
  rintro k W ⟨hk, rfl, hup⟩
  refine CW.seq (CW.seq (CW.region ?_))
  refine TW.move rfl rfl rfl ct ?_
  refine TW.move rfl rfl rfl ct ?_
  refine TW.lenSlice rfl rfl Try.underlying24 rfl ct ?_
  refine TW.lss rfl rfl rfl ct rfl ct ?_
  refine TW.nil (KW.pick [0, 1, 5, 9] [(0, _, _), (1, _, _), (5, _, _), (9, _, _)] rfl (KW.then_ ?_))
  refine CW.condP rfl (fun hlt => ?_) (fun hge => ?_)
  · obtain ⟨x, hx, hxm⟩ := getx (l := l) (k := k) (by omega)
    obtain ⟨ad, rfl⟩ := hl.addr (by omega)
    refine CW.skip (KW.then_ (CW.seq (CW.block (CW.seq (CW.region ?_)))))
    refine TW.move rfl rfl rfl ct ?_
    refine TW.move rfl rfl rfl ct ?_
    refine TW.indexAddr rfl rfl Try.underlying24 sz3 rfl ct rfl ct (fun _ => by (try dsimp only); omega) ?_
    refine TW.load rfl rfl one3 rfl ct (fun _ => hl.getI hx) ?_
    refine TW.move rfl rfl rfl ct ?_
    refine TW.eql rfl rfl rfl ct rfl ct ?_
    refine TW.nil (KW.pick [0, 1, 5, 17] [(0, _, _), (1, _, _), (5, _, _), (17, _, _)] rfl (KW.then_ ?_))
    refine CW.condP rfl (fun he => ?_) (fun hn => ?_)
    · refine CW.seq (CW.region ?_)
      refine TW.assign rfl rfl rfl ct ?_
      refine TW.nil (KW.pick [0, 1, 4, 5] [(0, _, _), (1, _, _), (4, _, _), (5, _, _)] rfl (KW.then_ ?_))
      refine CW.ret (KW.blockR (KW.thenR (KW.thenR (KW.blockR (KW.thenR ?_)))))
      refine ret1 Try.results40 rfl (⟨Below.refl _ _, by rw [decide_eq_true (he ▸ hxm)]⟩)
    refine CW.skip (KW.blockN (KW.then_ (CW.region ?_)))
    refine TW.move rfl rfl rfl ct ?_
    refine TW.add rfl rfl rfl ct rfl ct (fun _ => by (try dsimp only); omega) ?_
    refine TW.assign rfl rfl rfl ct ?_
    refine TW.nil (KW.pick [0, 1, 5] [(0, _, _), (1, _, _), (5, _, _)] rfl ?_)
    refine KW.round (k + 1) [0, 1, 5] rfl ⟨by omega, rfl, hup.succ hx hn⟩ (by omega)
  · refine CW.exit (KW.thenX (KW.thenX (KW.blockX (KW.then_ (CW.seq (CW.region ?_))))))
    refine TW.assign rfl rfl rfl ct ?_
    refine TW.nil (KW.pick [0, 1, 4, 5] [(0, _, _), (1, _, _), (4, _, _), (5, _, _)] rfl (KW.then_ ?_))
    refine CW.ret ?_
    refine ret1 Try.results40 rfl (⟨Below.refl _ _, by rw [decide_eq_false (fun h => hup.all (by omega) n h rfl)]⟩)

theorem rwithin_c {w : World} {F G : Nat → Prop} {v u : Value} {a b : List Int} (ha : SL intT F w v a) (hb : SL intT G w u b) : Gives Try.prog 20 #[v, u] w fun x w' => Below w.heap.size w w' ∧ x = .bool (decide (∀ x ∈ a, x ∈ b)) := by
  obtain ⟨A, cap, rfl, _⟩ := ha.form
  obtain ⟨B, bcap, rfl, _⟩ := hb.form
  have hmax := ha.len.2.2
  refine gives_of (vs := [.slice A a.length cap, .slice B b.length bcap]) [(0, none, _), (1, none, _)] Try.func20 rfl Try.ntmps20 rfl rfl ?_
  refine CW.seq (CW.region ?_)
  refine TW.assign rfl rfl rfl ct ?_
  refine TW.nil (KW.pick [0, 1, 4] [(0, _, _), (1, _, _), (4, _, _)] rfl (KW.then_ ?_))
  refine CW.seq (CW.seq (CW.region ?_))
  refine TW.assign rfl rfl rfl ct ?_
  refine TW.nil (KW.pick [0, 1, 4, 5] [(0, _, _), (1, _, _), (4, _, _), (5, _, _)] rfl (KW.then_ ?_))
  refine CW.block ?_
  refine CW.loopS (fun k : Nat => [(0, none, .slice A a.length cap), (1, none, .slice B b.length bcap), (5, none, .int .i64 (k : Int))])
    (fun k W => k ≤ a.length ∧ Below w.heap.size w W ∧ Upto (· ∈ b) a k) (fun k => a.length - k) 0 [0, 1, 5] ⟨by omega, Below.refl _ _, Upto.zero⟩ rfl ?_
  rintro k W ⟨hk, hW, hup⟩
  refine CW.seq (CW.seq (CW.region ?_))
  refine TW.move rfl rfl rfl ct ?_
  refine TW.move rfl rfl rfl ct ?_
  refine TW.lenSlice rfl rfl Try.underlying24 rfl ct ?_
  refine TW.lss rfl rfl rfl ct rfl ct ?_
  refine TW.nil (KW.pick [0, 1, 5, 9] [(0, _, _), (1, _, _), (5, _, _), (9, _, _)] rfl (KW.then_ ?_))
  refine CW.condP rfl (fun hlt => ?_) (fun hge => ?_)
  · obtain ⟨x, hx, hxm⟩ := getx (l := a) (k := k) (by omega)
    obtain ⟨ad, rfl⟩ := ha.addr (by omega)
    refine CW.skip (KW.then_ (CW.seq (CW.block (CW.seq (CW.region ?_)))))
    refine TW.move rfl rfl rfl ct ?_
    refine TW.move rfl rfl rfl ct ?_
    refine TW.move rfl rfl rfl ct ?_
    refine TW.indexAddr rfl rfl Try.underlying24 sz3 rfl ct rfl ct (fun _ => by (try dsimp only); omega) ?_
    refine TW.load rfl rfl one3 rfl ct (fun _ => (ha.below hW).getI hx) ?_
    refine TW.call0 (cap := []) rfl rfl en40 rfl (Args.cons rfl ct (Args.cons rfl ct Args.nil)) (rin_c (hb.below hW)) ?_
    rintro y w1 ⟨hb1, rfl⟩
    refine TW.not rfl rfl rfl ct ?_
    refine TW.nil (KW.pick [0, 1, 5, 18] [(0, _, _), (1, _, _), (5, _, _), (18, _, _)] rfl (KW.then_ ?_))
    refine CW.cond rfl (fun hno => ?_) (fun hyes => ?_)
    · refine CW.seq (CW.region ?_)
      refine TW.assign rfl rfl rfl ct ?_
      refine TW.nil (KW.pick [0, 1, 4, 5] [(0, _, _), (1, _, _), (4, _, _), (5, _, _)] rfl (KW.then_ ?_))
      refine CW.ret (KW.blockR (KW.thenR (KW.thenR (KW.blockR (KW.thenR ?_)))))
      refine ret1 Try.results20 rfl (⟨hW.step hb1, by rw [decide_eq_false (fun h => by have := h x hxm; simp at hno; exact hno this)]⟩)
    refine CW.skip (KW.blockN (KW.then_ (CW.region ?_)))
    refine TW.move rfl rfl rfl ct ?_
    refine TW.add rfl rfl rfl ct rfl ct (fun _ => by (try dsimp only); omega) ?_
    refine TW.assign rfl rfl rfl ct ?_
    refine TW.nil (KW.pick [0, 1, 5] [(0, _, _), (1, _, _), (5, _, _)] rfl ?_)
    refine KW.round (k + 1) [0, 1, 5] rfl ⟨by omega, hW.step hb1, hup.succ hx (by simpa using hyes)⟩ (by omega)
  · refine CW.exit (KW.thenX (KW.thenX (KW.blockX (KW.then_ (CW.seq (CW.region ?_))))))
    refine TW.assign rfl rfl rfl ct ?_
    refine TW.nil (KW.pick [0, 1, 4, 5] [(0, _, _), (1, _, _), (4, _, _), (5, _, _)] rfl (KW.then_ ?_))
    refine CW.ret ?_
    refine ret1 Try.results20 rfl (⟨hW, by rw [decide_eq_true (hup.all (by omega))]⟩)

theorem rsome_c {w : World} {F G : Nat → Prop} {v u : Value} {l : List (List Int)} {a : List Int} (hl : SL (sliceT intT) F w v l) (ha : SL intT G w u a) : Gives Try.prog 23 #[v, u] w fun x w' => Below w.heap.size w w' ∧ x = .bool (decide (∃ b ∈ l, ∀ x ∈ a, x ∈ b)) := by
  obtain ⟨A, cap, rfl, _⟩ := hl.form
  obtain ⟨B, bcap, rfl, _⟩ := ha.form
  have hmax := hl.len.2.2
  refine gives_of (vs := [.slice A l.length cap, .slice B a.length bcap]) [(0, none, _), (1, none, _)] Try.func23 rfl Try.ntmps23 rfl rfl ?_
  refine CW.seq (CW.region ?_)
  refine TW.assign rfl rfl rfl ct ?_
  refine TW.nil (KW.pick [0, 1, 4] [(0, _, _), (1, _, _), (4, _, _)] rfl (KW.then_ ?_))
  refine CW.seq (CW.seq (CW.region ?_))
  refine TW.assign rfl rfl rfl ct ?_
  refine TW.nil (KW.pick [0, 1, 4, 5] [(0, _, _), (1, _, _), (4, _, _), (5, _, _)] rfl (KW.then_ ?_))
  refine CW.block ?_
  refine CW.loopS (fun k : Nat => [(0, none, .slice A l.length cap), (1, none, .slice B a.length bcap), (5, none, .int .i64 (k : Int))])
    (fun k W => k ≤ l.length ∧ Below w.heap.size w W ∧ Upto (fun b => ¬ ∀ x ∈ a, x ∈ b) l k) (fun k => l.length - k) 0 [0, 1, 5] ⟨by omega, Below.refl _ _, Upto.zero⟩ rfl ?_
  rintro k W ⟨hk, hW, hup⟩
  refine CW.seq (CW.seq (CW.region ?_))
  refine TW.move rfl rfl rfl ct ?_
  refine TW.move rfl rfl rfl ct ?_
  refine TW.lenSlice rfl rfl Try.underlying22 rfl ct ?_
  refine TW.lss rfl rfl rfl ct rfl ct ?_
  refine TW.nil (KW.pick [0, 1, 5, 9] [(0, _, _), (1, _, _), (5, _, _), (9, _, _)] rfl (KW.then_ ?_))
  refine CW.condP rfl (fun hlt => ?_) (fun hge => ?_)
  · obtain ⟨b, hx, hxm⟩ := getx (l := l) (k := k) (by omega)
    obtain ⟨ad, rfl⟩ := hl.addr (by omega)
    obtain ⟨rv, hcell, hrow⟩ := (hl.below hW).row hx
    refine CW.skip (KW.then_ (CW.seq (CW.block (CW.seq (CW.region ?_)))))
    refine TW.move rfl rfl rfl ct ?_
    refine TW.move rfl rfl rfl ct ?_
    refine TW.move rfl rfl rfl ct ?_
    refine TW.indexAddr rfl rfl Try.underlying22 sz24 rfl ct rfl ct (fun _ => by (try dsimp only); omega) ?_
    refine TW.load rfl rfl one24 rfl ct (fun _ => hcell) ?_
    refine TW.call0 (cap := []) rfl rfl en20 rfl (Args.cons rfl ct (Args.cons rfl ct Args.nil)) (rwithin_c (ha.below hW) hrow) ?_
    rintro y w1 ⟨hb1, rfl⟩
    refine TW.nil (KW.pick [0, 1, 5, 17] [(0, _, _), (1, _, _), (5, _, _), (17, _, _)] rfl (KW.then_ ?_))
    refine CW.condP rfl (fun hyes => ?_) (fun hno => ?_)
    · refine CW.seq (CW.region ?_)
      refine TW.assign rfl rfl rfl ct ?_
      refine TW.nil (KW.pick [0, 1, 4, 5] [(0, _, _), (1, _, _), (4, _, _), (5, _, _)] rfl (KW.then_ ?_))
      refine CW.ret (KW.blockR (KW.thenR (KW.thenR (KW.blockR (KW.thenR ?_)))))
      refine ret1 Try.results23 rfl (⟨hW.step hb1, by rw [decide_eq_true ⟨b, hxm, hyes⟩]⟩)
    refine CW.skip (KW.blockN (KW.then_ (CW.region ?_)))
    refine TW.move rfl rfl rfl ct ?_
    refine TW.add rfl rfl rfl ct rfl ct (fun _ => by (try dsimp only); omega) ?_
    refine TW.assign rfl rfl rfl ct ?_
    refine TW.nil (KW.pick [0, 1, 5] [(0, _, _), (1, _, _), (5, _, _)] rfl ?_)
    refine KW.round (k + 1) [0, 1, 5] rfl ⟨by omega, hW.step hb1, hup.succ hx hno⟩ (by omega)
  · refine CW.exit (KW.thenX (KW.thenX (KW.blockX (KW.then_ (CW.seq (CW.region ?_))))))
    refine TW.assign rfl rfl rfl ct ?_
    refine TW.nil (KW.pick [0, 1, 4, 5] [(0, _, _), (1, _, _), (4, _, _), (5, _, _)] rfl (KW.then_ ?_))
    refine CW.ret ?_
    refine ret1 Try.results23 rfl (⟨hW, by rw [decide_eq_false (fun ⟨b, hb, h⟩ => hup.all (by omega) b hb h)]⟩)

theorem take_next {α : Type} {l l' : List α} {k : Nat} {x y : α} (h : l.take k = l'.take k) (hx : l[k]? = some x) (hy : l'[k]? = some y) (e : x = y) : l.take (k + 1) = l'.take (k + 1) := by
  rw [List.take_add_one, List.take_add_one, h, hx, hy, e]
theorem take_all {α : Type} {l l' : List α} {k : Nat} (h : l.take k = l'.take k) (hl : l.length = l'.length) (hk : l.length ≤ k) : l = l' := by
  have e1 := List.take_of_length_le (l := l) (i := k) (by omega)
  have e2 := List.take_of_length_le (l := l') (i := k) (by omega)
  rw [← e1, ← e2, h]

theorem rints_c {w : World} {F G : Nat → Prop} {v u : Value} {a b : List Int} (ha : SL intT F w v a) (hb : SL intT G w u b) : Gives Try.prog 35 #[v, u] w fun x w' => Below w.heap.size w w' ∧ x = .bool (decide (a = b)) := by
  obtain ⟨A, cap, rfl, _⟩ := ha.form
  obtain ⟨B, bcap, rfl, _⟩ := hb.form
  have hmax := ha.len.2.2
  refine gives_of (vs := [.slice A a.length cap, .slice B b.length bcap]) [(0, none, _), (1, none, _)] Try.func35 rfl Try.ntmps35 rfl rfl ?_
  refine CW.seq (CW.region ?_)
  refine TW.assign rfl rfl rfl ct ?_
  refine TW.nil (KW.pick [0, 1, 4] [(0, _, _), (1, _, _), (4, _, _)] rfl (KW.then_ ?_))
  refine CW.seq (CW.seq (CW.region ?_))
  refine TW.move rfl rfl rfl ct ?_
  refine TW.lenSlice rfl rfl Try.underlying24 rfl ct ?_
  refine TW.move rfl rfl rfl ct ?_
  refine TW.lenSlice rfl rfl Try.underlying24 rfl ct ?_
  refine TW.neq rfl rfl rfl ct rfl ct ?_
  refine TW.nil (KW.pick [0, 1, 4, 10] [(0, _, _), (1, _, _), (4, _, _), (10, _, _)] rfl (KW.then_ ?_))
  refine CW.condP rfl (fun hne => ?_) (fun heq => ?_)
  · refine CW.seq (CW.region ?_)
    refine TW.assign rfl rfl rfl ct ?_
    refine TW.nil (KW.pick [0, 1, 4] [(0, _, _), (1, _, _), (4, _, _)] rfl (KW.then_ ?_))
    refine CW.ret (KW.thenR ?_)
    refine ret1 Try.results35 rfl (⟨Below.refl _ _, by rw [decide_eq_false (fun e => hne (by rw [e]))]⟩)
  have hlen : a.length = b.length := by omega
  refine CW.skip (KW.then_ (CW.seq (CW.seq (CW.region ?_))))
  refine TW.assign rfl rfl rfl ct ?_
  refine TW.nil (KW.pick [0, 1, 4, 5] [(0, _, _), (1, _, _), (4, _, _), (5, _, _)] rfl (KW.then_ ?_))
  refine CW.block ?_
  refine CW.loopS (fun k : Nat => [(0, none, .slice A a.length cap), (1, none, .slice B b.length bcap), (5, none, .int .i64 (k : Int))])
    (fun k W => k ≤ a.length ∧ Below w.heap.size w W ∧ a.take k = b.take k) (fun k => a.length - k) 0 [0, 1, 5] ⟨by omega, Below.refl _ _, by simp⟩ rfl ?_
  rintro k W ⟨hk, hW, hpre⟩
  refine CW.seq (CW.seq (CW.region ?_))
  refine TW.move rfl rfl rfl ct ?_
  refine TW.move rfl rfl rfl ct ?_
  refine TW.lenSlice rfl rfl Try.underlying24 rfl ct ?_
  refine TW.lss rfl rfl rfl ct rfl ct ?_
  refine TW.nil (KW.pick [0, 1, 5, 14] [(0, _, _), (1, _, _), (5, _, _), (14, _, _)] rfl (KW.then_ ?_))
  refine CW.condP rfl (fun hlt => ?_) (fun hge => ?_)
  · obtain ⟨x, hx, hxm⟩ := getx (l := a) (k := k) (by omega)
    obtain ⟨y, hy, hym⟩ := getx (l := b) (k := k) (by omega)
    obtain ⟨ad, rfl⟩ := ha.addr (by omega)
    obtain ⟨bd, rfl⟩ := hb.addr (by omega)
    refine CW.skip (KW.then_ (CW.seq (CW.block (CW.seq (CW.draw mixed (by kernel_rfl) ?_)))))
    refine DW.move rfl rfl rfl ct ?_
    refine DW.move rfl rfl rfl ct ?_
    refine DW.indexAddr rfl rfl Try.underlying24 sz3 rfl ct rfl ct (fun _ => by (try dsimp only); omega) ?_
    refine DW.load rfl rfl one3 rfl ct (fun _ => (ha.below hW).getI hx) ?_
    refine DW.move rfl rfl rfl ct ?_
    refine DW.move rfl rfl rfl ct ?_
    refine DW.indexAddr rfl rfl Try.underlying24 sz3 rfl ct rfl ct (fun _ => by (try dsimp only); omega) ?_
    refine DW.load rfl rfl one3 rfl ct (fun _ => (hb.below hW).getI hy) ?_
    refine DW.neq rfl rfl rfl ct rfl ct ?_
    refine DW.nil (DW.fin [0, 1, 5, 25] [(0, _, _), (1, _, _), (5, _, _), (25, _, _)] rfl (fun w2 b2 => KW.then_ ?_))
    refine CW.condP rfl (fun hd => ?_) (fun hs => ?_)
    · refine CW.seq (CW.region ?_)
      refine TW.assign rfl rfl rfl ct ?_
      refine TW.nil (KW.pick [0, 1, 4, 5] [(0, _, _), (1, _, _), (4, _, _), (5, _, _)] rfl (KW.then_ ?_))
      refine CW.ret (KW.blockR (KW.thenR (KW.thenR (KW.blockR (KW.thenR ?_)))))
      refine ret1 Try.results35 rfl (⟨hW.step b2, by rw [decide_eq_false (fun e => by subst e; rw [hx] at hy; cases hy; exact hd rfl)]⟩)
    refine CW.skip (KW.blockN (KW.then_ (CW.region ?_)))
    refine TW.move rfl rfl rfl ct ?_
    refine TW.add rfl rfl rfl ct rfl ct (fun _ => by (try dsimp only); omega) ?_
    refine TW.assign rfl rfl rfl ct ?_
    refine TW.nil (KW.pick [0, 1, 5] [(0, _, _), (1, _, _), (5, _, _)] rfl ?_)
    refine KW.round (k + 1) [0, 1, 5] rfl ⟨by omega, hW.step b2, take_next hpre hx hy (by omega)⟩ (by omega)
  · refine CW.exit (KW.thenX (KW.thenX (KW.blockX (KW.then_ (CW.seq (CW.region ?_))))))
    refine TW.assign rfl rfl rfl ct ?_
    refine TW.nil (KW.pick [0, 1, 4, 5] [(0, _, _), (1, _, _), (4, _, _), (5, _, _)] rfl (KW.then_ ?_))
    refine CW.ret ?_
    refine ret1 Try.results35 rfl (⟨hW, by rw [decide_eq_true (take_all hpre hlen (by omega))]⟩)

theorem rsame_c {w : World} {F G : Nat → Prop} {v u : Value} {a b : List (List Int)} (ha : SL (sliceT intT) F w v a) (hb : SL (sliceT intT) G w u b) : Gives Try.prog 14 #[v, u] w fun x w' => Below w.heap.size w w' ∧ x = .bool (decide (a = b)) := by
  obtain ⟨A, cap, rfl, _⟩ := ha.form
  obtain ⟨B, bcap, rfl, _⟩ := hb.form
  have hmax := ha.len.2.2
  refine gives_of (vs := [.slice A a.length cap, .slice B b.length bcap]) [(0, none, _), (1, none, _)] Try.func14 rfl Try.ntmps14 rfl rfl ?_
  refine CW.seq (CW.region ?_)
  refine TW.assign rfl rfl rfl ct ?_
  refine TW.nil (KW.pick [0, 1, 4] [(0, _, _), (1, _, _), (4, _, _)] rfl (KW.then_ ?_))
  refine CW.seq (CW.seq (CW.region ?_))
  refine TW.move rfl rfl rfl ct ?_
  refine TW.lenSlice rfl rfl Try.underlying22 rfl ct ?_
  refine TW.move rfl rfl rfl ct ?_
  refine TW.lenSlice rfl rfl Try.underlying22 rfl ct ?_
  refine TW.neq rfl rfl rfl ct rfl ct ?_
  refine TW.nil (KW.pick [0, 1, 4, 10] [(0, _, _), (1, _, _), (4, _, _), (10, _, _)] rfl (KW.then_ ?_))
  refine CW.condP rfl (fun hne => ?_) (fun heq => ?_)
  · refine CW.seq (CW.region ?_)
    refine TW.assign rfl rfl rfl ct ?_
    refine TW.nil (KW.pick [0, 1, 4] [(0, _, _), (1, _, _), (4, _, _)] rfl (KW.then_ ?_))
    refine CW.ret (KW.thenR ?_)
    refine ret1 Try.results14 rfl (⟨Below.refl _ _, by rw [decide_eq_false (fun e => hne (by rw [e]))]⟩)
  have hlen : a.length = b.length := by omega
  refine CW.skip (KW.then_ (CW.seq (CW.seq (CW.region ?_))))
  refine TW.assign rfl rfl rfl ct ?_
  refine TW.nil (KW.pick [0, 1, 4, 5] [(0, _, _), (1, _, _), (4, _, _), (5, _, _)] rfl (KW.then_ ?_))
  refine CW.block ?_
  refine CW.loopS (fun k : Nat => [(0, none, .slice A a.length cap), (1, none, .slice B b.length bcap), (5, none, .int .i64 (k : Int))])
    (fun k W => k ≤ a.length ∧ Below w.heap.size w W ∧ a.take k = b.take k) (fun k => a.length - k) 0 [0, 1, 5] ⟨by omega, Below.refl _ _, by simp⟩ rfl ?_
  rintro k W ⟨hk, hW, hpre⟩
  refine CW.seq (CW.seq (CW.region ?_))
  refine TW.move rfl rfl rfl ct ?_
  refine TW.move rfl rfl rfl ct ?_
  refine TW.lenSlice rfl rfl Try.underlying22 rfl ct ?_
  refine TW.lss rfl rfl rfl ct rfl ct ?_
  refine TW.nil (KW.pick [0, 1, 5, 14] [(0, _, _), (1, _, _), (5, _, _), (14, _, _)] rfl (KW.then_ ?_))
  refine CW.condP rfl (fun hlt => ?_) (fun hge => ?_)
  · obtain ⟨x, hx, hxm⟩ := getx (l := a) (k := k) (by omega)
    obtain ⟨y, hy, hym⟩ := getx (l := b) (k := k) (by omega)
    obtain ⟨ad, rfl⟩ := ha.addr (by omega)
    obtain ⟨bd, rfl⟩ := hb.addr (by omega)
    obtain ⟨xv, hcx, hrx⟩ := (ha.below hW).row hx
    obtain ⟨yv, hcy, hry⟩ := (hb.below hW).row hy
    refine CW.skip (KW.then_ (CW.seq (CW.block (CW.seq (CW.draw mixed (by kernel_rfl) ?_)))))
    refine DW.move rfl rfl rfl ct ?_
    refine DW.move rfl rfl rfl ct ?_
    refine DW.indexAddr rfl rfl Try.underlying22 sz24 rfl ct rfl ct (fun _ => by (try dsimp only); omega) ?_
    refine DW.load rfl rfl one24 rfl ct (fun _ => hcx) ?_
    refine DW.move rfl rfl rfl ct ?_
    refine DW.move rfl rfl rfl ct ?_
    refine DW.indexAddr rfl rfl Try.underlying22 sz24 rfl ct rfl ct (fun _ => by (try dsimp only); omega) ?_
    refine DW.load rfl rfl one24 rfl ct (fun _ => hcy) ?_
    refine DW.call (.ex (.bool (decide (x = y)))) trivial rfl rfl en35 rfl ct (DArgs.cons rfl ct (DArgs.cons rfl ct DArgs.nil)) (fun _ w' hb' => (rints_c (hrx.below hb') (hry.below hb')).mono fun u w'' ⟨h1, h2⟩ => ⟨h1, h2⟩) ?_
    refine DW.not rfl rfl rfl ct ?_
    refine DW.nil (DW.fin [0, 1, 5, 26] [(0, _, _), (1, _, _), (5, _, _), (26, _, _)] rfl (fun w2 b2 => KW.then_ ?_))
    refine CW.cond rfl (fun hd => ?_) (fun hs => ?_)
    · refine CW.seq (CW.region ?_)
      refine TW.assign rfl rfl rfl ct ?_
      refine TW.nil (KW.pick [0, 1, 4, 5] [(0, _, _), (1, _, _), (4, _, _), (5, _, _)] rfl (KW.then_ ?_))
      refine CW.ret (KW.blockR (KW.thenR (KW.thenR (KW.blockR (KW.thenR ?_)))))
      refine ret1 Try.results14 rfl (⟨hW.step b2, by rw [decide_eq_false (fun e => by subst e; rw [hx] at hy; cases hy; simp at hd)]⟩)
    refine CW.skip (KW.blockN (KW.then_ (CW.region ?_)))
    refine TW.move rfl rfl rfl ct ?_
    refine TW.add rfl rfl rfl ct rfl ct (fun _ => by (try dsimp only); omega) ?_
    refine TW.assign rfl rfl rfl ct ?_
    refine TW.nil (KW.pick [0, 1, 5] [(0, _, _), (1, _, _), (5, _, _)] rfl ?_)
    refine KW.round (k + 1) [0, 1, 5] rfl ⟨by omega, hW.step b2, take_next hpre hx hy (by simpa using hs)⟩ (by omega)
  · refine CW.exit (KW.thenX (KW.thenX (KW.blockX (KW.then_ (CW.seq (CW.region ?_))))))
    refine TW.assign rfl rfl rfl ct ?_
    refine TW.nil (KW.pick [0, 1, 4, 5] [(0, _, _), (1, _, _), (4, _, _), (5, _, _)] rfl (KW.then_ ?_))
    refine CW.ret ?_
    refine ret1 Try.results14 rfl (⟨hW, by rw [decide_eq_true (take_all hpre hlen (by omega))]⟩)
end Go.Proofs.Ytmdjkgkgpkaliaa

namespace Go.Proofs.Ytmdjkgkgpkaliaa
open Go.PF Go.RowKit Go.Ord

set_option maxRecDepth 20000 in
theorem rsameE_c {w : World} {F G : Nat → Prop} {v u : Value} {a b : List Ev} (ha : SL evT F w v a) (hb : SL evT G w u b) : Gives Try.prog 15 #[v, u] w fun x w' => Below w.heap.size w w' ∧ x = .bool (dec (a = b)) := by
  obtain ⟨A, cap, rfl, _⟩ := ha.form
  obtain ⟨B, bcap, rfl, _⟩ := hb.form
  have hmax := ha.len.2.2
  refine gives_of (vs := [.slice A a.length cap, .slice B b.length bcap]) [(0, none, _), (1, none, _)] Try.func15 rfl Try.ntmps15 rfl rfl ?_
  refine CW.seq (CW.region ?_)
  refine TW.assign rfl rfl rfl ct ?_
  refine TW.nil (KW.pick [0, 1, 4] [(0, _, _), (1, _, _), (4, _, _)] rfl (KW.then_ ?_))
  refine CW.seq (CW.seq (CW.region ?_))
  refine TW.move rfl rfl rfl ct ?_
  refine TW.lenSlice rfl rfl Try.underlying23 rfl ct ?_
  refine TW.move rfl rfl rfl ct ?_
  refine TW.lenSlice rfl rfl Try.underlying23 rfl ct ?_
  refine TW.neq rfl rfl rfl ct rfl ct ?_
  refine TW.nil (KW.pick [0, 1, 4, 10] [(0, _, _), (1, _, _), (4, _, _), (10, _, _)] rfl (KW.then_ ?_))
  refine CW.condP rfl (fun hne => ?_) (fun heq => ?_)
  · refine CW.seq (CW.region ?_)
    refine TW.assign rfl rfl rfl ct ?_
    refine TW.nil (KW.pick [0, 1, 4] [(0, _, _), (1, _, _), (4, _, _)] rfl (KW.then_ ?_))
    refine CW.ret (KW.thenR ?_)
    refine ret1 Try.results15 rfl (⟨Below.refl _ _, by rw [dec_neg (fun e => hne (by rw [e]))]⟩)
  have hlen : a.length = b.length := by omega
  refine CW.skip (KW.then_ (CW.seq (CW.seq (CW.region ?_))))
  refine TW.assign rfl rfl rfl ct ?_
  refine TW.nil (KW.pick [0, 1, 4, 5] [(0, _, _), (1, _, _), (4, _, _), (5, _, _)] rfl (KW.then_ ?_))
  refine CW.block ?_
  refine CW.loopS (fun k : Nat => [(0, none, .slice A a.length cap), (1, none, .slice B b.length bcap), (5, none, .int .i64 (k : Int))])
    (fun k W => k ≤ a.length ∧ Below w.heap.size w W ∧ a.take k = b.take k) (fun k => a.length - k) 0 [0, 1, 5] ⟨by omega, Below.refl _ _, by simp⟩ rfl ?_
  rintro k W ⟨hk, hW, hpre⟩
  refine CW.seq (CW.seq (CW.region ?_))
  refine TW.move rfl rfl rfl ct ?_
  refine TW.move rfl rfl rfl ct ?_
  refine TW.lenSlice rfl rfl Try.underlying23 rfl ct ?_
  refine TW.lss rfl rfl rfl ct rfl ct ?_
  refine TW.nil (KW.pick [0, 1, 5, 14] [(0, _, _), (1, _, _), (5, _, _), (14, _, _)] rfl (KW.then_ ?_))
  refine CW.condP rfl (fun hlt => ?_) (fun hge => ?_)
  · obtain ⟨x, hx, hxm⟩ := getx (l := a) (k := k) (by omega)
    obtain ⟨y, hy, hym⟩ := getx (l := b) (k := k) (by omega)
    obtain ⟨ad, rfl⟩ := ha.addr (by omega)
    obtain ⟨bd, rfl⟩ := hb.addr (by omega)
    obtain ⟨nx, cx, _, _, _, hnx⟩ := SE.get (ha.below hW) hx
    obtain ⟨ny, cy, _, _, _, hny⟩ := SE.get (hb.below hW) hy
    refine CW.skip (KW.then_ (CW.seq (CW.block (CW.seq (CW.draw mixed (by kernel_rfl) ?_)))))
    refine DW.move rfl rfl rfl ct ?_
    refine DW.move rfl rfl rfl ct ?_
    refine DW.indexAddr rfl rfl Try.underlying23 sz43 rfl ct rfl ct (fun _ => by (try dsimp only); omega) ?_
    refine DW.fieldAddr rfl rfl fo43_0 rfl ct ?_
    refine DW.load rfl rfl one3 rfl ct (fun _ => cx 0 _ rfl) ?_
    refine DW.move rfl rfl rfl ct ?_
    refine DW.move rfl rfl rfl ct ?_
    refine DW.indexAddr rfl rfl Try.underlying23 sz43 rfl ct rfl ct (fun _ => by (try dsimp only); omega) ?_
    refine DW.fieldAddr rfl rfl fo43_0 rfl ct ?_
    refine DW.load rfl rfl one3 rfl ct (fun _ => cy 0 _ rfl) ?_
    refine DW.neq rfl rfl rfl ct rfl ct ?_
    refine DW.move rfl rfl rfl ct ?_
    refine DW.move rfl rfl rfl ct ?_
    refine DW.move rfl rfl rfl ct ?_
    refine DW.indexAddr rfl rfl Try.underlying23 sz43 rfl id rfl id (fun h => by (try dsimp only); first | omega | (simp [Cnd] at h; omega)) ?_
    refine DW.fieldAddr rfl rfl fo43_1 rfl id ?_
    refine DW.load rfl rfl one3 rfl id (fun _ => cx 1 _ rfl) ?_
    refine DW.move rfl rfl rfl ct ?_
    refine DW.move rfl rfl rfl ct ?_
    refine DW.indexAddr rfl rfl Try.underlying23 sz43 rfl id rfl id (fun h => by (try dsimp only); first | omega | (simp [Cnd] at h; omega)) ?_
    refine DW.fieldAddr rfl rfl fo43_1 rfl id ?_
    refine DW.load rfl rfl one3 rfl id (fun _ => cy 1 _ rfl) ?_
    refine DW.neq rfl rfl rfl id rfl id ?_
    refine DW.pickOr rfl rfl rfl ct rfl pOr0 ?_
    refine DW.move rfl rfl rfl ct ?_
    refine DW.move rfl rfl rfl ct ?_
    refine DW.move rfl rfl rfl ct ?_
    refine DW.indexAddr rfl rfl Try.underlying23 sz43 rfl id rfl id (fun h => by (try dsimp only); first | omega | (simp [Cnd] at h; omega)) ?_
    refine DW.fieldAddr rfl rfl fo43_2 rfl id ?_
    refine DW.load rfl rfl one3 rfl id (fun _ => cx 2 _ rfl) ?_
    refine DW.move rfl rfl rfl ct ?_
    refine DW.move rfl rfl rfl ct ?_
    refine DW.indexAddr rfl rfl Try.underlying23 sz43 rfl id rfl id (fun h => by (try dsimp only); first | omega | (simp [Cnd] at h; omega)) ?_
    refine DW.fieldAddr rfl rfl fo43_2 rfl id ?_
    refine DW.load rfl rfl one3 rfl id (fun _ => cy 2 _ rfl) ?_
    refine DW.neq rfl rfl rfl id rfl id ?_
    refine DW.pickOr rfl rfl rfl ct rfl pOr0 ?_
    refine DW.move rfl rfl rfl ct ?_
    refine DW.move rfl rfl rfl ct ?_
    refine DW.move rfl rfl rfl ct ?_
    refine DW.indexAddr rfl rfl Try.underlying23 sz43 rfl id rfl id (fun h => by (try dsimp only); first | omega | (simp [Cnd] at h; omega)) ?_
    refine DW.fieldAddr rfl rfl fo43_3 rfl id ?_
    refine DW.load rfl rfl one24 rfl id (fun _ => cx 3 _ rfl) ?_
    refine DW.move rfl rfl rfl ct ?_
    refine DW.move rfl rfl rfl ct ?_
    refine DW.indexAddr rfl rfl Try.underlying23 sz43 rfl id rfl id (fun h => by (try dsimp only); first | omega | (simp [Cnd] at h; omega)) ?_
    refine DW.fieldAddr rfl rfl fo43_3 rfl id ?_
    refine DW.load rfl rfl one24 rfl id (fun _ => cy 3 _ rfl) ?_
    refine DW.call (.ex (.bool (decide (x.needs = y.needs)))) trivial rfl rfl en35 rfl ct (DArgs.cons rfl id (DArgs.cons rfl id DArgs.nil)) (fun _ w' hb' => (rints_c (hnx.below hb') (hny.below hb')).mono fun u w'' ⟨h1, h2⟩ => ⟨h1, h2⟩) ?_
    refine DW.not rfl rfl rfl id ?_
    refine DW.pickOr rfl rfl rfl ct rfl pOr0 ?_
    refine DW.nil (DW.fin [0, 1, 5, 67] [(0, _, _), (1, _, _), (5, _, _), (67, _, _)] rfl (fun w2 b2 => KW.then_ ?_))
    refine CW.cond rfl (fun hd => ?_) (fun hs => ?_)
    · refine CW.seq (CW.region ?_)
      refine TW.assign rfl rfl rfl ct ?_
      refine TW.nil (KW.pick [0, 1, 4, 5] [(0, _, _), (1, _, _), (4, _, _), (5, _, _)] rfl (KW.then_ ?_))
      refine CW.ret (KW.blockR (KW.thenR (KW.thenR (KW.blockR (KW.thenR ?_)))))
      refine ret1 Try.results15 rfl (⟨hW.step b2, by rw [dec_neg (fun e => by subst e; rw [hx] at hy; cases hy; simp at hd)]⟩)
    refine CW.skip (KW.blockN (KW.then_ (CW.region ?_)))
    refine TW.move rfl rfl rfl ct ?_
    refine TW.add rfl rfl rfl ct rfl ct (fun _ => by (try dsimp only); omega) ?_
    refine TW.assign rfl rfl rfl ct ?_
    refine TW.nil (KW.pick [0, 1, 5] [(0, _, _), (1, _, _), (5, _, _)] rfl ?_)
    have hxy : x = y := by
      obtain ⟨x1, x2, x3, x4⟩ := x
      obtain ⟨y1, y2, y3, y4⟩ := y
      simp at hs
      obtain ⟨⟨⟨h1, h2⟩, h3⟩, h4⟩ := hs
      subst h1 h2 h3 h4
      rfl
    refine KW.round (k + 1) [0, 1, 5] rfl ⟨by omega, hW.step b2, take_next hpre hx hy hxy⟩ (by omega)
  · refine CW.exit (KW.thenX (KW.thenX (KW.blockX (KW.then_ (CW.seq (CW.region ?_))))))
    refine TW.assign rfl rfl rfl ct ?_
    refine TW.nil (KW.pick [0, 1, 4, 5] [(0, _, _), (1, _, _), (4, _, _), (5, _, _)] rfl (KW.then_ ?_))
    refine CW.ret ?_
    refine ret1 Try.results15 rfl (⟨hW, by rw [dec_pos (take_all hpre hlen (by omega))]⟩)

structure FewD (d : Dist) (l : List Ev) (o m : Int) : Prop where
  d1 : (d.length : Int) ≤ o
  l1 : (l.length : Int) ≤ m
  r1 : ∀ r ∈ d, (r.length : Int) ≤ o

theorem rfew27_c {w : World} {F G : Nat → Prop} {v u : Value} {d : Dist} {l : List Ev} {o m : Int} (hd : SL (sliceT intT) F w v d) (hl : SL evT G w u l) : Gives Try.prog 29 #[v, u, .int .i64 o, .int .i64 m] w fun x w' => Below w.heap.size w w' ∧ x = .bool (dec (FewD d l o m)) := by
  obtain ⟨A, cap, rfl, _⟩ := hd.form
  obtain ⟨B, bcap, rfl, _⟩ := hl.form
  have hmax : d.length ≤ 9223372036854775807 := hd.len.2.2
  refine gives_of (vs := [.slice A d.length cap, .slice B l.length bcap, .int .i64 o, .int .i64 m]) [(0, none, _), (1, none, _), (2, none, _), (3, none, _)] Try.func29 rfl Try.ntmps29 rfl rfl ?_
  refine CW.seq (CW.region ?_)
  refine TW.assign rfl rfl rfl ct ?_
  refine TW.nil (KW.pick [0, 1, 2, 3, 8] [(0, _, _), (1, _, _), (2, _, _), (3, _, _), (8, _, _)] rfl (KW.then_ ?_))
  refine CW.seq (CW.seq (CW.region ?_))
  refine TW.move rfl rfl rfl ct ?_
  refine TW.lenSlice rfl rfl Try.underlying22 rfl ct ?_
  refine TW.move rfl rfl rfl ct ?_
  refine TW.gtr rfl rfl rfl ct rfl ct ?_
  refine TW.move rfl rfl rfl ct ?_
  refine TW.move rfl rfl rfl ct ?_
  refine TW.lenSlice rfl rfl Try.underlying23 rfl id ?_
  refine TW.move rfl rfl rfl ct ?_
  refine TW.gtr rfl rfl rfl id rfl id ?_
  refine TW.pickOr rfl rfl rfl ct rfl pOr0 ?_
  refine TW.nil (KW.pick [0, 1, 2, 3, 8, 19] [(0, _, _), (1, _, _), (2, _, _), (3, _, _), (8, _, _), (19, _, _)] rfl (KW.then_ ?_))
  refine CW.cond rfl (fun hbad => ?_) (fun hgood => ?_)
  · refine CW.seq (CW.region ?_)
    refine TW.assign rfl rfl rfl ct ?_
    refine TW.nil (KW.pick [0, 1, 2, 3, 8] [(0, _, _), (1, _, _), (2, _, _), (3, _, _), (8, _, _)] rfl (KW.then_ ?_))
    refine CW.ret (KW.thenR ?_)
    refine ret1 Try.results29 rfl (⟨Below.refl _ _, by rw [dec_neg (fun h => by have := h.d1; have := h.l1; simp at hbad; omega)]⟩)
  have hg : (d.length : Int) ≤ o ∧ (l.length : Int) ≤ m := by simp at hgood; omega
  refine CW.skip (KW.then_ (CW.seq (CW.seq (CW.region ?_))))
  refine TW.assign rfl rfl rfl ct ?_
  refine TW.nil (KW.pick [0, 1, 2, 3, 8, 9] [(0, _, _), (1, _, _), (2, _, _), (3, _, _), (8, _, _), (9, _, _)] rfl (KW.then_ ?_))
  refine CW.block ?_
  refine CW.loopS (fun k : Nat => [(0, none, .slice A d.length cap), (2, none, .int .i64 o), (9, none, .int .i64 (k : Int))])
    (fun k W => k ≤ d.length ∧ W = w ∧ Upto (fun r : List Int => (r.length : Int) ≤ o) d k) (fun k => d.length - k) 0 [0, 2, 9] ⟨by omega, rfl, Upto.zero⟩ rfl ?_
  rintro k W ⟨hk, rfl, hup⟩
  refine CW.seq (CW.seq (CW.region ?_))
  refine TW.move rfl rfl rfl ct ?_
  refine TW.move rfl rfl rfl ct ?_
  refine TW.lenSlice rfl rfl Try.underlying22 rfl ct ?_
  refine TW.lss rfl rfl rfl ct rfl ct ?_
  refine TW.nil (KW.pick [0, 2, 9, 23] [(0, _, _), (2, _, _), (9, _, _), (23, _, _)] rfl (KW.then_ ?_))
  refine CW.condP rfl (fun hlt => ?_) (fun hge => ?_)
  · obtain ⟨x, hx, hxm⟩ := getx (l := d) (k := k) (by omega)
    obtain ⟨ad, rfl⟩ := hd.addr (by omega)
    obtain ⟨rv, hcell, hrow⟩ := hd.row hx
    obtain ⟨C, ccap, rfl, _⟩ := hrow.form
    refine CW.skip (KW.then_ (CW.seq (CW.block (CW.seq (CW.region ?_)))))
    refine TW.move rfl rfl rfl ct ?_
    refine TW.move rfl rfl rfl ct ?_
    refine TW.indexAddr rfl rfl Try.underlying22 sz24 rfl ct rfl ct (fun _ => by (try dsimp only); omega) ?_
    refine TW.load rfl rfl one24 rfl ct (fun _ => hcell) ?_
    refine TW.lenSlice rfl rfl Try.underlying24 rfl ct ?_
    refine TW.move rfl rfl rfl ct ?_
    refine TW.gtr rfl rfl rfl ct rfl ct ?_
    refine TW.nil (KW.pick [0, 2, 9, 32] [(0, _, _), (2, _, _), (9, _, _), (32, _, _)] rfl (KW.then_ ?_))
    refine CW.condP rfl (fun he => ?_) (fun hn => ?_)
    · refine CW.seq (CW.region ?_)
      refine TW.assign rfl rfl rfl ct ?_
      refine TW.nil (KW.pick [0, 2, 8, 9] [(0, _, _), (2, _, _), (8, _, _), (9, _, _)] rfl (KW.then_ ?_))
      refine CW.ret (KW.blockR (KW.thenR (KW.thenR (KW.blockR (KW.thenR ?_)))))
      refine ret1 Try.results29 rfl (⟨Below.refl _ _, by rw [dec_neg (fun h => by have := h.r1 x hxm; omega)]⟩)
    refine CW.skip (KW.blockN (KW.then_ (CW.region ?_)))
    refine TW.move rfl rfl rfl ct ?_
    refine TW.add rfl rfl rfl ct rfl ct (fun _ => by (try dsimp only); omega) ?_
    refine TW.assign rfl rfl rfl ct ?_
    refine TW.nil (KW.pick [0, 2, 9] [(0, _, _), (2, _, _), (9, _, _)] rfl ?_)
    refine KW.round (k + 1) [0, 2, 9] rfl ⟨by omega, rfl, hup.succ hx (by omega)⟩ (by omega)
  · refine CW.exit (KW.thenX (KW.thenX (KW.blockX (KW.then_ (CW.seq (CW.region ?_))))))
    refine TW.assign rfl rfl rfl ct ?_
    refine TW.nil (KW.pick [0, 2, 8, 9] [(0, _, _), (2, _, _), (8, _, _), (9, _, _)] rfl (KW.then_ ?_))
    refine CW.ret ?_
    refine ret1 Try.results29 rfl (⟨Below.refl _ _, by rw [dec_pos ⟨hg.1, hg.2, hup.all (by omega)⟩]⟩)

structure FewP (d : Dist) (l : List Ev) : Prop where
  fd : FewD d l 5 8
  nd : ∀ e ∈ l, e.needs.length ≤ 6

theorem rfew28_c {w : World} {F G : Nat → Prop} {v u : Value} {d : Dist} {l : List Ev} (hd : SL (sliceT intT) F w v d) (hl : SL evT G w u l) : Gives Try.prog 11 #[v, u] w fun x w' => Below w.heap.size w w' ∧ x = .bool (dec (FewP d l)) := by
  obtain ⟨A, cap, rfl, _⟩ := hd.form
  obtain ⟨B, bcap, rfl, _⟩ := hl.form
  have hmax : l.length ≤ 9223372036854775807 := hl.len.2.2
  refine gives_of (vs := [.slice A d.length cap, .slice B l.length bcap]) [(0, none, _), (1, none, _)] Try.func11 rfl Try.ntmps11 rfl rfl ?_
  refine CW.seq (CW.region ?_)
  refine TW.assign rfl rfl rfl ct ?_
  refine TW.nil (KW.pick [0, 1, 4] [(0, _, _), (1, _, _), (4, _, _)] rfl (KW.then_ ?_))
  refine CW.seq (CW.seq (CW.region ?_))
  refine TW.assign rfl rfl rfl ct ?_
  refine TW.nil (KW.pick [0, 1, 4, 5] [(0, _, _), (1, _, _), (4, _, _), (5, _, _)] rfl (KW.then_ ?_))
  refine CW.block ?_
  refine CW.loopS (fun k : Nat => [(0, none, .slice A d.length cap), (1, none, .slice B l.length bcap), (5, none, .int .i64 (k : Int))])
    (fun k W => k ≤ l.length ∧ W = w ∧ Upto (fun e : Ev => e.needs.length ≤ 6) l k) (fun k => l.length - k) 0 [0, 1, 5] ⟨by omega, rfl, Upto.zero⟩ rfl ?_
  rintro k W ⟨hk, rfl, hup⟩
  refine CW.seq (CW.seq (CW.region ?_))
  refine TW.move rfl rfl rfl ct ?_
  refine TW.move rfl rfl rfl ct ?_
  refine TW.lenSlice rfl rfl Try.underlying23 rfl ct ?_
  refine TW.lss rfl rfl rfl ct rfl ct ?_
  refine TW.nil (KW.pick [0, 1, 5, 9] [(0, _, _), (1, _, _), (5, _, _), (9, _, _)] rfl (KW.then_ ?_))
  refine CW.condP rfl (fun hlt => ?_) (fun hge => ?_)
  · obtain ⟨x, hx, hxm⟩ := getx (l := l) (k := k) (by omega)
    obtain ⟨ad, rfl⟩ := hl.addr (by omega)
    obtain ⟨nx, cx, _, _, _, hnx⟩ := SE.get hl hx
    obtain ⟨C, ccap, rfl, _⟩ := hnx.form
    refine CW.skip (KW.then_ (CW.seq (CW.block (CW.seq (CW.region ?_)))))
    refine TW.move rfl rfl rfl ct ?_
    refine TW.move rfl rfl rfl ct ?_
    refine TW.indexAddr rfl rfl Try.underlying23 sz43 rfl ct rfl ct (fun _ => by (try dsimp only); omega) ?_
    refine TW.fieldAddr rfl rfl fo43_3 rfl ct ?_
    refine TW.load rfl rfl one24 rfl ct (fun _ => cx 3 _ rfl) ?_
    refine TW.lenSlice rfl rfl Try.underlying24 rfl ct ?_
    refine TW.gtr rfl rfl rfl ct rfl ct ?_
    refine TW.nil (KW.pick [0, 1, 5, 18] [(0, _, _), (1, _, _), (5, _, _), (18, _, _)] rfl (KW.then_ ?_))
    refine CW.condP rfl (fun he => ?_) (fun hn => ?_)
    · refine CW.seq (CW.region ?_)
      refine TW.assign rfl rfl rfl ct ?_
      refine TW.nil (KW.pick [0, 1, 4, 5] [(0, _, _), (1, _, _), (4, _, _), (5, _, _)] rfl (KW.then_ ?_))
      refine CW.ret (KW.blockR (KW.thenR (KW.thenR (KW.blockR (KW.thenR ?_)))))
      refine ret1 Try.results11 rfl (⟨Below.refl _ _, by rw [dec_neg (fun h => by have := h.nd x hxm; omega)]⟩)
    refine CW.skip (KW.blockN (KW.then_ (CW.region ?_)))
    refine TW.move rfl rfl rfl ct ?_
    refine TW.add rfl rfl rfl ct rfl ct (fun _ => by (try dsimp only); omega) ?_
    refine TW.assign rfl rfl rfl ct ?_
    refine TW.nil (KW.pick [0, 1, 5] [(0, _, _), (1, _, _), (5, _, _)] rfl ?_)
    refine KW.round (k + 1) [0, 1, 5] rfl ⟨by omega, rfl, hup.succ hx (by omega)⟩ (by omega)
  · refine CW.exit (KW.thenX (KW.thenX (KW.blockX (KW.then_ (CW.seq (CW.region ?_))))))
    refine TW.move rfl rfl rfl ct ?_
    refine TW.move rfl rfl rfl ct ?_
    refine TW.call0 (cap := []) rfl rfl en29 rfl (Args.cons rfl ct (Args.cons rfl ct (Args.cons rfl ct (Args.cons rfl ct Args.nil)))) (rfew27_c hd hl) ?_
    rintro y w1 ⟨hb1, rfl⟩
    refine TW.assign rfl rfl rfl ct ?_
    refine TW.nil (KW.pick [0, 1, 4, 5] [(0, _, _), (1, _, _), (4, _, _), (5, _, _)] rfl (KW.then_ ?_))
    refine CW.ret ?_
    refine ret1 Try.results11 rfl (⟨hb1, by rw [dec_congr (show FewD d l 5 8 ↔ FewP d l from ⟨fun h => ⟨h, hup.all (by omega)⟩, fun h => h.fd⟩)]⟩)

theorem rvalid27_c {w : World} {v u : Value} {d : Dist} {l : List Ev} (hd : SD w v d) (hl : SE w u l) : Gives Try.prog 49 #[v, u, .slice none 0 0] w fun x w' => Below w.heap.size w w' ∧ x = .bool (dec (WfE d l)) := by
  obtain ⟨A, cap, rfl, _⟩ := hd.form
  obtain ⟨B, bcap, rfl, _⟩ := hl.form
  have hmax : l.length ≤ 9223372036854775807 := hl.len.2.2
  refine gives_of (vs := [.slice A d.length cap, .slice B l.length bcap, .slice none 0 0]) [(0, none, _), (1, none, _), (2, none, _)] Try.func49 rfl Try.ntmps49 rfl rfl ?_
  refine CW.seq (CW.region ?_)
  refine TW.assign rfl rfl rfl ct ?_
  refine TW.nil (KW.pick [0, 1, 2, 6] [(0, _, _), (1, _, _), (2, _, _), (6, _, _)] rfl (KW.then_ ?_))
  refine CW.seq (CW.seq (CW.region ?_))
  refine TW.move rfl rfl rfl ct ?_
  refine TW.call0 (cap := []) rfl rfl en68 rfl (Args.cons rfl ct Args.nil) (rdistances_c hd) ?_
  rintro y w1 ⟨hb1, rfl⟩
  refine TW.not rfl rfl rfl ct ?_
  refine TW.move rfl rfl rfl ct ?_
  refine TW.move rfl rfl rfl ct ?_
  refine TW.lenSlice rfl rfl Try.underlying23 rfl id ?_
  refine TW.gtr rfl rfl rfl id rfl ct ?_
  refine TW.pickOr rfl rfl rfl ct rfl pOr0 ?_
  refine TW.nil (KW.pick [0, 1, 2, 6, 18] [(0, _, _), (1, _, _), (2, _, _), (6, _, _), (18, _, _)] rfl (KW.then_ ?_))
  refine CW.cond rfl (fun hbad => ?_) (fun hgood => ?_)
  · refine CW.seq (CW.region ?_)
    refine TW.assign rfl rfl rfl ct ?_
    refine TW.nil (KW.pick [0, 1, 2, 6] [(0, _, _), (1, _, _), (2, _, _), (6, _, _)] rfl (KW.then_ ?_))
    refine CW.ret (KW.thenR ?_)
    refine ret1 Try.results49 rfl (⟨hb1, by rw [dec_neg (fun h => by simp [dec_pos h.wd] at hbad; have := h.few; omega)]⟩)
  have hwd : WfD d := dec_iff.1 (by cases hq : dec (WfD d) <;> simp_all)
  have hfew : l.length ≤ 16 := by simp [dec_pos hwd] at hgood; omega
  refine CW.skip (KW.then_ (CW.seq (CW.region ?_)))
  refine TW.move rfl rfl rfl ct ?_
  refine TW.lenSlice rfl rfl Try.underlying23 rfl ct ?_
  refine TW.makeSlice rfl rfl (zero1_of go94 ze4 rfl) rfl rfl (by omega) (by omega) ?_
  rintro g2 w2 f2
  refine TW.assign rfl rfl rfl ct ?_
  refine TW.nil (KW.pick [0, 1, 2, 6, 7] [(0, _, _), (1, _, _), (2, _, _), (6, _, _), (7, _, _)] rfl (KW.then_ ?_))
  refine CW.seq (CW.seq (CW.region ?_))
  refine TW.assign rfl rfl rfl ct ?_
  refine TW.nil (KW.pick [0, 1, 2, 6, 7, 8] [(0, _, _), (1, _, _), (2, _, _), (6, _, _), (7, _, _), (8, _, _)] rfl (KW.then_ ?_))
  refine CW.block ?_
  have hb02 := hb1.step f2.below
  refine CW.loopS (fun k : Nat => [(0, none, .slice A d.length cap), (1, none, .slice B l.length bcap), (2, none, .slice none 0 0), (8, none, .int .i64 (k : Int))])
    (fun k W => k ≤ l.length ∧ W = w2 ∧ Upto (EOK d) l k) (fun k => l.length - k) 0 [0, 1, 2, 8] ⟨by omega, rfl, Upto.zero⟩ rfl ?_
  rintro k W ⟨hk, rfl, hup⟩
  have hl2 := hl.below hb02
  refine CW.seq (CW.seq (CW.region ?_))
  refine TW.move rfl rfl rfl ct ?_
  refine TW.move rfl rfl rfl ct ?_
  refine TW.lenSlice rfl rfl Try.underlying23 rfl ct ?_
  refine TW.lss rfl rfl rfl ct rfl ct ?_
  refine TW.nil (KW.pick [0, 1, 2, 8, 25] [(0, _, _), (1, _, _), (2, _, _), (8, _, _), (25, _, _)] rfl (KW.then_ ?_))
  refine CW.condP rfl (fun hlt => ?_) (fun hge => ?_)
  · obtain ⟨x, hx, hxm⟩ := getx (l := l) (k := k) (by omega)
    obtain ⟨ad, rfl⟩ := hl2.addr (by omega)
    obtain ⟨nx, cx, _, _, _, hnx⟩ := SE.get hl2 hx
    refine CW.skip (KW.then_ (CW.seq (CW.block (CW.seq (CW.region ?_)))))
    refine TW.move rfl rfl rfl ct ?_
    refine TW.move rfl rfl rfl ct ?_
    refine TW.indexAddr rfl rfl Try.underlying23 sz43 rfl ct rfl ct (fun _ => by (try dsimp only); omega) ?_
    refine TW.fieldAddr rfl rfl fo43_0 rfl ct ?_
    refine TW.load rfl rfl one3 rfl ct (fun _ => cx 0 _ rfl) ?_
    refine TW.lss rfl rfl rfl ct rfl ct ?_
    refine TW.move rfl rfl rfl ct ?_
    refine TW.move rfl rfl rfl ct ?_
    refine TW.move rfl rfl rfl ct ?_
    refine TW.indexAddr rfl rfl Try.underlying23 sz43 rfl id rfl id (fun h => by (try dsimp only); first | omega | (simp [Cnd] at h; omega)) ?_
    refine TW.fieldAddr rfl rfl fo43_0 rfl id ?_
    refine TW.load rfl rfl one3 rfl id (fun _ => cx 0 _ rfl) ?_
    refine TW.move rfl rfl rfl ct ?_
    refine TW.lenSlice rfl rfl Try.underlying22 rfl id ?_
    refine TW.geq rfl rfl rfl id rfl id ?_
    refine TW.pickOr rfl rfl rfl ct rfl pOr0 ?_
    refine TW.nil (KW.pick [0, 1, 2, 8, 43] [(0, _, _), (1, _, _), (2, _, _), (8, _, _), (43, _, _)] rfl (KW.then_ ?_))
    refine CW.cond rfl (fun he => ?_) (fun hn => ?_)
    · refine CW.seq (CW.region ?_)
      refine TW.assign rfl rfl rfl ct ?_
      refine TW.nil (KW.pick [0, 1, 2, 6, 8] [(0, _, _), (1, _, _), (2, _, _), (6, _, _), (8, _, _)] rfl (KW.then_ ?_))
      refine CW.ret (KW.blockR (KW.thenR (KW.thenR (KW.blockR (KW.thenR ?_)))))
      refine ret1 Try.results49 rfl (⟨hb02, by rw [dec_neg (fun h => by have h1 := (h.each x hxm).o1; have h2 := (h.each x hxm).o2; simp at he; omega)]⟩)
    refine CW.skip (KW.blockN (KW.then_ (CW.region ?_)))
    refine TW.move rfl rfl rfl ct ?_
    refine TW.add rfl rfl rfl ct rfl ct (fun _ => by (try dsimp only); omega) ?_
    refine TW.assign rfl rfl rfl ct ?_
    refine TW.nil (KW.pick [0, 1, 2, 8] [(0, _, _), (1, _, _), (2, _, _), (8, _, _)] rfl ?_)
    refine KW.round (k + 1) [0, 1, 2, 8] rfl ⟨by omega, rfl, hup.succ hx (by simp at hn; exact ⟨by omega, by omega⟩)⟩ (by omega)
  · refine CW.exit (KW.thenX (KW.thenX (KW.blockX (KW.then_ (CW.seq (CW.seq (CW.region ?_)))))))
    refine TW.assign rfl rfl rfl ct ?_
    refine TW.nil (KW.pick [0, 1, 2, 8, 9] [(0, _, _), (1, _, _), (2, _, _), (8, _, _), (9, _, _)] rfl (KW.then_ ?_))
    refine CW.block ?_
    refine CW.loopS (fun _ : Unit => [(2, none, .slice none 0 0), (9, none, .int .i64 0)]) (fun _ W' => W' = W) (fun k => 0) () [2, 9] rfl rfl ?_
    rintro _ W' rfl
    refine CW.seq (CW.seq (CW.region ?_))
    refine TW.move rfl rfl rfl ct ?_
    refine TW.move rfl rfl rfl ct ?_
    refine TW.lenSlice rfl rfl Try.underlying61 rfl ct ?_
    refine TW.lss rfl rfl rfl ct rfl ct ?_
    refine TW.nil (KW.pick [2, 9, 47] [(2, _, _), (9, _, _), (47, _, _)] rfl (KW.then_ ?_))
    refine CW.condP rfl (fun hlt2 => ?_) (fun hge2 => ?_)
    · exfalso
      omega
    · refine CW.exit (KW.thenX (KW.thenX (KW.blockX (KW.then_ (CW.seq (CW.region ?_))))))
      refine TW.assign rfl rfl rfl ct ?_
      refine TW.nil (KW.pick [2, 6, 9] [(2, _, _), (6, _, _), (9, _, _)] rfl (KW.then_ ?_))
      refine CW.ret ?_
      refine ret1 Try.results49 rfl (⟨hb02, by rw [dec_pos ⟨hwd, hfew, hup.all (by omega)⟩]⟩)

theorem rvalid28_c {w : World} {v u : Value} {d : Dist} {l : List Ev} (hd : SD w v d) (hl : SE w u l) : Gives Try.prog 25 #[v, u] w fun x w' => Below w.heap.size w w' ∧ x = .bool (dec (WfP d l)) := by
  obtain ⟨A, cap, rfl, _⟩ := hd.form
  obtain ⟨B, bcap, rfl, _⟩ := hl.form
  have hmax : l.length ≤ 9223372036854775807 := hl.len.2.2
  refine gives_of (vs := [.slice A d.length cap, .slice B l.length bcap]) [(0, none, _), (1, none, _)] Try.func25 rfl Try.ntmps25 rfl rfl ?_
  refine CW.seq (CW.region ?_)
  refine TW.assign rfl rfl rfl ct ?_
  refine TW.nil (KW.pick [0, 1, 4] [(0, _, _), (1, _, _), (4, _, _)] rfl (KW.then_ ?_))
  refine CW.seq (CW.seq (CW.region ?_))
  refine TW.move rfl rfl rfl ct ?_
  refine TW.lenSlice rfl rfl Try.underlying23 rfl ct ?_
  refine TW.gtr rfl rfl rfl ct rfl ct ?_
  refine TW.move rfl rfl rfl ct ?_
  refine TW.move rfl rfl rfl ct ?_
  refine TW.move rfl rfl rfl ct ?_
  refine TW.callF (cap := []) rfl rfl en49 rfl ct (Args.cons rfl id (Args.cons rfl id (Args.cons rfl ct Args.nil))) (fun _ => rvalid27_c hd hl) ?_
  rintro w1 hb1
  refine TW.not rfl rfl rfl id ?_
  refine TW.pickOr rfl rfl rfl ct rfl pOr0 ?_
  refine TW.nil (KW.pick [0, 1, 4, 15] [(0, _, _), (1, _, _), (4, _, _), (15, _, _)] rfl (KW.then_ ?_))
  refine CW.cond rfl (fun hbad => ?_) (fun hgood => ?_)
  · refine CW.seq (CW.region ?_)
    refine TW.assign rfl rfl rfl ct ?_
    refine TW.nil (KW.pick [0, 1, 4] [(0, _, _), (1, _, _), (4, _, _)] rfl (KW.then_ ?_))
    refine CW.ret (KW.thenR ?_)
    refine ret1 Try.results25 rfl (⟨hb1, by rw [dec_neg (fun h => by simp [dec_pos h.wfe] at hbad; have := h.few; omega)]⟩)
  have hfew : l.length ≤ 14 := by simp at hgood; omega
  have hwe : WfE d l := by
    simp at hgood
    exact dec_iff.1 (by simpa using hgood.2)
  refine CW.skip (KW.then_ (CW.seq (CW.seq (CW.region ?_))))
  refine TW.assign rfl rfl rfl ct ?_
  refine TW.nil (KW.pick [0, 1, 4, 5] [(0, _, _), (1, _, _), (4, _, _), (5, _, _)] rfl (KW.then_ ?_))
  refine CW.block ?_
  have hl1 := hl.below hb1
  refine CW.loopS (fun k : Nat => [(1, none, .slice B l.length bcap), (5, none, .int .i64 (k : Int))])
    (fun k W => k ≤ l.length ∧ W = w1 ∧ Upto (fun e : Ev => ∀ x ∈ e.needs, 0 ≤ x) l k) (fun k => l.length - k) 0 [1, 5] ⟨by omega, rfl, Upto.zero⟩ rfl ?_
  rintro k W ⟨hk, rfl, hup⟩
  refine CW.seq (CW.seq (CW.region ?_))
  refine TW.move rfl rfl rfl ct ?_
  refine TW.move rfl rfl rfl ct ?_
  refine TW.lenSlice rfl rfl Try.underlying23 rfl ct ?_
  refine TW.lss rfl rfl rfl ct rfl ct ?_
  refine TW.nil (KW.pick [1, 5, 19] [(1, _, _), (5, _, _), (19, _, _)] rfl (KW.then_ ?_))
  refine CW.condP rfl (fun hlt => ?_) (fun hge => ?_)
  · obtain ⟨x, hx, hxm⟩ := getx (l := l) (k := k) (by omega)
    obtain ⟨ad, rfl⟩ := hl1.addr (by omega)
    obtain ⟨nx, cx, _, _, _, hnx⟩ := SE.get hl1 hx
    obtain ⟨C, ccap, rfl, _⟩ := hnx.form
    have hnmax : x.needs.length ≤ 9223372036854775807 := hnx.len.2.2
    refine CW.skip (KW.then_ (CW.seq (CW.block (CW.seq (CW.region ?_)))))
    refine TW.assign rfl rfl rfl ct ?_
    refine TW.nil (KW.pick [1, 5, 6] [(1, _, _), (5, _, _), (6, _, _)] rfl (KW.then_ ?_))
    refine CW.block ?_
    refine CW.loopS (fun j : Nat => [(1, none, .slice (some ad) l.length bcap), (5, none, .int .i64 (k : Int)), (6, none, .int .i64 (j : Int))])
      (fun j W' => j ≤ x.needs.length ∧ W' = W ∧ Upto (fun y : Int => 0 ≤ y) x.needs j) (fun j => x.needs.length - j) 0 [1, 5, 6] ⟨by omega, rfl, Upto.zero⟩ rfl ?_
    rintro j W' ⟨hj, rfl, hup2⟩
    refine CW.seq (CW.seq (CW.region ?_))
    refine TW.move rfl rfl rfl ct ?_
    refine TW.move rfl rfl rfl ct ?_
    refine TW.move rfl rfl rfl ct ?_
    refine TW.indexAddr rfl rfl Try.underlying23 sz43 rfl ct rfl ct (fun _ => by (try dsimp only); omega) ?_
    refine TW.fieldAddr rfl rfl fo43_3 rfl ct ?_
    refine TW.load rfl rfl one24 rfl ct (fun _ => cx 3 _ rfl) ?_
    refine TW.lenSlice rfl rfl Try.underlying24 rfl ct ?_
    refine TW.lss rfl rfl rfl ct rfl ct ?_
    refine TW.nil (KW.pick [1, 5, 6, 29] [(1, _, _), (5, _, _), (6, _, _), (29, _, _)] rfl (KW.then_ ?_))
    refine CW.condP rfl (fun hlt2 => ?_) (fun hge2 => ?_)
    · obtain ⟨y, hy, hym⟩ := getx (l := x.needs) (k := j) (by omega)
      obtain ⟨nd, rfl⟩ := hnx.addr (by omega)
      refine CW.skip (KW.then_ (CW.seq (CW.block (CW.seq (CW.region ?_)))))
      refine TW.move rfl rfl rfl ct ?_
      refine TW.move rfl rfl rfl ct ?_
      refine TW.indexAddr rfl rfl Try.underlying23 sz43 rfl ct rfl ct (fun _ => by (try dsimp only); omega) ?_
      refine TW.fieldAddr rfl rfl fo43_3 rfl ct ?_
      refine TW.load rfl rfl one24 rfl ct (fun _ => cx 3 _ rfl) ?_
      refine TW.move rfl rfl rfl ct ?_
      refine TW.indexAddr rfl rfl Try.underlying24 sz3 rfl ct rfl ct (fun _ => by (try dsimp only); omega) ?_
      refine TW.load rfl rfl one3 rfl ct (fun _ => hnx.getI hy) ?_
      refine TW.lss rfl rfl rfl ct rfl ct ?_
      refine TW.nil (KW.pick [1, 5, 6, 40] [(1, _, _), (5, _, _), (6, _, _), (40, _, _)] rfl (KW.then_ ?_))
      refine CW.condP rfl (fun hneg => ?_) (fun hpos => ?_)
      · refine CW.seq (CW.region ?_)
        refine TW.assign rfl rfl rfl ct ?_
        refine TW.nil (KW.pick [1, 4, 5, 6] [(1, _, _), (4, _, _), (5, _, _), (6, _, _)] rfl (KW.then_ ?_))
        refine CW.ret (KW.blockR (KW.thenR (KW.thenR (KW.blockR (KW.blockR (KW.thenR (KW.thenR (KW.blockR (KW.thenR ?_)))))))))
        refine ret1 Try.results25 rfl (⟨hb1, by rw [dec_neg (fun h => by have := h.pos x hxm y hym; omega)]⟩)
      refine CW.skip (KW.blockN (KW.then_ (CW.region ?_)))
      refine TW.move rfl rfl rfl ct ?_
      refine TW.add rfl rfl rfl ct rfl ct (fun _ => by (try dsimp only); omega) ?_
      refine TW.assign rfl rfl rfl ct ?_
      refine TW.nil (KW.pick [1, 5, 6] [(1, _, _), (5, _, _), (6, _, _)] rfl ?_)
      refine KW.round (j + 1) [1, 5, 6] rfl ⟨by omega, rfl, hup2.succ hy (by omega)⟩ (by omega)
    · refine CW.exit (KW.thenX (KW.thenX (KW.blockX (KW.blockN (KW.then_ (CW.region ?_))))))
      refine TW.move rfl rfl rfl ct ?_
      refine TW.add rfl rfl rfl ct rfl ct (fun _ => by (try dsimp only); omega) ?_
      refine TW.assign rfl rfl rfl ct ?_
      refine TW.nil (KW.pick [1, 5, 6] [(1, _, _), (5, _, _), (6, _, _)] rfl ?_)
      refine KW.round (k + 1) [1, 5] rfl ⟨by omega, rfl, hup.succ hx (hup2.all (by omega))⟩ (by omega)
  · refine CW.exit (KW.thenX (KW.thenX (KW.blockX (KW.then_ (CW.seq (CW.region ?_))))))
    refine TW.assign rfl rfl rfl ct ?_
    refine TW.nil (KW.pick [1, 4, 5] [(1, _, _), (4, _, _), (5, _, _)] rfl (KW.then_ ?_))
    refine CW.ret ?_
    refine ret1 Try.results25 rfl (⟨hb1, by rw [dec_pos ⟨hwe.wd, hfew, hwe.each, hup.all (by omega)⟩]⟩)

/-- lexicographically less, lists of the same length -/
def lexS : List Int → List Int → Bool
  | x :: a, y :: b => if x = y then lexS a b else decide (x < y)
  | _, _ => false
theorem lexS_take : ∀ {k : Nat} {a b : List Int}, a.take k = b.take k → lexS a b = lexS (a.drop k) (b.drop k)
  | 0, a, b, _ => rfl
  | k + 1, [], b, h => by
    have : b.take (k + 1) = [] := by simpa using h.symm
    cases b with
    | nil => rfl
    | cons y b => simp at this
  | k + 1, x :: a, [], h => by simp at h
  | k + 1, x :: a, y :: b, h => by
    simp at h
    obtain ⟨rfl, h⟩ := h
    simp only [lexS, if_true, List.drop_succ_cons]
    exact lexS_take h
theorem drop_eq {α : Type} {l : List α} {k : Nat} {x : α} (h : l[k]? = some x) : l.drop k = x :: l.drop (k + 1) := by
  obtain ⟨hk, rfl⟩ := List.getElem?_eq_some_iff.1 h
  exact List.drop_eq_getElem_cons hk

theorem less_c {w : World} {F G : Nat → Prop} {v u : Value} {a b : List Int} (ha : SL intT F w v a) (hb : SL intT G w u b) : Gives Try.prog 21 #[v, u] w fun x w' => Below w.heap.size w w' ∧ x = .bool (lexS a b) := by
  obtain ⟨A, cap, rfl, _⟩ := ha.form
  obtain ⟨B, bcap, rfl, _⟩ := hb.form
  have hmax := ha.len.2.2
  refine gives_of (vs := [.slice A a.length cap, .slice B b.length bcap]) [(0, none, _), (1, none, _)] Try.func21 rfl Try.ntmps21 rfl rfl ?_
  refine CW.seq (CW.region ?_)
  refine TW.assign rfl rfl rfl ct ?_
  refine TW.nil (KW.pick [0, 1, 4] [(0, _, _), (1, _, _), (4, _, _)] rfl (KW.then_ ?_))
  refine CW.seq (CW.seq (CW.region ?_))
  refine TW.assign rfl rfl rfl ct ?_
  refine TW.nil (KW.pick [0, 1, 4, 5] [(0, _, _), (1, _, _), (4, _, _), (5, _, _)] rfl (KW.then_ ?_))
  refine CW.block ?_
  refine CW.loopS (fun k : Nat => [(0, none, .slice A a.length cap), (1, none, .slice B b.length bcap), (5, none, .int .i64 (k : Int))])
    (fun k W => k ≤ a.length ∧ Below w.heap.size w W ∧ a.take k = b.take k) (fun k => a.length - k) 0 [0, 1, 5] ⟨by omega, Below.refl _ _, by simp⟩ rfl ?_
  rintro k W ⟨hk, hW, hpre⟩
  refine CW.seq (CW.seq (CW.region ?_))
  refine TW.move rfl rfl rfl ct ?_
  refine TW.move rfl rfl rfl ct ?_
  refine TW.lenSlice rfl rfl Try.underlying24 rfl ct ?_
  refine TW.lss rfl rfl rfl ct rfl ct ?_
  refine TW.move rfl rfl rfl ct ?_
  refine TW.move rfl rfl rfl ct ?_
  refine TW.move rfl rfl rfl ct ?_
  refine TW.lenSlice rfl rfl Try.underlying24 rfl id ?_
  refine TW.lss rfl rfl rfl id rfl id ?_
  refine TW.pickAnd rfl rfl rfl ct rfl pAnd0 ?_
  refine TW.nil (KW.pick [0, 1, 5, 15] [(0, _, _), (1, _, _), (5, _, _), (15, _, _)] rfl (KW.then_ ?_))
  refine CW.cond rfl (fun hlt => ?_) (fun hge => ?_)
  · have hlt' : k < a.length ∧ k < b.length := by simp at hlt; omega
    obtain ⟨x, hx, hxm⟩ := getx (l := a) (k := k) (by omega)
    obtain ⟨y, hy, hym⟩ := getx (l := b) (k := k) (by omega)
    obtain ⟨ad, rfl⟩ := ha.addr (by omega)
    obtain ⟨bd, rfl⟩ := hb.addr (by omega)
    refine CW.skip (KW.then_ (CW.seq (CW.block (CW.seq (CW.draw mixed (by kernel_rfl) ?_)))))
    refine DW.move rfl rfl rfl ct ?_
    refine DW.move rfl rfl rfl ct ?_
    refine DW.indexAddr rfl rfl Try.underlying24 sz3 rfl ct rfl ct (fun _ => by (try dsimp only); omega) ?_
    refine DW.load rfl rfl one3 rfl ct (fun _ => (ha.below hW).getI hx) ?_
    refine DW.move rfl rfl rfl ct ?_
    refine DW.move rfl rfl rfl ct ?_
    refine DW.indexAddr rfl rfl Try.underlying24 sz3 rfl ct rfl ct (fun _ => by (try dsimp only); omega) ?_
    refine DW.load rfl rfl one3 rfl ct (fun _ => (hb.below hW).getI hy) ?_
    refine DW.neq rfl rfl rfl ct rfl ct ?_
    refine DW.nil (DW.fin [0, 1, 5, 26] [(0, _, _), (1, _, _), (5, _, _), (26, _, _)] rfl (fun w2 b2 => KW.then_ ?_))
    have hW2 := hW.step b2
    refine CW.condP rfl (fun hd => ?_) (fun hs => ?_)
    · refine CW.seq (CW.draw mixed (by kernel_rfl) ?_)
      refine DW.move rfl rfl rfl ct ?_
      refine DW.move rfl rfl rfl ct ?_
      refine DW.indexAddr rfl rfl Try.underlying24 sz3 rfl ct rfl ct (fun _ => by (try dsimp only); omega) ?_
      refine DW.load rfl rfl one3 rfl ct (fun _ => (ha.below hW2).getI hx) ?_
      refine DW.move rfl rfl rfl ct ?_
      refine DW.move rfl rfl rfl ct ?_
      refine DW.indexAddr rfl rfl Try.underlying24 sz3 rfl ct rfl ct (fun _ => by (try dsimp only); omega) ?_
      refine DW.load rfl rfl one3 rfl ct (fun _ => (hb.below hW2).getI hy) ?_
      refine DW.lss rfl rfl rfl ct rfl ct ?_
      refine DW.assign rfl rfl rfl ct ?_
      refine DW.nil (DW.fin [0, 1, 4, 5] [(0, _, _), (1, _, _), (4, _, _), (5, _, _)] rfl (fun w3 b3 => KW.then_ ?_))
      refine CW.ret (KW.blockR (KW.thenR (KW.thenR (KW.blockR (KW.thenR ?_)))))
      refine ret1 Try.results21 rfl (⟨hW2.step b3, by rw [lexS_take hpre, drop_eq hx, drop_eq hy]; simp only [lexS, if_neg hd]⟩)
    refine CW.skip (KW.blockN (KW.then_ (CW.region ?_)))
    refine TW.move rfl rfl rfl ct ?_
    refine TW.add rfl rfl rfl ct rfl ct (fun _ => by (try dsimp only); omega) ?_
    refine TW.assign rfl rfl rfl ct ?_
    refine TW.nil (KW.pick [0, 1, 5] [(0, _, _), (1, _, _), (5, _, _)] rfl ?_)
    refine KW.round (k + 1) [0, 1, 5] rfl ⟨by omega, hW2, take_next hpre hx hy (by omega)⟩ (by omega)
  · refine CW.exit (KW.thenX (KW.thenX (KW.blockX (KW.then_ (CW.seq (CW.region ?_))))))
    refine TW.assign rfl rfl rfl ct ?_
    refine TW.nil (KW.pick [0, 1, 4, 5] [(0, _, _), (1, _, _), (4, _, _), (5, _, _)] rfl (KW.then_ ?_))
    refine CW.ret ?_
    refine ret1 Try.results21 rfl (⟨hW, ?_⟩)
    have hge' : a.length ≤ k ∨ b.length ≤ k := by
      simp at hge
      omega
    rw [lexS_take hpre]
    rcases hge' with h | h
    · rw [List.drop_of_length_le h]; rfl
    · rw [List.drop_of_length_le h]
      cases a.drop k <;> rfl
end Go.Proofs.Ytmdjkgkgpkaliaa

namespace Go.Proofs.Ytmdjkgkgpkaliaa
open Go.PF Go.RowKit Go.Ord

theorem ints_one (l : List Int) : ∀ u ∈ l.map (Value.int .i64), u.oneCell' = true := by
  intro u hu
  rw [List.mem_map] at hu
  obtain ⟨a, _, rfl⟩ := hu
  rfl
theorem _root_.Go.PF.SL.allI {F : Nat → Prop} {w : World} {v : Value} {l : List Int} (h : SL intT F w v l) : ∀ x ∈ l, I64 x := fun x hx => by
  obtain ⟨j, hj, hje⟩ := List.getElem_of_mem hx
  exact h.rngI (i := j) (x := x) (by rw [← hje]; exact List.getElem?_eq_getElem hj)
theorem insS_at {n : Int} : ∀ {l : List Int} {k : Nat}, k ≤ l.length → Upto (· < n) l k → (∀ x, l[k]? = some x → ¬ x < n) → insS n l = if l[k]? = some n then l else l.take k ++ n :: l.drop k
  | [], k, hk, _, _ => by
    obtain rfl : k = 0 := by simpa using hk
    simp [insS]
  | y :: l, 0, _, _, h => by
    have h0 := h y rfl
    simp only [insS, if_neg h0]
    by_cases e : y = n
    · simp [e]
    · simp [e]
  | y :: l, k + 1, hk, hu, h => by
    have h0 := hu 0 y (by omega) rfl
    have ih := insS_at (n := n) (l := l) (k := k) (by simpa using hk) (fun i x hi hx => hu (i + 1) x (by omega) (by simpa using hx)) (fun x hx => h x (by simpa using hx))
    simp only [insS, if_pos h0, ih, List.getElem?_cons_succ, List.take_succ_cons, List.drop_succ_cons]
    split <;> simp
theorem insS_len (n : Int) : ∀ l : List Int, (insS n l).length ≤ l.length + 1
  | [] => by simp [insS]
  | y :: l => by
    have := insS_len n l
    unfold insS
    split
    · simp; omega
    · split <;> simp

set_option maxRecDepth 20000 in
theorem rinsert_c {w : World} {F : Nat → Prop} {v : Value} {l : List Int} {n : Int} (hl : SL intT F w v l) (hn : l.length ≤ 1000000) (hnI : I64 n) : Gives Try.prog 41 #[v, .int .i64 n] w fun u w' => Below w.heap.size w w' ∧ SL intT (fun k => F k ∨ w.heap.size ≤ k) w' u (insS n l) := by
  obtain ⟨A, cap, rfl, hcap⟩ := hl.form
  have hI := hl.allI
  refine gives_of (vs := [.slice A l.length cap, .int .i64 n]) [(0, none, _), (1, none, _)] Try.func41 rfl Try.ntmps41 rfl rfl ?_
  refine CW.seq (CW.region ?_)
  refine TW.assign rfl rfl rfl ct ?_
  refine TW.nil (KW.pick [0, 1, 4] [(0, _, _), (1, _, _), (4, _, _)] rfl (KW.then_ ?_))
  refine CW.seq (CW.region ?_)
  refine TW.assign rfl rfl rfl ct ?_
  refine TW.nil (KW.pick [0, 1, 4, 5] [(0, _, _), (1, _, _), (4, _, _), (5, _, _)] rfl (KW.then_ ?_))
  refine CW.seq (CW.block ?_)
  refine CW.loopS (fun k : Nat => [(0, none, .slice A l.length cap), (1, none, .int .i64 n), (5, none, .int .i64 (k : Int))])
    (fun k W => k ≤ l.length ∧ W = w ∧ Upto (· < n) l k) (fun k => l.length - k) 0 [0, 1, 5] ⟨by omega, rfl, Upto.zero⟩ rfl ?_
  rintro k W ⟨hk, rfl, hup⟩
  by_cases hkl : k < l.length
  · obtain ⟨x, hx, _⟩ := getx hkl
    obtain ⟨ad, rfl⟩ := hl.addr (by omega)
    refine CW.seq (CW.seq (CW.region ?_))
    refine TW.move rfl rfl rfl ct ?_
    refine TW.move rfl rfl rfl ct ?_
    refine TW.lenSlice rfl rfl Try.underlying24 rfl ct ?_
    refine TW.lss rfl rfl rfl ct rfl ct ?_
    refine TW.move rfl rfl rfl ct ?_
    refine TW.move rfl rfl rfl ct ?_
    refine TW.move rfl rfl rfl ct ?_
    refine TW.indexAddr rfl rfl Try.underlying24 sz3 rfl id rfl id (fun h => by (try dsimp only); first | omega | (simp [Cnd] at h; omega)) ?_
    refine TW.load rfl rfl one3 rfl id (fun _ => hl.getI hx) ?_
    refine TW.move rfl rfl rfl ct ?_
    refine TW.lss rfl rfl rfl id rfl id ?_
    refine TW.pickAnd rfl rfl rfl ct rfl pAnd0 ?_
    refine TW.nil (KW.pick [0, 1, 5, 17] [(0, _, _), (1, _, _), (5, _, _), (17, _, _)] rfl (KW.then_ ?_))
    refine CW.cond rfl (fun hin => ?_) (fun hout => ?_)
    · simp only [Bool.and_eq_true, decide_eq_true_eq] at hin
      refine CW.skip (KW.then_ (CW.block (CW.region ?_)))
      refine TW.move rfl rfl rfl ct ?_
      refine TW.add rfl rfl rfl ct rfl ct (fun _ => by (try dsimp only); omega) ?_
      refine TW.assign rfl rfl rfl ct ?_
      refine TW.nil (KW.pick [0, 1, 5] [(0, _, _), (1, _, _), (5, _, _)] rfl (KW.blockN ?_))
      refine KW.round (k + 1) [0, 1, 5] rfl ⟨by omega, rfl, hup.succ hx hin.2⟩ (by omega)
    · have hnx : ¬ x < n := by simp at hout; omega
      have hins := insS_at hk hup (fun y hy => by rw [hx] at hy; cases hy; exact hnx)
      refine CW.exit (KW.thenX (KW.thenX (KW.blockX (KW.then_ (CW.seq (CW.seq (CW.region ?_)))))))
      refine TW.move rfl rfl rfl ct ?_
      refine TW.move rfl rfl rfl ct ?_
      refine TW.lenSlice rfl rfl Try.underlying24 rfl ct ?_
      refine TW.lss rfl rfl rfl ct rfl ct ?_
      refine TW.move rfl rfl rfl ct ?_
      refine TW.move rfl rfl rfl ct ?_
      refine TW.move rfl rfl rfl ct ?_
      refine TW.indexAddr rfl rfl Try.underlying24 sz3 rfl id rfl id (fun h => by (try dsimp only); first | omega | (simp [Cnd] at h; omega)) ?_
      refine TW.load rfl rfl one3 rfl id (fun _ => hl.getI hx) ?_
      refine TW.move rfl rfl rfl ct ?_
      refine TW.eql rfl rfl rfl id rfl id ?_
      refine TW.pickAnd rfl rfl rfl ct rfl pAnd0 ?_
      refine TW.nil (KW.pick [0, 1, 5, 31] [(0, _, _), (1, _, _), (5, _, _), (31, _, _)] rfl (KW.then_ ?_))
      refine CW.cond rfl (fun heq => ?_) (fun hne => ?_)
      · have hxn : x = n := by simp at heq; omega
        rw [hins, if_pos (by rw [hx, hxn])]
        refine CW.seq (CW.region ?_)
        refine TW.move rfl rfl rfl ct ?_
        refine TW.assign rfl rfl rfl ct ?_
        refine TW.nil (KW.pick [0, 1, 4, 5] [(0, _, _), (1, _, _), (4, _, _), (5, _, _)] rfl (KW.then_ ?_))
        refine CW.ret (KW.thenR ?_)
        refine ret1 Try.results41 rfl (⟨Below.refl _ _, hl.wider fun _ h => .inl h⟩)
      · have hxn : ¬ x = n := by simp at hne; omega
        rw [hins, if_neg (by rw [hx]; simpa using hxn)]
        refine CW.skip (KW.then_ (CW.seq (CW.drawO mixed (by kernel_rfl) ?_)))
        refine OW.buildSlice0 3 rfl rfl eo24 ?_
        refine DW.move rfl rfl rfl ct ?_
        refine DW.move rfl rfl rfl ct ?_
        refine DW.sliceH rfl rfl Try.underlying24 sz3 rfl ct rfl ct (fun _ => by (try dsimp only); omega) ?_
        have hn1 : ∀ (j : Nat) (u : Value), ((l.take k).map (Value.int .i64))[j]? = some u → ∃ ad' : Addr, some ad = some ad' ∧ W.cell? (ad'.add j) = some u := by
          intro j u hu
          simp only [List.getElem?_map, List.getElem?_take] at hu
          by_cases hj : j < k
          · rw [if_pos hj] at hu
            obtain ⟨y, hy, rfl⟩ := Option.map_eq_some_iff.1 hu
            obtain ⟨ad, h1, h2, _⟩ := hl.int hy
            exact ⟨ad, h1, by rw [Nat.mul_one] at h2; exact h2⟩
          · rw [if_neg hj] at hu; simp at hu
        refine OW.append (m := k) (A := some ad) ((l.take k).map (Value.int .i64)) rfl rfl go24 rfl (by kernel_rfl) rfl ct hn1 (by simp; omega) (ints_one _) (by omega) (by omega) ?_
        refine DW.move rfl rfl rfl ct ?_
        refine OW.buildSlice 3 _ rfl rfl rfl eo24 (DArgs.cons rfl ct DArgs.nil) rfl rfl rfl rfl rfl ?_
        refine OW.appendR [.int .i64 n] rfl rfl go24 rfl (by kernel_rfl) rfl ct (fun u hu => by simp at hu; subst hu; rfl) (by omega) (by omega) rfl ?_
        refine DW.move rfl rfl rfl ct ?_
        refine DW.move rfl rfl rfl ct ?_
        refine DW.sliceL rfl rfl Try.underlying24 sz3 rfl ct rfl ct (fun _ => by (try dsimp only); omega) ?_
        have hn2 : ∀ (j : Nat) (u : Value), ((l.drop k).map (Value.int .i64))[j]? = some u → ∃ ad' : Addr, (if cap = k then some ad else (some ad).map (fun a : Addr => a.add (k * 1))) = some ad' ∧ W.cell? (ad'.add j) = some u := by
          intro j u hu
          simp only [List.getElem?_map, List.getElem?_drop] at hu
          obtain ⟨y, hy, rfl⟩ := Option.map_eq_some_iff.1 hu
          obtain ⟨ad, h1, h2, _⟩ := hl.int hy
          have hlt := (List.getElem?_eq_some_iff.1 hy).1
          refine ⟨ad.add (k * 1), by rw [if_neg (by omega), h1]; rfl, ?_⟩
          rw [Addr.add_add]
          rw [Nat.mul_one] at h2 ⊢
          exact h2
        refine OW.append (m := l.length - k) (A := if cap = k then some ad else (some ad).map (fun a : Addr => a.add (k * 1))) ((l.drop k).map (Value.int .i64)) rfl rfl go24 rfl (by kernel_rfl) rfl ct hn2 (by simp) (ints_one _) (by omega) (by omega) ?_
        refine OW.assign rfl rfl rfl ct (rowE_strong _ _ _ _ _) (by kernel_rfl) ?_
        refine DW.nil (DW.finP [4] rfl fun vs w2 hb2 hs2 => KW.then_ ?_)
        obtain ⟨v4, rfl, h4⟩ := Sats.one hs2
        refine CW.ret ?_
        have h4' : OwnS w2 3 1 v4 (0 + k + 1 + (l.length - k)) (([] ++ (l.take k).map (Value.int .i64) ++ [.int .i64 n]) ++ (l.drop k).map (Value.int .i64)) ∧ ∀ g, v4.ownBlock = some g → W.heap.size ≤ g := h4
        refine ret1 Try.results41 rfl (⟨hb2, ?_⟩)
        have e2 : (l.take k ++ n :: l.drop k).length = 0 + k + 1 + (l.length - k) := by simp; omega
        refine OwnS.toInts (e := 3) ?_ ?_ (fun g hg => .inr (h4'.2 g hg)) (by omega)
        · rw [e2]
          simpa using h4'.1
        · intro x hx
          rw [List.mem_append, List.mem_cons] at hx
          rcases hx with hx | rfl | hx
          · exact hI x (List.mem_of_mem_take hx)
          · exact hnI
          · exact hI x (List.mem_of_mem_drop hx)
  · have hke : k = l.length := by omega
    have hnone : l[k]? = none := List.getElem?_eq_none (by omega)
    have hins := insS_at hk hup (fun y hy => by rw [hnone] at hy; cases hy)
    rw [hnone, if_neg (by simp)] at hins
    rw [hins]
    refine CW.seq (CW.seq (CW.region ?_))
    refine TW.move rfl rfl rfl ct ?_
    refine TW.move rfl rfl rfl ct ?_
    refine TW.lenSlice rfl rfl Try.underlying24 rfl ct ?_
    refine TW.lss rfl rfl rfl ct rfl ct ?_
    refine TW.move rfl rfl rfl ct ?_
    refine TW.dead (.bool false) rfl (by simp [Cnd, hke]) rfl ?_
    refine TW.dead (.bool false) rfl (by simp [Cnd, hke]) rfl ?_
    refine TW.dead (.bool false) rfl (by simp [Cnd, hke]) rfl ?_
    refine TW.dead (.bool false) rfl (by simp [Cnd, hke]) rfl ?_
    refine TW.dead (.bool false) rfl (by simp [Cnd, hke]) rfl ?_
    refine TW.dead (.bool false) rfl (by simp [Cnd, hke]) rfl ?_
    refine TW.pickAnd rfl rfl rfl ct rfl pAnd0 ?_
    refine TW.nil (KW.pick [0, 1, 5, 17] [(0, _, _), (1, _, _), (5, _, _), (17, _, _)] rfl (KW.then_ ?_))
    refine CW.cond rfl (fun hin => ?_) (fun hout => ?_)
    · exfalso; simp [hke] at hin
    refine CW.exit (KW.thenX (KW.thenX (KW.blockX (KW.then_ (CW.seq (CW.seq (CW.region ?_)))))))
    refine TW.move rfl rfl rfl ct ?_
    refine TW.move rfl rfl rfl ct ?_
    refine TW.lenSlice rfl rfl Try.underlying24 rfl ct ?_
    refine TW.lss rfl rfl rfl ct rfl ct ?_
    refine TW.move rfl rfl rfl ct ?_
    refine TW.dead (.bool false) rfl (by simp [Cnd, hke]) rfl ?_
    refine TW.dead (.bool false) rfl (by simp [Cnd, hke]) rfl ?_
    refine TW.dead (.bool false) rfl (by simp [Cnd, hke]) rfl ?_
    refine TW.dead (.bool false) rfl (by simp [Cnd, hke]) rfl ?_
    refine TW.dead (.bool false) rfl (by simp [Cnd, hke]) rfl ?_
    refine TW.dead (.bool false) rfl (by simp [Cnd, hke]) rfl ?_
    refine TW.pickAnd rfl rfl rfl ct rfl pAnd0 ?_
    refine TW.nil (KW.pick [0, 1, 5, 31] [(0, _, _), (1, _, _), (5, _, _), (31, _, _)] rfl (KW.then_ ?_))
    refine CW.cond rfl (fun heq => ?_) (fun hne => ?_)
    · exfalso; simp [hke] at heq
    refine CW.skip (KW.then_ (CW.seq (CW.drawO mixed (by kernel_rfl) ?_)))
    refine OW.buildSlice0 3 rfl rfl eo24 ?_
    refine DW.move rfl rfl rfl ct ?_
    refine DW.move rfl rfl rfl ct ?_
    refine DW.sliceH rfl rfl Try.underlying24 sz3 rfl ct rfl ct (fun _ => by (try dsimp only); omega) ?_
    have hn1 : ∀ (j : Nat) (u : Value), ((l.take k).map (Value.int .i64))[j]? = some u → ∃ ad' : Addr, A = some ad' ∧ W.cell? (ad'.add j) = some u := by
      intro j u hu
      simp only [List.getElem?_map, List.getElem?_take] at hu
      by_cases hj : j < k
      · rw [if_pos hj] at hu
        obtain ⟨y, hy, rfl⟩ := Option.map_eq_some_iff.1 hu
        obtain ⟨ad, h1, h2, _⟩ := hl.int hy
        exact ⟨ad, h1, by rw [Nat.mul_one] at h2; exact h2⟩
      · rw [if_neg hj] at hu; simp at hu
    refine OW.append (m := k) (A := A) ((l.take k).map (Value.int .i64)) rfl rfl go24 rfl (by kernel_rfl) rfl ct hn1 (by simp; omega) (ints_one _) (by omega) (by omega) ?_
    refine DW.move rfl rfl rfl ct ?_
    refine OW.buildSlice 3 _ rfl rfl rfl eo24 (DArgs.cons rfl ct DArgs.nil) rfl rfl rfl rfl rfl ?_
    refine OW.appendR [.int .i64 n] rfl rfl go24 rfl (by kernel_rfl) rfl ct (fun u hu => by simp at hu; subst hu; rfl) (by omega) (by omega) rfl ?_
    refine DW.move rfl rfl rfl ct ?_
    refine DW.move rfl rfl rfl ct ?_
    refine DW.sliceL rfl rfl Try.underlying24 sz3 rfl ct rfl ct (fun _ => by (try dsimp only); omega) ?_
    have hn2 : ∀ (j : Nat) (u : Value), ((l.drop k).map (Value.int .i64))[j]? = some u → ∃ ad' : Addr, (if cap = k then A else (A).map (fun a : Addr => a.add (k * 1))) = some ad' ∧ W.cell? (ad'.add j) = some u := by
      intro j u hu
      simp only [List.getElem?_map, List.getElem?_drop] at hu
      obtain ⟨y, hy, rfl⟩ := Option.map_eq_some_iff.1 hu
      obtain ⟨ad, h1, h2, _⟩ := hl.int hy
      have hlt := (List.getElem?_eq_some_iff.1 hy).1
      refine ⟨ad.add (k * 1), by rw [if_neg (by omega), h1]; rfl, ?_⟩
      rw [Addr.add_add]
      rw [Nat.mul_one] at h2 ⊢
      exact h2
    refine OW.append (m := l.length - k) (A := if cap = k then A else (A).map (fun a : Addr => a.add (k * 1))) ((l.drop k).map (Value.int .i64)) rfl rfl go24 rfl (by kernel_rfl) rfl ct hn2 (by simp) (ints_one _) (by omega) (by omega) ?_
    refine OW.assign rfl rfl rfl ct (rowE_strong _ _ _ _ _) (by kernel_rfl) ?_
    refine DW.nil (DW.finP [4] rfl fun vs w2 hb2 hs2 => KW.then_ ?_)
    obtain ⟨v4, rfl, h4⟩ := Sats.one hs2
    refine CW.ret ?_
    have h4' : OwnS w2 3 1 v4 (0 + k + 1 + (l.length - k)) (([] ++ (l.take k).map (Value.int .i64) ++ [.int .i64 n]) ++ (l.drop k).map (Value.int .i64)) ∧ ∀ g, v4.ownBlock = some g → W.heap.size ≤ g := h4
    refine ret1 Try.results41 rfl (⟨hb2, ?_⟩)
    have e2 : (l.take k ++ n :: l.drop k).length = 0 + k + 1 + (l.length - k) := by simp; omega
    refine OwnS.toInts (e := 3) ?_ ?_ (fun g hg => .inr (h4'.2 g hg)) (by omega)
    · rw [e2]
      simpa using h4'.1
    · intro x hx
      rw [List.mem_append, List.mem_cons] at hx
      rcases hx with hx | rfl | hx
      · exact hI x (List.mem_of_mem_take hx)
      · exact hnI
      · exact hI x (List.mem_of_mem_drop hx)

set_option maxRecDepth 20000 in
theorem rrecords_c {w : World} {F : Nat → Prop} {v : Value} {l : List Ev} (hl : SL evT F w v l) (hsm : l.length ≤ 1000) (hne : ∀ e ∈ l, e.needs.length ≤ 1000) : Gives Try.prog 19 #[v] w fun u w' => Below w.heap.size w w' ∧ SL intT (fun k => w.heap.size ≤ k) w' u (recsS l) := by
  obtain ⟨A, cap, rfl, hcap⟩ := hl.form
  refine gives_of (vs := [.slice A l.length cap]) [(0, none, _)] Try.func19 rfl Try.ntmps19 rfl rfl ?_
  refine CW.seq (CW.region ?_)
  refine TW.assign rfl rfl rfl ct ?_
  refine TW.nil (KW.pick [0, 2] [(0, _, _), (2, _, _)] rfl (KW.then_ ?_))
  refine CW.seq (CW.region ?_)
  refine TW.buildSlice0 3 rfl rfl eo24 ?_
  rintro g1 w1 f1
  refine TW.assign rfl rfl rfl ct ?_
  refine TW.nil (KW.pick [0, 2, 3] [(0, _, _), (2, _, _), (3, _, _)] rfl (KW.then_ ?_))
  refine CW.seq (CW.seq (CW.region ?_))
  refine TW.assign rfl rfl rfl ct ?_
  refine TW.nil (KW.pick [0, 2, 3, 4] [(0, _, _), (2, _, _), (3, _, _), (4, _, _)] rfl (KW.then_ ?_))
  refine CW.block ?_
  refine CW.loopS (fun x : Nat × Value => [(0, none, .slice A l.length cap), (3, none, x.2), (4, none, .int .i64 (x.1 : Int))])
    (fun x W => x.1 ≤ l.length ∧ Below w.heap.size w W ∧ SL intT (fun k => w.heap.size ≤ k) W x.2 (recsS (l.take x.1)) ∧ (recsS (l.take x.1)).length ≤ x.1 * 1000) (fun x => l.length - x.1) (0, .slice (some ⟨g1, 0, none⟩) 0 0) [0, 3, 4]
    ⟨by simp, f1.below, ⟨_, _, rfl, Nat.le_refl _, by simp [recsS, needsOf, insAll], fun i x hx => by simp [recsS, needsOf, insAll] at hx⟩, by simp [recsS, needsOf, insAll]⟩ rfl ?_
  rintro ⟨k, ov⟩ W ⟨hk, hW, hov, hlen⟩
  dsimp only at hk hov hlen
  refine CW.seq (CW.seq (CW.region ?_))
  refine TW.move rfl rfl rfl ct ?_
  refine TW.move rfl rfl rfl ct ?_
  refine TW.lenSlice rfl rfl Try.underlying23 rfl ct ?_
  refine TW.lss rfl rfl rfl ct rfl ct ?_
  refine TW.nil (KW.pick [0, 3, 4, 10] [(0, _, _), (3, _, _), (4, _, _), (10, _, _)] rfl (KW.then_ ?_))
  refine CW.condP rfl (fun hlt => ?_) (fun hge => ?_)
  · obtain ⟨e, he, hem⟩ := getx (l := l) (k := k) (by omega)
    have hlW := hl.below hW
    obtain ⟨ad, rfl⟩ := hlW.addr (by omega)
    obtain ⟨nx, cx, _, _, _, hnx⟩ := SE.get hlW he
    obtain ⟨C, ccap, rfl, _⟩ := hnx.form
    have hnl := hne e hem
    have htake : l.take (k + 1) = l.take k ++ [e] := by rw [List.take_add_one, he]; rfl
    have hrec : recsS (l.take (k + 1)) = insAll (recsS (l.take k)) e.needs := by
      rw [htake]
      unfold recsS needsOf insAll
      simp [List.flatMap_append, List.foldl_append]
    refine CW.skip (KW.then_ (CW.seq (CW.block (CW.seq (CW.region ?_)))))
    refine TW.assign rfl rfl rfl ct ?_
    refine TW.nil (KW.pick [0, 3, 4, 5] [(0, _, _), (3, _, _), (4, _, _), (5, _, _)] rfl (KW.then_ ?_))
    refine CW.block ?_
    refine CW.loopS (fun x : Nat × Value => [(0, none, .slice (some ad) l.length cap), (3, none, x.2), (4, none, .int .i64 (k : Int)), (5, none, .int .i64 (x.1 : Int))])
      (fun x W' => x.1 ≤ e.needs.length ∧ Below W.heap.size W W' ∧ SL intT (fun k => w.heap.size ≤ k) W' x.2 (insAll (recsS (l.take k)) (e.needs.take x.1)) ∧ (insAll (recsS (l.take k)) (e.needs.take x.1)).length ≤ k * 1000 + x.1) (fun x => e.needs.length - x.1) (0, ov) [0, 3, 4, 5]
      ⟨by simp, Below.refl _ _, hov, hlen⟩ rfl ?_
    rintro ⟨j, pv⟩ W2 ⟨hj, hW2, hpv, hlen2⟩
    dsimp only at hj hpv hlen2
    have hk2 := fun (j : Nat) (u : Value) h => (hW2.cell (block_lt_of_cell (cx j u h))).trans (cx j u h)
    refine CW.seq (CW.seq (CW.region ?_))
    refine TW.move rfl rfl rfl ct ?_
    refine TW.move rfl rfl rfl ct ?_
    refine TW.move rfl rfl rfl ct ?_
    refine TW.indexAddr rfl rfl Try.underlying23 sz43 rfl ct rfl ct (fun _ => by (try dsimp only); omega) ?_
    refine TW.fieldAddr rfl rfl fo43_3 rfl ct ?_
    refine TW.load rfl rfl one24 rfl ct (fun _ => hk2 3 _ rfl) ?_
    refine TW.lenSlice rfl rfl Try.underlying24 rfl ct ?_
    refine TW.lss rfl rfl rfl ct rfl ct ?_
    refine TW.nil (KW.pick [0, 3, 4, 5, 20] [(0, _, _), (3, _, _), (4, _, _), (5, _, _), (20, _, _)] rfl (KW.then_ ?_))
    refine CW.condP rfl (fun hlt2 => ?_) (fun hge2 => ?_)
    · obtain ⟨y, hy, hym⟩ := getx (l := e.needs) (k := j) (by omega)
      obtain ⟨nd, rfl⟩ := hnx.addr (by omega)
      refine CW.skip (KW.then_ (CW.seq (CW.block (CW.region ?_))))
      refine TW.move rfl rfl rfl ct ?_
      refine TW.move rfl rfl rfl ct ?_
      refine TW.move rfl rfl rfl ct ?_
      refine TW.indexAddr rfl rfl Try.underlying23 sz43 rfl ct rfl ct (fun _ => by (try dsimp only); omega) ?_
      refine TW.fieldAddr rfl rfl fo43_3 rfl ct ?_
      refine TW.load rfl rfl one24 rfl ct (fun _ => hk2 3 _ rfl) ?_
      refine TW.move rfl rfl rfl ct ?_
      refine TW.indexAddr rfl rfl Try.underlying24 sz3 rfl ct rfl ct (fun _ => by (try dsimp only); omega) ?_
      refine TW.load rfl rfl one3 rfl ct (fun _ => (hnx.below hW2).getI hy) ?_
      refine TW.call0 (cap := []) rfl rfl en41 rfl (Args.cons rfl ct (Args.cons rfl ct Args.nil)) (rinsert_c hpv (by omega) (hnx.rngI hy)) ?_
      rintro y3 w3 ⟨hb3, hsi3⟩
      have e3 : insAll (recsS (l.take k)) (e.needs.take (j + 1)) = insS y (insAll (recsS (l.take k)) (e.needs.take j)) := by
        rw [List.take_add_one, hy]
        unfold insAll
        simp [List.foldl_append]
      refine TW.assign rfl rfl rfl ct ?_
      refine TW.nil (KW.pick [0, 3, 4, 5] [(0, _, _), (3, _, _), (4, _, _), (5, _, _)] rfl (KW.blockN (KW.then_ ?_)))
      refine CW.region ?_
      refine TW.move rfl rfl rfl ct ?_
      refine TW.add rfl rfl rfl ct rfl ct (fun _ => by (try dsimp only); omega) ?_
      refine TW.assign rfl rfl rfl ct ?_
      refine TW.nil (KW.pick [0, 3, 4, 5] [(0, _, _), (3, _, _), (4, _, _), (5, _, _)] rfl ?_)
      refine KW.round (j + 1, y3) [0, 3, 4, 5] rfl ⟨by show j + 1 ≤ e.needs.length; omega, hW2.step hb3, by show SL intT (fun k => w.heap.size ≤ k) w3 y3 (insAll (recsS (l.take k)) (e.needs.take (j + 1))); rw [e3]; exact hsi3.wider fun q hq => by have := (hW.step hW2).size; rcases hq with h | h <;> omega, ?_⟩ (by show e.needs.length - (j + 1) < e.needs.length - j; omega)
      show (insAll (recsS (l.take k)) (e.needs.take (j + 1))).length ≤ k * 1000 + (j + 1)
      rw [e3]
      have := insS_len y (insAll (recsS (l.take k)) (e.needs.take j))
      omega
    · have hje : e.needs.take j = e.needs := List.take_of_length_le (by omega)
      rw [hje] at hpv hlen2
      refine CW.exit (KW.thenX (KW.thenX (KW.blockX (KW.blockN (KW.then_ (CW.region ?_))))))
      refine TW.move rfl rfl rfl ct ?_
      refine TW.add rfl rfl rfl ct rfl ct (fun _ => by (try dsimp only); omega) ?_
      refine TW.assign rfl rfl rfl ct ?_
      refine TW.nil (KW.pick [0, 3, 4, 5] [(0, _, _), (3, _, _), (4, _, _), (5, _, _)] rfl ?_)
      refine KW.round (k + 1, pv) [0, 3, 4] rfl ⟨by show k + 1 ≤ l.length; omega, hW.step hW2, by show SL intT (fun k => w.heap.size ≤ k) W2 pv (recsS (l.take (k + 1))); rw [hrec]; exact hpv, ?_⟩ (by show l.length - (k + 1) < l.length - k; omega)
      show (recsS (l.take (k + 1))).length ≤ (k + 1) * 1000
      rw [hrec]
      omega
  · rw [List.take_of_length_le (by omega)] at hov
    refine CW.exit (KW.thenX (KW.thenX (KW.blockX (KW.then_ (CW.seq (CW.region ?_))))))
    refine TW.move rfl rfl rfl ct ?_
    refine TW.assign rfl rfl rfl ct ?_
    refine TW.nil (KW.pick [0, 2, 3, 4] [(0, _, _), (2, _, _), (3, _, _), (4, _, _)] rfl (KW.then_ ?_))
    refine CW.ret ?_
    refine ret1 Try.results19 rfl (⟨hW, hov⟩)
end Go.Proofs.Ytmdjkgkgpkaliaa

namespace Go.Proofs.Ytmdjkgkgpkaliaa
open Go.PF Go.RowKit Go.Ord

set_option maxRecDepth 20000 in
theorem known_c {w : World} {F G : Nat → Prop} {v u : Value} {l : List Ev} {s : List Int} (hl : SL evT F w v l) (hs : SL intT G w u s) (hsm : l.length ≤ 1000) (hne : ∀ e ∈ l, e.needs.length ≤ 1000) (hss : s.length ≤ 1000000) :
    Gives Try.prog 24 #[v, u] w fun x w' => Below w.heap.size w w' ∧ SI w' x (s.filter fun y => decide (y ∈ recsS l)) := by
  obtain ⟨A, cap, rfl, hcap⟩ := hl.form
  obtain ⟨B, bcap, rfl, _⟩ := hs.form
  have hI := hs.allI
  refine gives_of (vs := [.slice A l.length cap, .slice B s.length bcap]) [(0, none, _), (1, none, _)] Try.func24 rfl Try.ntmps24 rfl rfl ?_
  refine CW.seq (CW.region ?_)
  refine TW.assign rfl rfl rfl ct ?_
  refine TW.nil (KW.pick [0, 1, 4] [(0, _, _), (1, _, _), (4, _, _)] rfl (KW.then_ ?_))
  refine CW.seq (CW.region ?_)
  refine TW.buildSlice0 3 rfl rfl eo24 ?_
  rintro g1 w1 f1
  refine TW.assign rfl rfl rfl ct ?_
  refine TW.nil (KW.pick [0, 1, 4, 5] [(0, _, _), (1, _, _), (4, _, _), (5, _, _)] rfl (KW.then_ ?_))
  refine CW.seq (CW.region ?_)
  refine TW.move rfl rfl rfl ct ?_
  refine TW.call0 (cap := []) rfl rfl en19 rfl (Args.cons rfl ct Args.nil) (rrecords_c (hl.below f1.below) hsm hne) ?_
  rintro rv w2 ⟨hb2, hrv⟩
  have hb02 := f1.below.step hb2
  have hB1 := f1.blk.next hb2
  refine TW.assign rfl rfl rfl ct ?_
  refine TW.nil (KW.pick [0, 1, 4, 5, 6] [(0, _, _), (1, _, _), (4, _, _), (5, _, _), (6, _, _)] rfl (KW.then_ ?_))
  refine CW.seq (CW.seq (CW.region ?_))
  refine TW.assign rfl rfl rfl ct ?_
  refine TW.nil (KW.pick [0, 1, 4, 5, 6, 7] [(0, _, _), (1, _, _), (4, _, _), (5, _, _), (6, _, _), (7, _, _)] rfl (KW.then_ ?_))
  refine CW.block ?_
  have hrv' : SL intT (fun k => w1.heap.size ≤ k ∧ k < w2.heap.size) w2 rv (recsS l) := hrv.nb intT_nb
  have hs1 := f1.size
  have ha1 := f1.at_
  have hs2 := hb2.size
  refine CW.loopS (fun x : Nat × Value => [(1, none, .slice B s.length bcap), (5, none, x.2), (6, none, rv), (7, none, .int .i64 (x.1 : Int))])
    (fun x W => x.1 ≤ s.length ∧ Below w.heap.size w W ∧ w2.heap.size ≤ W.heap.size ∧ SL intT (fun k => w1.heap.size ≤ k ∧ k < w2.heap.size) W rv (recsS l) ∧ (∃ ys, ys = (s.take x.1).filter (fun y => decide (y ∈ recsS l)) ∧ ys.length ≤ x.1 ∧ OwnS W 3 1 x.2 ys.length (ys.map (Value.int .i64))) ∧ ∀ g, x.2.ownBlock = some g → w.heap.size ≤ g ∧ (g < w1.heap.size ∨ w2.heap.size ≤ g)) (fun x => s.length - x.1) (0, .slice (some ⟨g1, 0, none⟩) 0 0) [1, 5, 6, 7]
    ⟨by simp, hb02, Nat.le_refl _, hrv', ⟨[], rfl, by simp, OwnS.of_blk hB1 (by simp) (by omega)⟩, fun g hg => by simp [Value.ownBlock] at hg; omega⟩ rfl ?_
  rintro ⟨k, ov⟩ W ⟨hk, hW, hsW, hrW, ⟨ys, hys, hyl, how⟩, hob⟩
  dsimp only at hk hys how hob hyl
  refine CW.seq (CW.seq (CW.region ?_))
  refine TW.move rfl rfl rfl ct ?_
  refine TW.move rfl rfl rfl ct ?_
  refine TW.lenSlice rfl rfl Try.underlying24 rfl ct ?_
  refine TW.lss rfl rfl rfl ct rfl ct ?_
  refine TW.nil (KW.pick [1, 5, 6, 7, 14] [(1, _, _), (5, _, _), (6, _, _), (7, _, _), (14, _, _)] rfl (KW.then_ ?_))
  refine CW.condP rfl (fun hlt => ?_) (fun hge => ?_)
  · obtain ⟨x, hx, hxm⟩ := getx (l := s) (k := k) (by omega)
    have hsl := hs.below hW
    obtain ⟨ad, rfl⟩ := hsl.addr (by omega)
    have htake : (s.take (k + 1)).filter (fun y => decide (y ∈ recsS l)) = ys ++ (if x ∈ recsS l then [x] else []) := by
      rw [List.take_add_one, hx, List.filter_append, ← hys]
      congr 1
      simp [List.filter_cons]
    refine CW.skip (KW.then_ (CW.seq (CW.block (CW.seq (CW.region ?_)))))
    refine TW.move rfl rfl rfl ct ?_
    refine TW.move rfl rfl rfl ct ?_
    refine TW.move rfl rfl rfl ct ?_
    refine TW.indexAddr rfl rfl Try.underlying24 sz3 rfl ct rfl ct (fun _ => by (try dsimp only); omega) ?_
    refine TW.load rfl rfl one3 rfl ct (fun _ => hsl.getI hx) ?_
    refine TW.call0 (cap := []) rfl rfl en40 rfl (Args.cons rfl ct (Args.cons rfl ct Args.nil)) (rin_c hrW) ?_
    rintro y3 w3 ⟨hb3, rfl⟩
    have hs3 := hb3.size
    have hW3 := hW.step hb3
    have how3 := how.below hb3
    have hsl3 := hs.below hW3
    refine TW.nil (KW.pick [1, 5, 6, 7, 22] [(1, _, _), (5, _, _), (6, _, _), (7, _, _), (22, _, _)] rfl (KW.then_ ?_))
    refine CW.condP rfl (fun hin => ?_) (fun hout => ?_)
    · rw [if_pos hin] at htake
      refine CW.region ?_
      refine TW.move rfl rfl rfl ct ?_
      refine TW.move rfl rfl rfl ct ?_
      refine TW.move rfl rfl rfl ct ?_
      refine TW.indexAddr rfl rfl Try.underlying24 sz3 rfl ct rfl ct (fun _ => by (try dsimp only); omega) ?_
      refine TW.load rfl rfl one3 rfl ct (fun _ => hsl3.getI hx) ?_
      refine TW.buildSlice 3 _ rfl rfl rfl eo24 (Args.cons rfl ct Args.nil) rfl rfl rfl rfl rfl ?_
      rintro g4 w4 f4
      refine TW.append [.int .i64 x] rfl rfl go24 rfl (how3.below f4.below) rfl rfl (fun j v hj => ⟨⟨g4, 0, none⟩, rfl, f4.blk.fld hj⟩) (fun v hv => by simp at hv; subst hv; rfl) (by omega) (by omega) ?_
      rintro ov' w5 o5 hg5 hn5
      have hs4 := f4.below.size
      have hs5 := hg5.size
      have hW4 := hW3.step f4.below
      refine TW.assign rfl rfl rfl ct ?_
      refine TW.nil (KW.pick [1, 5, 6, 7] [(1, _, _), (5, _, _), (6, _, _), (7, _, _)] rfl (KW.blockN (KW.then_ ?_)))
      refine CW.region ?_
      refine TW.move rfl rfl rfl ct ?_
      refine TW.add rfl rfl rfl ct rfl ct (fun _ => by (try dsimp only); omega) ?_
      refine TW.assign rfl rfl rfl ct ?_
      refine TW.nil (KW.pick [1, 5, 6, 7] [(1, _, _), (5, _, _), (6, _, _), (7, _, _)] rfl ?_)
      refine KW.round (k + 1, ov') [1, 5, 6, 7] rfl ⟨by show k + 1 ≤ s.length; omega, hW4.grown hg5 hW4.size (fun q hq => (hob q hq).1), by show w2.heap.size ≤ w5.heap.size; omega, ?_, ⟨ys ++ [x], htake.symm, by simp; omega, by simpa using o5⟩, fun g hg => ?_⟩ (by show s.length - (k + 1) < s.length - k; omega)
      · refine ((hrW.below hb3).below f4.below).mono (Kept.of_blocks fun q hq hlt => hg5.block q hlt (fun e => ?_))
        have := (hob q e.symm).2
        omega
      · rcases hn5 with h | h
        · exact hob g (by rw [← h]; exact hg)
        · rw [h] at hg
          cases hg
          exact ⟨by have := hW4.size; omega, .inr (by omega)⟩
    · rw [if_neg hout, List.append_nil] at htake
      refine CW.skip (KW.blockN (KW.then_ (CW.region ?_)))
      refine TW.move rfl rfl rfl ct ?_
      refine TW.add rfl rfl rfl ct rfl ct (fun _ => by (try dsimp only); omega) ?_
      refine TW.assign rfl rfl rfl ct ?_
      refine TW.nil (KW.pick [1, 5, 6, 7] [(1, _, _), (5, _, _), (6, _, _), (7, _, _)] rfl ?_)
      refine KW.round (k + 1, ov) [1, 5, 6, 7] rfl ⟨by show k + 1 ≤ s.length; omega, hW3, by show w2.heap.size ≤ w3.heap.size; omega, hrW.below hb3, ⟨ys, htake.symm, by show ys.length ≤ k + 1; omega, how3⟩, hob⟩ (by show s.length - (k + 1) < s.length - k; omega)
  · rw [List.take_of_length_le (by omega)] at hys
    subst hys
    refine CW.exit (KW.thenX (KW.thenX (KW.blockX (KW.then_ (CW.seq (CW.region ?_))))))
    refine TW.move rfl rfl rfl ct ?_
    refine TW.assign rfl rfl rfl ct ?_
    refine TW.nil (KW.pick [1, 4, 5, 6, 7] [(1, _, _), (4, _, _), (5, _, _), (6, _, _), (7, _, _)] rfl (KW.then_ ?_))
    refine CW.ret ?_
    refine ret1 Try.results24 rfl (⟨hW, OwnS.toInts how (fun x hx => hI x (List.mem_filter.1 hx).1) (fun g hg => how.lt hg) (by omega)⟩)

structure FineP (d : Dist) (l : List Ev) (most : Int) : Prop where
  few : FewP d l
  wf : WfP d l
  m0 : 0 ≤ most
  m3 : most ≤ 3
  rl : (recsS l).length ≤ 14

set_option maxRecDepth 20000 in
theorem fine_c {w : World} {v u : Value} {d : Dist} {l : List Ev} {most : Int} (hd : SD w v d) (hl : SE w u l) : Gives Try.prog 18 #[v, u, .int .i64 most] w fun x w' => Below w.heap.size w w' ∧ x = .bool (dec (FineP d l most)) := by
  obtain ⟨A, cap, rfl, _⟩ := hd.form
  obtain ⟨B, bcap, rfl, _⟩ := hl.form
  refine gives_of (vs := [.slice A d.length cap, .slice B l.length bcap, .int .i64 most]) [(0, none, _), (1, none, _), (2, none, _)] Try.func18 rfl Try.ntmps18 rfl rfl ?_
  refine CW.seq (CW.region ?_)
  refine TW.assign rfl rfl rfl ct ?_
  refine TW.nil (KW.pick [0, 1, 2, 6] [(0, _, _), (1, _, _), (2, _, _), (6, _, _)] rfl (KW.then_ ?_))
  refine CW.seq (CW.region ?_)
  refine TW.move rfl rfl rfl ct ?_
  refine TW.move rfl rfl rfl ct ?_
  refine TW.call0 (cap := []) rfl rfl en11 rfl (Args.cons rfl ct (Args.cons rfl ct Args.nil)) (rfew28_c hd hl) ?_
  rintro y w1 ⟨hb1, rfl⟩
  refine TW.move rfl rfl rfl ct ?_
  refine TW.move rfl rfl rfl ct ?_
  refine TW.move rfl rfl rfl ct ?_
  by_cases hq : FewP d l ∧ WfP d l ∧ 0 ≤ most ∧ most ≤ 3
  · obtain ⟨q1, q2, q3, q4⟩ := hq
    refine TW.callF (cap := []) rfl rfl en25 rfl ct (Args.cons rfl id (Args.cons rfl id Args.nil)) (fun _ => rvalid28_c (sd_step hd hb1) (se_step hl hb1)) ?_
    rintro w2 hb2
    refine TW.pickAnd rfl rfl rfl ct rfl pAnd0 ?_
    refine TW.move rfl rfl rfl ct ?_
    refine TW.move rfl rfl rfl ct ?_
    refine TW.geq rfl rfl rfl id rfl ct ?_
    refine TW.pickAnd rfl rfl rfl ct rfl pAnd0 ?_
    refine TW.move rfl rfl rfl ct ?_
    refine TW.move rfl rfl rfl ct ?_
    refine TW.leq rfl rfl rfl id rfl ct ?_
    refine TW.pickAnd rfl rfl rfl ct rfl pAnd0 ?_
    refine TW.move rfl rfl rfl ct ?_
    refine TW.known rfl (by simp only [Cnd, dec_pos q1, dec_pos q2]; simp [q3, q4]) ?_
    refine TW.move rfl rfl rfl ct ?_
    refine TW.known rfl (by simp only [Cnd, dec_pos q1, dec_pos q2]; simp [q3, q4]) ?_
    have hb02 := hb1.step hb2
    refine TW.call0 (cap := []) rfl rfl en19 rfl (Args.cons rfl ct Args.nil) (rrecords_c (hl.below hb02) (by have := q1.fd.l1; omega) (fun e he => by have := q1.nd e he; omega)) ?_
    rintro y3 w3 ⟨hb3, h3⟩
    obtain ⟨C, ccap, rfl, _⟩ := h3.form
    refine TW.known rfl (by simp only [Cnd, dec_pos q1, dec_pos q2]; simp [q3, q4]) ?_
    refine TW.lenSlice rfl rfl Try.underlying24 rfl ct ?_
    refine TW.known rfl (by simp only [Cnd, dec_pos q1, dec_pos q2]; simp [q3, q4]) ?_
    refine TW.leq rfl rfl rfl ct rfl ct ?_
    refine TW.pickAnd rfl rfl rfl ct rfl pT ?_
    refine TW.assign rfl rfl rfl ct ?_
    refine TW.nil (KW.pick [0, 1, 2, 6] [(0, _, _), (1, _, _), (2, _, _), (6, _, _)] rfl (KW.then_ ?_))
    refine CW.ret ?_
    refine ret1 Try.results18 rfl (⟨hb02.step hb3, ?_⟩)
    rw [dec_pos q1, dec_pos q2]
    by_cases h14 : (recsS l).length ≤ 14
    · rw [dec_pos ⟨q1, q2, q3, q4, h14⟩]
      simp [q3, q4]
      omega
    · rw [dec_neg (fun h => h14 h.rl)]
      simp [q3, q4]
      omega
  · skip
    have hf : (((dec (FewP d l) && dec (WfP d l)) && decide (most ≥ 0)) && decide (most ≤ 3)) = false := by
      cases hh : (((dec (FewP d l) && dec (WfP d l)) && decide (most ≥ 0)) && decide (most ≤ 3)) with
      | false => rfl
      | true =>
        simp only [Bool.and_eq_true, decide_eq_true_eq] at hh
        exact absurd ⟨dec_iff.1 hh.1.1.1, dec_iff.1 hh.1.1.2, hh.1.2, hh.2⟩ hq
    refine TW.callF (cap := []) rfl rfl en25 rfl ct (Args.cons rfl id (Args.cons rfl id Args.nil)) (fun _ => rvalid28_c (sd_step hd hb1) (se_step hl hb1)) ?_
    rintro w2 hb2
    refine TW.pickAnd rfl rfl rfl ct rfl pAnd0 ?_
    refine TW.move rfl rfl rfl ct ?_
    refine TW.move rfl rfl rfl ct ?_
    refine TW.geq rfl rfl rfl id rfl ct ?_
    refine TW.pickAnd rfl rfl rfl ct rfl pAnd0 ?_
    refine TW.move rfl rfl rfl ct ?_
    refine TW.move rfl rfl rfl ct ?_
    refine TW.leq rfl rfl rfl id rfl ct ?_
    refine TW.pickAnd rfl rfl rfl ct rfl pAnd0 ?_
    refine TW.move rfl rfl rfl ct ?_
    refine TW.dead (.bool false) rfl (by simp only [Cnd]; rw [hf]; simp) rfl ?_
    refine TW.dead (.bool false) rfl (by simp only [Cnd]; rw [hf]; simp) rfl ?_
    refine TW.dead (.bool false) rfl (by simp only [Cnd]; rw [hf]; simp) rfl ?_
    refine TW.dead (.bool false) rfl (by simp only [Cnd]; rw [hf]; simp) rfl ?_
    refine TW.pickAnd rfl rfl rfl ct rfl pAnd0 ?_
    refine TW.assign rfl rfl rfl ct ?_
    refine TW.nil (KW.pick [0, 1, 2, 6] [(0, _, _), (1, _, _), (2, _, _), (6, _, _)] rfl (KW.then_ ?_))
    refine CW.ret ?_
    have hb02 := hb1.step hb2
    refine ret1 Try.results18 rfl (⟨hb02, ?_⟩)
    rw [dec_neg (p := FineP d l most) (fun h => hq ⟨h.few, h.wf, h.m0, h.m3⟩), hf]
    rfl
end Go.Proofs.Ytmdjkgkgpkaliaa

namespace Go.Proofs.Ytmdjkgkgpkaliaa
open Go.PF Go.RowKit Go.Ord

/-- a sublist that is too short can be made longer -/
theorem sub_extend {α : Type} : ∀ {l t : List α}, t.Sublist l → ∀ n, t.length ≤ n → n ≤ l.length → ∃ b, t.Sublist b ∧ b.Sublist l ∧ b.length = n
  | [], t, h, n, h1, h2 => ⟨[], by simpa using h, List.Sublist.refl _, by simp at h2; simp [h2]⟩
  | x :: l, t, h, n, h1, h2 => by
    cases h with
    | cons _ h =>
      by_cases hn : n ≤ l.length
      · obtain ⟨b, q1, q2, q3⟩ := sub_extend h n h1 hn
        exact ⟨b, q1, q2.cons x, q3⟩
      · simp at h2
        exact ⟨x :: l, h.cons x, List.Sublist.refl _, by simp; omega⟩
    | cons_cons _ h =>
      rename_i t'
      simp at h1 h2
      obtain ⟨b, q1, q2, q3⟩ := sub_extend h (n - 1) (by omega) (by omega)
      exact ⟨x :: b, q1.cons_cons x, q2.cons_cons x, by simp; omega⟩

theorem gone_iff {S : List Int} {e : Ev} : gone S e = true ↔ ∃ r ∈ e.needs, r ∈ S := by
  unfold gone
  simp
theorem rest_less {l : List Ev} {S T : List Int} (h : ∀ e ∈ l, gone S e = true → gone T e = true) : (restS l T).Sublist (restS l S) := by
  unfold restS
  have e1 : l.filter (fun e => !gone T e) = (l.filter (fun e => !gone S e)).filter (fun e => !gone T e) := by
    rw [List.filter_filter]
    refine List.filter_congr fun e he => ?_
    cases h1 : gone S e with
    | false => simp
    | true => simp [h e he h1]
  rw [e1]
  exact List.filter_sublist

structure WOK (d : Dist) (l : List Ev) (most : Int) : Prop where
  wf : WfP d l
  m0 : 0 ≤ most
  m3 : most ≤ 3
  rl : (recsS l).length ≤ 14
theorem FineP.wok {d : Dist} {l : List Ev} {most : Int} (h : FineP d l most) : WOK d l most := ⟨h.wf, h.m0, h.m3, h.rl⟩
theorem WOK.eq {d : Dist} {l : List Ev} {most : Int} (h : WOK d l most) : worldsS d l most = (setsS (recsS l) (min most.toNat (recsS l).length)).filter (fun S => dec (Poss d (restS l S))) := by
  unfold worldsS
  rw [if_pos ⟨dec_pos h.wf, h.m0, h.m3, h.rl⟩]
theorem WOK.mem {d : Dist} {l : List Ev} {most : Int} (h : WOK d l most) {b : List Int} : b ∈ worldsS d l most ↔ b.Sublist (recsS l) ∧ b.length = min most.toNat (recsS l).length ∧ Poss d (restS l b) := by
  rw [h.eq, List.mem_filter, mem_setsS, dec_iff, and_assoc]
theorem WOK.err {d : Dist} {l : List Ev} {most : Int} (h : WOK d l most) : worldsE d l most = if worldsS d l most = [] then 280 else 0 := by
  unfold worldsE
  rw [if_pos ⟨dec_pos h.wf, h.m0, h.m3⟩, if_pos h.rl]
theorem WOK.ok {d : Dist} {l : List Ev} {most : Int} (h : WOK d l most) {b : List Int} (hb : b ∈ worldsS d l most) : worldsE d l most = 0 := by
  rw [h.err, if_neg (fun e => by rw [e] at hb; cases hb)]
/-- what is possible without some records lies in a world -/
theorem WOK.has {d : Dist} {l : List Ev} {most : Int} (h : WOK d l most) {s : List Int} (hs : (s.length : Int) ≤ most) (hp : Poss d (restS l s)) : ∃ b ∈ worldsS d l most, ∀ x ∈ s.filter (fun y => decide (y ∈ recsS l)), x ∈ b := by
  have hm := h.m0
  have hnd : (recsS l).Nodup := (recsS_inc l).nodup
  have hsub : ((recsS l).filter fun y => decide (y ∈ s)).Sublist (recsS l) := List.filter_sublist
  have hle : ((recsS l).filter fun y => decide (y ∈ s)).length ≤ s.length := nodup_len (hnd.sublist hsub) (fun x hx => by
    have := (List.mem_filter.1 hx).2
    simpa using this)
  have hle2 := hsub.length_le
  obtain ⟨b, q1, q2, q3⟩ := sub_extend hsub (min most.toNat (recsS l).length) (by omega) (by omega)
  have hin : ∀ x ∈ s, x ∈ recsS l → x ∈ b := fun x h1 h2 => q1.subset (List.mem_filter.2 ⟨h2, by simpa using h1⟩)
  refine ⟨b, h.mem.2 ⟨q2, q3, hp.sub (rest_less fun e he hg => ?_)⟩, fun x hx => ?_⟩
  · obtain ⟨r, hr, hrs⟩ := gone_iff.1 hg
    exact gone_iff.2 ⟨r, hr, hin r hrs (mem_recsS.2 ⟨e, he, hr⟩)⟩
  · obtain ⟨h1, h2⟩ := List.mem_filter.1 hx
    exact hin x h1 (by simpa using h2)

theorem WfP.sub {d : Dist} {l l' : List Ev} (h : WfP d l) (hs : l'.Sublist l) : WfP d l' :=
  ⟨h.wd, by have := hs.length_le; have := h.few; omega, fun e he => h.each e (hs.subset he), fun e he => h.pos e (hs.subset he)⟩
theorem recs_sub {l l' : List Ev} (hs : l'.Sublist l) : ∀ x ∈ recsS l', x ∈ recsS l := fun x hx => by
  obtain ⟨e, he, hxe⟩ := mem_recsS.1 hx
  exact mem_recsS.2 ⟨e, hs.subset he, hxe⟩
theorem WOK.sub {d : Dist} {l l' : List Ev} {most : Int} (h : WOK d l most) (hs : l'.Sublist l) : WOK d l' most :=
  ⟨h.wf.sub hs, h.m0, h.m3, by have := nodup_len (recsS_inc l').nodup (recs_sub hs); have := h.rl; omega⟩
theorem WOK.len {d : Dist} {l : List Ev} {most : Int} (h : WOK d l most) {b : List Int} (hb : b ∈ worldsS d l most) : (b.length : Int) ≤ most := by
  have := (h.mem.1 hb).2.1
  have := h.m0
  omega
theorem WOK.more {d : Dist} {l : List Ev} {most : Int} (h : WOK d l most) (h3 : most < 3) {b : List Int} (hb : b ∈ worldsS d l most) : ∃ c ∈ worldsS d l (most + 1), ∀ x ∈ b, x ∈ c := by
  have hw : WOK d l (most + 1) := ⟨h.wf, by have := h.m0; omega, by omega, h.rl⟩
  obtain ⟨q1, q2, q3⟩ := h.mem.1 hb
  obtain ⟨c, hc, hin⟩ := hw.has (s := b) (by have := h.len hb; omega) q3
  exact ⟨c, hc, fun x hx => hin x (List.mem_filter.2 ⟨hx, by simpa using q1.subset hx⟩)⟩
theorem WOK.fewer {d : Dist} {l l' : List Ev} {most : Int} (h : WOK d l most) (hs : l'.Sublist l) {b : List Int} (hb : b ∈ worldsS d l most) : ∃ c ∈ worldsS d l' most, ∀ x ∈ b.filter (fun y => decide (y ∈ recsS l')), x ∈ c := by
  obtain ⟨q1, q2, q3⟩ := h.mem.1 hb
  exact (h.sub hs).has (h.len hb) (q3.sub (hs.filter _))

/-! ### the order of the sets -/
theorem lex_heads {x y : Int} {a b : List Int} (h : x < y) : lexS (x :: a) (y :: b) = true := by
  unfold lexS
  rw [if_neg (by omega)]
  simpa using h
theorem setsS_lex : ∀ {l : List Int}, Inc l → ∀ k, (setsS l k).Pairwise fun a b => lexS a b = true
  | l, _, 0 => by
    have : setsS l 0 = [[]] := by cases l <;> rfl
    rw [this]; exact List.pairwise_singleton _ _
  | [], _, k + 1 => List.Pairwise.nil
  | x :: l, h, k + 1 => by
    have h' := List.pairwise_cons.1 h
    simp only [setsS]
    refine List.pairwise_append.2 ⟨?_, setsS_lex h'.2 (k + 1), fun a ha b hb => ?_⟩
    · rw [List.pairwise_map]
      exact (setsS_lex h'.2 k).imp fun hab => by simp only [lexS, if_true]; exact hab
    · obtain ⟨a', _, rfl⟩ := List.mem_map.1 ha
      obtain ⟨hbs, hbl⟩ := mem_setsS.1 hb
      cases b with
      | nil => simp at hbl
      | cons y b => exact lex_heads (h'.1 y (hbs.subset (by simp)))
theorem WOK.lex {d : Dist} {l : List Ev} {most : Int} (h : WOK d l most) : (worldsS d l most).Pairwise fun a b => lexS a b = true := by
  rw [h.eq]
  exact (setsS_lex (recsS_inc l) _).sublist List.filter_sublist
theorem WOK.inc {d : Dist} {l : List Ev} {most : Int} (h : WOK d l most) {b : List Int} (hb : b ∈ worldsS d l most) : Inc b := (recsS_inc l).sublist (h.mem.1 hb).1
end Go.Proofs.Ytmdjkgkgpkaliaa
