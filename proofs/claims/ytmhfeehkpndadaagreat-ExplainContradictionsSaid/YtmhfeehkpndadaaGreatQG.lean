/- Texts joined: Rf Rg Ho Da. -/
import Derived.Test.YtmhfeehkpndadaaGreatQF
import Derived.Test.YtmhfeehkpndadaaGreatQC
set_option linter.unusedSimpArgs false
set_option linter.unusedVariables false

namespace Go.Proofs.YtmhfeehkpndadaaGreat
open Go.PF Go.RowKit Go.Ord

def Upto {α : Type} (p : α → Prop) (l : List α) (k : Nat) : Prop := ∀ (i : Nat) (e : α), i < k → l[i]? = some e → p e
theorem Upto.zero {α : Type} {p : α → Prop} {l : List α} : Upto p l 0 := fun i e hi => by omega
theorem Upto.succ {α : Type} {p : α → Prop} {l : List α} {k : Nat} {x : α} (h : Upto p l k) (hx : l[k]? = some x) (hp : p x) : Upto p l (k + 1) := fun i e hi he => by
  rcases Nat.lt_or_ge i k with h' | h'
  · exact h i e h' he
  · obtain rfl : i = k := by omega
    rw [hx] at he; cases he
    exact hp
theorem Upto.all {α : Type} {p : α → Prop} {l : List α} {k : Nat} (h : Upto p l k) (hk : l.length ≤ k) : ∀ e ∈ l, p e := fun e he => by
  obtain ⟨i, hi, hie⟩ := List.getElem_of_mem he
  exact h i e (by omega) (by rw [← hie]; exact List.getElem?_eq_getElem hi)
theorem getx {α : Type} {l : List α} {k : Nat} (h : k < l.length) : ∃ x, l[k]? = some x ∧ x ∈ l := ⟨l[k], List.getElem?_eq_getElem h, List.getElem_mem h⟩
abbrev SI (w : World) (v : Value) (l : List Int) : Prop := SL intT (fun k => k < w.heap.size) w v l
theorem si_step {w w' : World} {v : Value} {l : List Int} (h : SI w v l) (hb : Below w.heap.size w w') : SI w' v l := h.step intT_now hb

theorem rin_c {w : World} {F : Nat → Prop} {v : Value} {l : List Int} {n : Int} (hl : SL intT F w v l) : Gives Tryz.prog 42 #[v, .int .i64 n] w fun x w' => Below w.heap.size w w' ∧ x = .bool (decide (n ∈ l)) := by
  obtain ⟨A, cap, rfl, _⟩ := hl.form
  have hmax := hl.len.2.2
  refine gives_of (vs := [.slice A l.length cap, .int .i64 n]) [(0, none, _), (1, none, _)] Tryz.func42 rfl Tryz.ntmps42 rfl rfl ?_
  refine CW.seq (CW.region ?_)
  refine TW.assign rfl rfl rfl ct ?_
  refine TW.nil (KW.pick [0, 1, 4] [(0, _, _), (1, _, _), (4, _, _)] rfl (KW.then_ ?_))
  refine CW.seq (CW.seq (CW.region ?_))
  refine TW.assign rfl rfl rfl ct ?_
  refine TW.nil (KW.pick [0, 1, 4, 5] [(0, _, _), (1, _, _), (4, _, _), (5, _, _)] rfl (KW.then_ ?_))
  refine CW.block ?_
  refine CW.loopS (fun k : Nat => [(0, none, .slice A l.length cap), (1, none, .int .i64 n), (5, none, .int .i64 (k : Int))])
    (fun k W => k ≤ l.length ∧ W = w ∧ Upto (· ≠ n) l k) (fun k => l.length - k) 0 [0, 1, 5] ⟨by omega, rfl, Upto.zero⟩ rfl ?_
  rintro k W ⟨hk, rfl, hup⟩
  refine CW.seq (CW.seq (CW.region ?_))
  refine TW.move rfl rfl rfl ct ?_
  refine TW.move rfl rfl rfl ct ?_
  refine TW.lenSlice rfl rfl Tryz.underlying24 rfl ct ?_
  refine TW.lss rfl rfl rfl ct rfl ct ?_
  refine TW.nil (KW.pick [0, 1, 5, 9] [(0, _, _), (1, _, _), (5, _, _), (9, _, _)] rfl (KW.then_ ?_))
  refine CW.condP rfl (fun hlt => ?_) (fun hge => ?_)
  · obtain ⟨x, hx, hxm⟩ := getx (l := l) (k := k) (by omega)
    obtain ⟨ad, rfl⟩ := hl.addr (by omega)
    refine CW.skip (KW.then_ (CW.seq (CW.block (CW.seq (CW.region ?_)))))
    refine TW.move rfl rfl rfl ct ?_
    refine TW.move rfl rfl rfl ct ?_
    refine TW.indexAddr rfl rfl Tryz.underlying24 sz3 rfl ct rfl ct (fun _ => by (try dsimp only); omega) ?_
    refine TW.load rfl rfl one3 rfl ct (fun _ => hl.getI hx) ?_
    refine TW.move rfl rfl rfl ct ?_
    refine TW.eql rfl rfl rfl ct rfl ct ?_
    refine TW.nil (KW.pick [0, 1, 5, 17] [(0, _, _), (1, _, _), (5, _, _), (17, _, _)] rfl (KW.then_ ?_))
    refine CW.condP rfl (fun he => ?_) (fun hn => ?_)
    · refine CW.seq (CW.region ?_)
      refine TW.assign rfl rfl rfl ct ?_
      refine TW.nil (KW.pick [0, 1, 4, 5] [(0, _, _), (1, _, _), (4, _, _), (5, _, _)] rfl (KW.then_ ?_))
      refine CW.ret (KW.blockR (KW.thenR (KW.thenR (KW.blockR (KW.thenR ?_)))))
      refine ret1 Tryz.results42 rfl (⟨Below.refl _ _, by rw [decide_eq_true (he ▸ hxm)]⟩)
    refine CW.skip (KW.blockN (KW.then_ (CW.region ?_)))
    refine TW.move rfl rfl rfl ct ?_
    refine TW.add rfl rfl rfl ct rfl ct (fun _ => by (try dsimp only); omega) ?_
    refine TW.assign rfl rfl rfl ct ?_
    refine TW.nil (KW.pick [0, 1, 5] [(0, _, _), (1, _, _), (5, _, _)] rfl ?_)
    refine KW.round (k + 1) [0, 1, 5] rfl ⟨by omega, rfl, hup.succ hx hn⟩ (by omega)
  · refine CW.exit (KW.thenX (KW.thenX (KW.blockX (KW.then_ (CW.seq (CW.region ?_))))))
    refine TW.assign rfl rfl rfl ct ?_
    refine TW.nil (KW.pick [0, 1, 4, 5] [(0, _, _), (1, _, _), (4, _, _), (5, _, _)] rfl (KW.then_ ?_))
    refine CW.ret ?_
    refine ret1 Tryz.results42 rfl (⟨Below.refl _ _, by rw [decide_eq_false (fun h => hup.all (by omega) n h rfl)]⟩)

theorem take_next {α : Type} {l l' : List α} {k : Nat} {x y : α} (h : l.take k = l'.take k) (hx : l[k]? = some x) (hy : l'[k]? = some y) (e : x = y) : l.take (k + 1) = l'.take (k + 1) := by
  rw [List.take_add_one, List.take_add_one, h, hx, hy, e]
theorem take_all {α : Type} {l l' : List α} {k : Nat} (h : l.take k = l'.take k) (hl : l.length = l'.length) (hk : l.length ≤ k) : l = l' := by
  have e1 := List.take_of_length_le (l := l) (i := k) (by omega)
  have e2 := List.take_of_length_le (l := l') (i := k) (by omega)
  rw [← e1, ← e2, h]

end Go.Proofs.YtmhfeehkpndadaaGreat

namespace Go.Proofs.YtmhfeehkpndadaaGreat
open Go.PF Go.RowKit Go.Ord

structure FewD (d : Dist) (l : List Ev) (o m : Int) : Prop where
  d1 : (d.length : Int) ≤ o
  l1 : (l.length : Int) ≤ m
  r1 : ∀ r ∈ d, (r.length : Int) ≤ o

theorem rfew27_c {w : World} {F G : Nat → Prop} {v u : Value} {d : Dist} {l : List Ev} {o m : Int} (hd : SL (sliceT intT) F w v d) (hl : SL evT G w u l) : Gives Tryz.prog 57 #[v, u, .int .i64 o, .int .i64 m] w fun x w' => Below w.heap.size w w' ∧ x = .bool (dec (FewD d l o m)) := by
  obtain ⟨A, cap, rfl, _⟩ := hd.form
  obtain ⟨B, bcap, rfl, _⟩ := hl.form
  have hmax : d.length ≤ 9223372036854775807 := hd.len.2.2
  refine gives_of (vs := [.slice A d.length cap, .slice B l.length bcap, .int .i64 o, .int .i64 m]) [(0, none, _), (1, none, _), (2, none, _), (3, none, _)] Tryz.func57 rfl Tryz.ntmps57 rfl rfl ?_
  refine CW.seq (CW.region ?_)
  refine TW.assign rfl rfl rfl ct ?_
  refine TW.nil (KW.pick [0, 1, 2, 3, 8] [(0, _, _), (1, _, _), (2, _, _), (3, _, _), (8, _, _)] rfl (KW.then_ ?_))
  refine CW.seq (CW.seq (CW.region ?_))
  refine TW.move rfl rfl rfl ct ?_
  refine TW.lenSlice rfl rfl Tryz.underlying22 rfl ct ?_
  refine TW.move rfl rfl rfl ct ?_
  refine TW.gtr rfl rfl rfl ct rfl ct ?_
  refine TW.move rfl rfl rfl ct ?_
  refine TW.move rfl rfl rfl ct ?_
  refine TW.lenSlice rfl rfl Tryz.underlying23 rfl id ?_
  refine TW.move rfl rfl rfl ct ?_
  refine TW.gtr rfl rfl rfl id rfl id ?_
  refine TW.pickOr rfl rfl rfl ct rfl pOr0 ?_
  refine TW.nil (KW.pick [0, 1, 2, 3, 8, 19] [(0, _, _), (1, _, _), (2, _, _), (3, _, _), (8, _, _), (19, _, _)] rfl (KW.then_ ?_))
  refine CW.cond rfl (fun hbad => ?_) (fun hgood => ?_)
  · refine CW.seq (CW.region ?_)
    refine TW.assign rfl rfl rfl ct ?_
    refine TW.nil (KW.pick [0, 1, 2, 3, 8] [(0, _, _), (1, _, _), (2, _, _), (3, _, _), (8, _, _)] rfl (KW.then_ ?_))
    refine CW.ret (KW.thenR ?_)
    refine ret1 Tryz.results57 rfl (⟨Below.refl _ _, by rw [dec_neg (fun h => by have := h.d1; have := h.l1; simp at hbad; omega)]⟩)
  have hg : (d.length : Int) ≤ o ∧ (l.length : Int) ≤ m := by simp at hgood; omega
  refine CW.skip (KW.then_ (CW.seq (CW.seq (CW.region ?_))))
  refine TW.assign rfl rfl rfl ct ?_
  refine TW.nil (KW.pick [0, 1, 2, 3, 8, 9] [(0, _, _), (1, _, _), (2, _, _), (3, _, _), (8, _, _), (9, _, _)] rfl (KW.then_ ?_))
  refine CW.block ?_
  refine CW.loopS (fun k : Nat => [(0, none, .slice A d.length cap), (2, none, .int .i64 o), (9, none, .int .i64 (k : Int))])
    (fun k W => k ≤ d.length ∧ W = w ∧ Upto (fun r : List Int => (r.length : Int) ≤ o) d k) (fun k => d.length - k) 0 [0, 2, 9] ⟨by omega, rfl, Upto.zero⟩ rfl ?_
  rintro k W ⟨hk, rfl, hup⟩
  refine CW.seq (CW.seq (CW.region ?_))
  refine TW.move rfl rfl rfl ct ?_
  refine TW.move rfl rfl rfl ct ?_
  refine TW.lenSlice rfl rfl Tryz.underlying22 rfl ct ?_
  refine TW.lss rfl rfl rfl ct rfl ct ?_
  refine TW.nil (KW.pick [0, 2, 9, 23] [(0, _, _), (2, _, _), (9, _, _), (23, _, _)] rfl (KW.then_ ?_))
  refine CW.condP rfl (fun hlt => ?_) (fun hge => ?_)
  · obtain ⟨x, hx, hxm⟩ := getx (l := d) (k := k) (by omega)
    obtain ⟨ad, rfl⟩ := hd.addr (by omega)
    obtain ⟨rv, hcell, hrow⟩ := hd.row hx
    obtain ⟨C, ccap, rfl, _⟩ := hrow.form
    refine CW.skip (KW.then_ (CW.seq (CW.block (CW.seq (CW.region ?_)))))
    refine TW.move rfl rfl rfl ct ?_
    refine TW.move rfl rfl rfl ct ?_
    refine TW.indexAddr rfl rfl Tryz.underlying22 sz24 rfl ct rfl ct (fun _ => by (try dsimp only); omega) ?_
    refine TW.load rfl rfl one24 rfl ct (fun _ => hcell) ?_
    refine TW.lenSlice rfl rfl Tryz.underlying24 rfl ct ?_
    refine TW.move rfl rfl rfl ct ?_
    refine TW.gtr rfl rfl rfl ct rfl ct ?_
    refine TW.nil (KW.pick [0, 2, 9, 32] [(0, _, _), (2, _, _), (9, _, _), (32, _, _)] rfl (KW.then_ ?_))
    refine CW.condP rfl (fun he => ?_) (fun hn => ?_)
    · refine CW.seq (CW.region ?_)
      refine TW.assign rfl rfl rfl ct ?_
      refine TW.nil (KW.pick [0, 2, 8, 9] [(0, _, _), (2, _, _), (8, _, _), (9, _, _)] rfl (KW.then_ ?_))
      refine CW.ret (KW.blockR (KW.thenR (KW.thenR (KW.blockR (KW.thenR ?_)))))
      refine ret1 Tryz.results57 rfl (⟨Below.refl _ _, by rw [dec_neg (fun h => by have := h.r1 x hxm; omega)]⟩)
    refine CW.skip (KW.blockN (KW.then_ (CW.region ?_)))
    refine TW.move rfl rfl rfl ct ?_
    refine TW.add rfl rfl rfl ct rfl ct (fun _ => by (try dsimp only); omega) ?_
    refine TW.assign rfl rfl rfl ct ?_
    refine TW.nil (KW.pick [0, 2, 9] [(0, _, _), (2, _, _), (9, _, _)] rfl ?_)
    refine KW.round (k + 1) [0, 2, 9] rfl ⟨by omega, rfl, hup.succ hx (by omega)⟩ (by omega)
  · refine CW.exit (KW.thenX (KW.thenX (KW.blockX (KW.then_ (CW.seq (CW.region ?_))))))
    refine TW.assign rfl rfl rfl ct ?_
    refine TW.nil (KW.pick [0, 2, 8, 9] [(0, _, _), (2, _, _), (8, _, _), (9, _, _)] rfl (KW.then_ ?_))
    refine CW.ret ?_
    refine ret1 Tryz.results57 rfl (⟨Below.refl _ _, by rw [dec_pos ⟨hg.1, hg.2, hup.all (by omega)⟩]⟩)

structure FewP (d : Dist) (l : List Ev) : Prop where
  fd : FewD d l 5 8
  nd : ∀ e ∈ l, e.needs.length ≤ 6

theorem rfew28_c {w : World} {F G : Nat → Prop} {v u : Value} {d : Dist} {l : List Ev} (hd : SL (sliceT intT) F w v d) (hl : SL evT G w u l) : Gives Tryz.prog 30 #[v, u] w fun x w' => Below w.heap.size w w' ∧ x = .bool (dec (FewP d l)) := by
  obtain ⟨A, cap, rfl, _⟩ := hd.form
  obtain ⟨B, bcap, rfl, _⟩ := hl.form
  have hmax : l.length ≤ 9223372036854775807 := hl.len.2.2
  refine gives_of (vs := [.slice A d.length cap, .slice B l.length bcap]) [(0, none, _), (1, none, _)] Tryz.func30 rfl Tryz.ntmps30 rfl rfl ?_
  refine CW.seq (CW.region ?_)
  refine TW.assign rfl rfl rfl ct ?_
  refine TW.nil (KW.pick [0, 1, 4] [(0, _, _), (1, _, _), (4, _, _)] rfl (KW.then_ ?_))
  refine CW.seq (CW.seq (CW.region ?_))
  refine TW.assign rfl rfl rfl ct ?_
  refine TW.nil (KW.pick [0, 1, 4, 5] [(0, _, _), (1, _, _), (4, _, _), (5, _, _)] rfl (KW.then_ ?_))
  refine CW.block ?_
  refine CW.loopS (fun k : Nat => [(0, none, .slice A d.length cap), (1, none, .slice B l.length bcap), (5, none, .int .i64 (k : Int))])
    (fun k W => k ≤ l.length ∧ W = w ∧ Upto (fun e : Ev => e.needs.length ≤ 6) l k) (fun k => l.length - k) 0 [0, 1, 5] ⟨by omega, rfl, Upto.zero⟩ rfl ?_
  rintro k W ⟨hk, rfl, hup⟩
  refine CW.seq (CW.seq (CW.region ?_))
  refine TW.move rfl rfl rfl ct ?_
  refine TW.move rfl rfl rfl ct ?_
  refine TW.lenSlice rfl rfl Tryz.underlying23 rfl ct ?_
  refine TW.lss rfl rfl rfl ct rfl ct ?_
  refine TW.nil (KW.pick [0, 1, 5, 9] [(0, _, _), (1, _, _), (5, _, _), (9, _, _)] rfl (KW.then_ ?_))
  refine CW.condP rfl (fun hlt => ?_) (fun hge => ?_)
  · obtain ⟨x, hx, hxm⟩ := getx (l := l) (k := k) (by omega)
    obtain ⟨ad, rfl⟩ := hl.addr (by omega)
    obtain ⟨nx, cx, _, _, _, hnx⟩ := SE.get hl hx
    obtain ⟨C, ccap, rfl, _⟩ := hnx.form
    refine CW.skip (KW.then_ (CW.seq (CW.block (CW.seq (CW.region ?_)))))
    refine TW.move rfl rfl rfl ct ?_
    refine TW.move rfl rfl rfl ct ?_
    refine TW.indexAddr rfl rfl Tryz.underlying23 sz43 rfl ct rfl ct (fun _ => by (try dsimp only); omega) ?_
    refine TW.fieldAddr rfl rfl fo43_3 rfl ct ?_
    refine TW.load rfl rfl one24 rfl ct (fun _ => cx 3 _ rfl) ?_
    refine TW.lenSlice rfl rfl Tryz.underlying24 rfl ct ?_
    refine TW.gtr rfl rfl rfl ct rfl ct ?_
    refine TW.nil (KW.pick [0, 1, 5, 18] [(0, _, _), (1, _, _), (5, _, _), (18, _, _)] rfl (KW.then_ ?_))
    refine CW.condP rfl (fun he => ?_) (fun hn => ?_)
    · refine CW.seq (CW.region ?_)
      refine TW.assign rfl rfl rfl ct ?_
      refine TW.nil (KW.pick [0, 1, 4, 5] [(0, _, _), (1, _, _), (4, _, _), (5, _, _)] rfl (KW.then_ ?_))
      refine CW.ret (KW.blockR (KW.thenR (KW.thenR (KW.blockR (KW.thenR ?_)))))
      refine ret1 Tryz.results30 rfl (⟨Below.refl _ _, by rw [dec_neg (fun h => by have := h.nd x hxm; omega)]⟩)
    refine CW.skip (KW.blockN (KW.then_ (CW.region ?_)))
    refine TW.move rfl rfl rfl ct ?_
    refine TW.add rfl rfl rfl ct rfl ct (fun _ => by (try dsimp only); omega) ?_
    refine TW.assign rfl rfl rfl ct ?_
    refine TW.nil (KW.pick [0, 1, 5] [(0, _, _), (1, _, _), (5, _, _)] rfl ?_)
    refine KW.round (k + 1) [0, 1, 5] rfl ⟨by omega, rfl, hup.succ hx (by omega)⟩ (by omega)
  · refine CW.exit (KW.thenX (KW.thenX (KW.blockX (KW.then_ (CW.seq (CW.region ?_))))))
    refine TW.move rfl rfl rfl ct ?_
    refine TW.move rfl rfl rfl ct ?_
    refine TW.call0 (cap := []) rfl rfl en57 rfl (Args.cons rfl ct (Args.cons rfl ct (Args.cons rfl ct (Args.cons rfl ct Args.nil)))) (rfew27_c hd hl) ?_
    rintro y w1 ⟨hb1, rfl⟩
    refine TW.assign rfl rfl rfl ct ?_
    refine TW.nil (KW.pick [0, 1, 4, 5] [(0, _, _), (1, _, _), (4, _, _), (5, _, _)] rfl (KW.then_ ?_))
    refine CW.ret ?_
    refine ret1 Tryz.results30 rfl (⟨hb1, by rw [dec_congr (show FewD d l 5 8 ↔ FewP d l from ⟨fun h => ⟨h, hup.all (by omega)⟩, fun h => h.fd⟩)]⟩)

theorem rvalid27_c {w : World} {v u : Value} {d : Dist} {l : List Ev} (hd : SD w v d) (hl : SE w u l) : Gives Tryz.prog 64 #[v, u, .slice none 0 0] w fun x w' => Below w.heap.size w w' ∧ x = .bool (dec (WfE d l)) := by
  obtain ⟨A, cap, rfl, _⟩ := hd.form
  obtain ⟨B, bcap, rfl, _⟩ := hl.form
  have hmax : l.length ≤ 9223372036854775807 := hl.len.2.2
  refine gives_of (vs := [.slice A d.length cap, .slice B l.length bcap, .slice none 0 0]) [(0, none, _), (1, none, _), (2, none, _)] Tryz.func64 rfl Tryz.ntmps64 rfl rfl ?_
  refine CW.seq (CW.region ?_)
  refine TW.assign rfl rfl rfl ct ?_
  refine TW.nil (KW.pick [0, 1, 2, 6] [(0, _, _), (1, _, _), (2, _, _), (6, _, _)] rfl (KW.then_ ?_))
  refine CW.seq (CW.seq (CW.region ?_))
  refine TW.move rfl rfl rfl ct ?_
  refine TW.call0 (cap := []) rfl rfl en90 rfl (Args.cons rfl ct Args.nil) (rdistances_c hd) ?_
  rintro y w1 ⟨hb1, rfl⟩
  refine TW.not rfl rfl rfl ct ?_
  refine TW.move rfl rfl rfl ct ?_
  refine TW.move rfl rfl rfl ct ?_
  refine TW.lenSlice rfl rfl Tryz.underlying23 rfl id ?_
  refine TW.gtr rfl rfl rfl id rfl ct ?_
  refine TW.pickOr rfl rfl rfl ct rfl pOr0 ?_
  refine TW.nil (KW.pick [0, 1, 2, 6, 18] [(0, _, _), (1, _, _), (2, _, _), (6, _, _), (18, _, _)] rfl (KW.then_ ?_))
  refine CW.cond rfl (fun hbad => ?_) (fun hgood => ?_)
  · refine CW.seq (CW.region ?_)
    refine TW.assign rfl rfl rfl ct ?_
    refine TW.nil (KW.pick [0, 1, 2, 6] [(0, _, _), (1, _, _), (2, _, _), (6, _, _)] rfl (KW.then_ ?_))
    refine CW.ret (KW.thenR ?_)
    refine ret1 Tryz.results64 rfl (⟨hb1, by rw [dec_neg (fun h => by simp [dec_pos h.wd] at hbad; have := h.few; omega)]⟩)
  have hwd : WfD d := dec_iff.1 (by cases hq : dec (WfD d) <;> simp_all)
  have hfew : l.length ≤ 16 := by simp [dec_pos hwd] at hgood; omega
  refine CW.skip (KW.then_ (CW.seq (CW.region ?_)))
  refine TW.move rfl rfl rfl ct ?_
  refine TW.lenSlice rfl rfl Tryz.underlying23 rfl ct ?_
  refine TW.makeSlice rfl rfl (zero1_of go97 ze4 rfl) rfl rfl (by omega) (by omega) ?_
  rintro g2 w2 f2
  refine TW.assign rfl rfl rfl ct ?_
  refine TW.nil (KW.pick [0, 1, 2, 6, 7] [(0, _, _), (1, _, _), (2, _, _), (6, _, _), (7, _, _)] rfl (KW.then_ ?_))
  refine CW.seq (CW.seq (CW.region ?_))
  refine TW.assign rfl rfl rfl ct ?_
  refine TW.nil (KW.pick [0, 1, 2, 6, 7, 8] [(0, _, _), (1, _, _), (2, _, _), (6, _, _), (7, _, _), (8, _, _)] rfl (KW.then_ ?_))
  refine CW.block ?_
  have hb02 := hb1.step f2.below
  refine CW.loopS (fun k : Nat => [(0, none, .slice A d.length cap), (1, none, .slice B l.length bcap), (2, none, .slice none 0 0), (8, none, .int .i64 (k : Int))])
    (fun k W => k ≤ l.length ∧ W = w2 ∧ Upto (EOK d) l k) (fun k => l.length - k) 0 [0, 1, 2, 8] ⟨by omega, rfl, Upto.zero⟩ rfl ?_
  rintro k W ⟨hk, rfl, hup⟩
  have hl2 := hl.below hb02
  refine CW.seq (CW.seq (CW.region ?_))
  refine TW.move rfl rfl rfl ct ?_
  refine TW.move rfl rfl rfl ct ?_
  refine TW.lenSlice rfl rfl Tryz.underlying23 rfl ct ?_
  refine TW.lss rfl rfl rfl ct rfl ct ?_
  refine TW.nil (KW.pick [0, 1, 2, 8, 25] [(0, _, _), (1, _, _), (2, _, _), (8, _, _), (25, _, _)] rfl (KW.then_ ?_))
  refine CW.condP rfl (fun hlt => ?_) (fun hge => ?_)
  · obtain ⟨x, hx, hxm⟩ := getx (l := l) (k := k) (by omega)
    obtain ⟨ad, rfl⟩ := hl2.addr (by omega)
    obtain ⟨nx, cx, _, _, _, hnx⟩ := SE.get hl2 hx
    refine CW.skip (KW.then_ (CW.seq (CW.block (CW.seq (CW.region ?_)))))
    refine TW.move rfl rfl rfl ct ?_
    refine TW.move rfl rfl rfl ct ?_
    refine TW.indexAddr rfl rfl Tryz.underlying23 sz43 rfl ct rfl ct (fun _ => by (try dsimp only); omega) ?_
    refine TW.fieldAddr rfl rfl fo43_0 rfl ct ?_
    refine TW.load rfl rfl one3 rfl ct (fun _ => cx 0 _ rfl) ?_
    refine TW.lss rfl rfl rfl ct rfl ct ?_
    refine TW.move rfl rfl rfl ct ?_
    refine TW.move rfl rfl rfl ct ?_
    refine TW.move rfl rfl rfl ct ?_
    refine TW.indexAddr rfl rfl Tryz.underlying23 sz43 rfl id rfl id (fun h => by (try dsimp only); first | omega | (simp [Cnd] at h; omega)) ?_
    refine TW.fieldAddr rfl rfl fo43_0 rfl id ?_
    refine TW.load rfl rfl one3 rfl id (fun _ => cx 0 _ rfl) ?_
    refine TW.move rfl rfl rfl ct ?_
    refine TW.lenSlice rfl rfl Tryz.underlying22 rfl id ?_
    refine TW.geq rfl rfl rfl id rfl id ?_
    refine TW.pickOr rfl rfl rfl ct rfl pOr0 ?_
    refine TW.nil (KW.pick [0, 1, 2, 8, 43] [(0, _, _), (1, _, _), (2, _, _), (8, _, _), (43, _, _)] rfl (KW.then_ ?_))
    refine CW.cond rfl (fun he => ?_) (fun hn => ?_)
    · refine CW.seq (CW.region ?_)
      refine TW.assign rfl rfl rfl ct ?_
      refine TW.nil (KW.pick [0, 1, 2, 6, 8] [(0, _, _), (1, _, _), (2, _, _), (6, _, _), (8, _, _)] rfl (KW.then_ ?_))
      refine CW.ret (KW.blockR (KW.thenR (KW.thenR (KW.blockR (KW.thenR ?_)))))
      refine ret1 Tryz.results64 rfl (⟨hb02, by rw [dec_neg (fun h => by have h1 := (h.each x hxm).o1; have h2 := (h.each x hxm).o2; simp at he; omega)]⟩)
    refine CW.skip (KW.blockN (KW.then_ (CW.region ?_)))
    refine TW.move rfl rfl rfl ct ?_
    refine TW.add rfl rfl rfl ct rfl ct (fun _ => by (try dsimp only); omega) ?_
    refine TW.assign rfl rfl rfl ct ?_
    refine TW.nil (KW.pick [0, 1, 2, 8] [(0, _, _), (1, _, _), (2, _, _), (8, _, _)] rfl ?_)
    refine KW.round (k + 1) [0, 1, 2, 8] rfl ⟨by omega, rfl, hup.succ hx (by simp at hn; exact ⟨by omega, by omega⟩)⟩ (by omega)
  · refine CW.exit (KW.thenX (KW.thenX (KW.blockX (KW.then_ (CW.seq (CW.seq (CW.region ?_)))))))
    refine TW.assign rfl rfl rfl ct ?_
    refine TW.nil (KW.pick [0, 1, 2, 8, 9] [(0, _, _), (1, _, _), (2, _, _), (8, _, _), (9, _, _)] rfl (KW.then_ ?_))
    refine CW.block ?_
    refine CW.loopS (fun _ : Unit => [(2, none, .slice none 0 0), (9, none, .int .i64 0)]) (fun _ W' => W' = W) (fun k => 0) () [2, 9] rfl rfl ?_
    rintro _ W' rfl
    refine CW.seq (CW.seq (CW.region ?_))
    refine TW.move rfl rfl rfl ct ?_
    refine TW.move rfl rfl rfl ct ?_
    refine TW.lenSlice rfl rfl Tryz.underlying61 rfl ct ?_
    refine TW.lss rfl rfl rfl ct rfl ct ?_
    refine TW.nil (KW.pick [2, 9, 47] [(2, _, _), (9, _, _), (47, _, _)] rfl (KW.then_ ?_))
    refine CW.condP rfl (fun hlt2 => ?_) (fun hge2 => ?_)
    · exfalso
      omega
    · refine CW.exit (KW.thenX (KW.thenX (KW.blockX (KW.then_ (CW.seq (CW.region ?_))))))
      refine TW.assign rfl rfl rfl ct ?_
      refine TW.nil (KW.pick [2, 6, 9] [(2, _, _), (6, _, _), (9, _, _)] rfl (KW.then_ ?_))
      refine CW.ret ?_
      refine ret1 Tryz.results64 rfl (⟨hb02, by rw [dec_pos ⟨hwd, hfew, hup.all (by omega)⟩]⟩)

theorem rvalid28_c {w : World} {v u : Value} {d : Dist} {l : List Ev} (hd : SD w v d) (hl : SE w u l) : Gives Tryz.prog 36 #[v, u] w fun x w' => Below w.heap.size w w' ∧ x = .bool (dec (WfP d l)) := by
  obtain ⟨A, cap, rfl, _⟩ := hd.form
  obtain ⟨B, bcap, rfl, _⟩ := hl.form
  have hmax : l.length ≤ 9223372036854775807 := hl.len.2.2
  refine gives_of (vs := [.slice A d.length cap, .slice B l.length bcap]) [(0, none, _), (1, none, _)] Tryz.func36 rfl Tryz.ntmps36 rfl rfl ?_
  refine CW.seq (CW.region ?_)
  refine TW.assign rfl rfl rfl ct ?_
  refine TW.nil (KW.pick [0, 1, 4] [(0, _, _), (1, _, _), (4, _, _)] rfl (KW.then_ ?_))
  refine CW.seq (CW.seq (CW.region ?_))
  refine TW.move rfl rfl rfl ct ?_
  refine TW.lenSlice rfl rfl Tryz.underlying23 rfl ct ?_
  refine TW.gtr rfl rfl rfl ct rfl ct ?_
  refine TW.move rfl rfl rfl ct ?_
  refine TW.move rfl rfl rfl ct ?_
  refine TW.move rfl rfl rfl ct ?_
  refine TW.callF (cap := []) rfl rfl en64 rfl ct (Args.cons rfl id (Args.cons rfl id (Args.cons rfl ct Args.nil))) (fun _ => rvalid27_c hd hl) ?_
  rintro w1 hb1
  refine TW.not rfl rfl rfl id ?_
  refine TW.pickOr rfl rfl rfl ct rfl pOr0 ?_
  refine TW.nil (KW.pick [0, 1, 4, 15] [(0, _, _), (1, _, _), (4, _, _), (15, _, _)] rfl (KW.then_ ?_))
  refine CW.cond rfl (fun hbad => ?_) (fun hgood => ?_)
  · refine CW.seq (CW.region ?_)
    refine TW.assign rfl rfl rfl ct ?_
    refine TW.nil (KW.pick [0, 1, 4] [(0, _, _), (1, _, _), (4, _, _)] rfl (KW.then_ ?_))
    refine CW.ret (KW.thenR ?_)
    refine ret1 Tryz.results36 rfl (⟨hb1, by rw [dec_neg (fun h => by simp [dec_pos h.wfe] at hbad; have := h.few; omega)]⟩)
  have hfew : l.length ≤ 14 := by simp at hgood; omega
  have hwe : WfE d l := by
    simp at hgood
    exact dec_iff.1 (by simpa using hgood.2)
  refine CW.skip (KW.then_ (CW.seq (CW.seq (CW.region ?_))))
  refine TW.assign rfl rfl rfl ct ?_
  refine TW.nil (KW.pick [0, 1, 4, 5] [(0, _, _), (1, _, _), (4, _, _), (5, _, _)] rfl (KW.then_ ?_))
  refine CW.block ?_
  have hl1 := hl.below hb1
  refine CW.loopS (fun k : Nat => [(1, none, .slice B l.length bcap), (5, none, .int .i64 (k : Int))])
    (fun k W => k ≤ l.length ∧ W = w1 ∧ Upto (fun e : Ev => ∀ x ∈ e.needs, 0 ≤ x) l k) (fun k => l.length - k) 0 [1, 5] ⟨by omega, rfl, Upto.zero⟩ rfl ?_
  rintro k W ⟨hk, rfl, hup⟩
  refine CW.seq (CW.seq (CW.region ?_))
  refine TW.move rfl rfl rfl ct ?_
  refine TW.move rfl rfl rfl ct ?_
  refine TW.lenSlice rfl rfl Tryz.underlying23 rfl ct ?_
  refine TW.lss rfl rfl rfl ct rfl ct ?_
  refine TW.nil (KW.pick [1, 5, 19] [(1, _, _), (5, _, _), (19, _, _)] rfl (KW.then_ ?_))
  refine CW.condP rfl (fun hlt => ?_) (fun hge => ?_)
  · obtain ⟨x, hx, hxm⟩ := getx (l := l) (k := k) (by omega)
    obtain ⟨ad, rfl⟩ := hl1.addr (by omega)
    obtain ⟨nx, cx, _, _, _, hnx⟩ := SE.get hl1 hx
    obtain ⟨C, ccap, rfl, _⟩ := hnx.form
    have hnmax : x.needs.length ≤ 9223372036854775807 := hnx.len.2.2
    refine CW.skip (KW.then_ (CW.seq (CW.block (CW.seq (CW.region ?_)))))
    refine TW.assign rfl rfl rfl ct ?_
    refine TW.nil (KW.pick [1, 5, 6] [(1, _, _), (5, _, _), (6, _, _)] rfl (KW.then_ ?_))
    refine CW.block ?_
    refine CW.loopS (fun j : Nat => [(1, none, .slice (some ad) l.length bcap), (5, none, .int .i64 (k : Int)), (6, none, .int .i64 (j : Int))])
      (fun j W' => j ≤ x.needs.length ∧ W' = W ∧ Upto (fun y : Int => 0 ≤ y) x.needs j) (fun j => x.needs.length - j) 0 [1, 5, 6] ⟨by omega, rfl, Upto.zero⟩ rfl ?_
    rintro j W' ⟨hj, rfl, hup2⟩
    refine CW.seq (CW.seq (CW.region ?_))
    refine TW.move rfl rfl rfl ct ?_
    refine TW.move rfl rfl rfl ct ?_
    refine TW.move rfl rfl rfl ct ?_
    refine TW.indexAddr rfl rfl Tryz.underlying23 sz43 rfl ct rfl ct (fun _ => by (try dsimp only); omega) ?_
    refine TW.fieldAddr rfl rfl fo43_3 rfl ct ?_
    refine TW.load rfl rfl one24 rfl ct (fun _ => cx 3 _ rfl) ?_
    refine TW.lenSlice rfl rfl Tryz.underlying24 rfl ct ?_
    refine TW.lss rfl rfl rfl ct rfl ct ?_
    refine TW.nil (KW.pick [1, 5, 6, 29] [(1, _, _), (5, _, _), (6, _, _), (29, _, _)] rfl (KW.then_ ?_))
    refine CW.condP rfl (fun hlt2 => ?_) (fun hge2 => ?_)
    · obtain ⟨y, hy, hym⟩ := getx (l := x.needs) (k := j) (by omega)
      obtain ⟨nd, rfl⟩ := hnx.addr (by omega)
      refine CW.skip (KW.then_ (CW.seq (CW.block (CW.seq (CW.region ?_)))))
      refine TW.move rfl rfl rfl ct ?_
      refine TW.move rfl rfl rfl ct ?_
      refine TW.indexAddr rfl rfl Tryz.underlying23 sz43 rfl ct rfl ct (fun _ => by (try dsimp only); omega) ?_
      refine TW.fieldAddr rfl rfl fo43_3 rfl ct ?_
      refine TW.load rfl rfl one24 rfl ct (fun _ => cx 3 _ rfl) ?_
      refine TW.move rfl rfl rfl ct ?_
      refine TW.indexAddr rfl rfl Tryz.underlying24 sz3 rfl ct rfl ct (fun _ => by (try dsimp only); omega) ?_
      refine TW.load rfl rfl one3 rfl ct (fun _ => hnx.getI hy) ?_
      refine TW.lss rfl rfl rfl ct rfl ct ?_
      refine TW.nil (KW.pick [1, 5, 6, 40] [(1, _, _), (5, _, _), (6, _, _), (40, _, _)] rfl (KW.then_ ?_))
      refine CW.condP rfl (fun hneg => ?_) (fun hpos => ?_)
      · refine CW.seq (CW.region ?_)
        refine TW.assign rfl rfl rfl ct ?_
        refine TW.nil (KW.pick [1, 4, 5, 6] [(1, _, _), (4, _, _), (5, _, _), (6, _, _)] rfl (KW.then_ ?_))
        refine CW.ret (KW.blockR (KW.thenR (KW.thenR (KW.blockR (KW.blockR (KW.thenR (KW.thenR (KW.blockR (KW.thenR ?_)))))))))
        refine ret1 Tryz.results36 rfl (⟨hb1, by rw [dec_neg (fun h => by have := h.pos x hxm y hym; omega)]⟩)
      refine CW.skip (KW.blockN (KW.then_ (CW.region ?_)))
      refine TW.move rfl rfl rfl ct ?_
      refine TW.add rfl rfl rfl ct rfl ct (fun _ => by (try dsimp only); omega) ?_
      refine TW.assign rfl rfl rfl ct ?_
      refine TW.nil (KW.pick [1, 5, 6] [(1, _, _), (5, _, _), (6, _, _)] rfl ?_)
      refine KW.round (j + 1) [1, 5, 6] rfl ⟨by omega, rfl, hup2.succ hy (by omega)⟩ (by omega)
    · refine CW.exit (KW.thenX (KW.thenX (KW.blockX (KW.blockN (KW.then_ (CW.region ?_))))))
      refine TW.move rfl rfl rfl ct ?_
      refine TW.add rfl rfl rfl ct rfl ct (fun _ => by (try dsimp only); omega) ?_
      refine TW.assign rfl rfl rfl ct ?_
      refine TW.nil (KW.pick [1, 5, 6] [(1, _, _), (5, _, _), (6, _, _)] rfl ?_)
      refine KW.round (k + 1) [1, 5] rfl ⟨by omega, rfl, hup.succ hx (hup2.all (by omega))⟩ (by omega)
  · refine CW.exit (KW.thenX (KW.thenX (KW.blockX (KW.then_ (CW.seq (CW.region ?_))))))
    refine TW.assign rfl rfl rfl ct ?_
    refine TW.nil (KW.pick [1, 4, 5] [(1, _, _), (4, _, _), (5, _, _)] rfl (KW.then_ ?_))
    refine CW.ret ?_
    refine ret1 Tryz.results36 rfl (⟨hb1, by rw [dec_pos ⟨hwe.wd, hfew, hwe.each, hup.all (by omega)⟩]⟩)

/-- lexicographically less, lists of the same length -/
def lexS : List Int → List Int → Bool
  | x :: a, y :: b => if x = y then lexS a b else decide (x < y)
  | _, _ => false
theorem lexS_take : ∀ {k : Nat} {a b : List Int}, a.take k = b.take k → lexS a b = lexS (a.drop k) (b.drop k)
  | 0, a, b, _ => rfl
  | k + 1, [], b, h => by
    have : b.take (k + 1) = [] := by simpa using h.symm
    cases b with
    | nil => rfl
    | cons y b => simp at this
  | k + 1, x :: a, [], h => by simp at h
  | k + 1, x :: a, y :: b, h => by
    simp at h
    obtain ⟨rfl, h⟩ := h
    simp only [lexS, if_true, List.drop_succ_cons]
    exact lexS_take h
theorem drop_eq {α : Type} {l : List α} {k : Nat} {x : α} (h : l[k]? = some x) : l.drop k = x :: l.drop (k + 1) := by
  obtain ⟨hk, rfl⟩ := List.getElem?_eq_some_iff.1 h
  exact List.drop_eq_getElem_cons hk

end Go.Proofs.YtmhfeehkpndadaaGreat

namespace Go.Proofs.YtmhfeehkpndadaaGreat
open Go.PF Go.RowKit Go.Ord

/-- the time lies in the event's window -/
def Win (e : Ev) (t : Int) : Prop := 0 ≤ t ∧ t ≤ 1000000 ∧ e.low ≤ t ∧ t ≤ e.high
def Two (d : Dist) (l : List Ev) (ts : List Int) (j i : Nat) : Prop := ∀ a s b t, l[j]? = some a → ts[j]? = some s → l[i]? = some b → ts[i]? = some t → Aft d (a, s) (b, t) ∨ Aft d (b, t) (a, s)
structure HoldsI (d : Dist) (l : List Ev) (ts : List Int) : Prop where
  wf : WfE d l
  len : ts.length = l.length
  win : ∀ (i : Nat) e t, l[i]? = some e → ts[i]? = some t → Win e t
  two : ∀ j i, j < i → Two d l ts j i
theorem HoldsI.n {d : Dist} {l : List Ev} {ts : List Int} (h : HoldsI d l ts) : HoldsN d (l.zip ts) := by
  refine ⟨fun x hx => ?_, List.pairwise_iff_getElem.2 fun i j hi hj hij => ?_⟩
  · obtain ⟨i, hi⟩ := List.mem_iff_getElem?.1 hx
    rw [List.getElem?_zip_eq_some] at hi
    exact h.win i _ _ hi.1 hi.2
  · have hi' := List.getElem?_eq_getElem hi
    have hj' := List.getElem?_eq_getElem hj
    rw [List.getElem?_zip_eq_some] at hi' hj'
    exact h.two i j hij _ _ _ _ hi'.1 hi'.2 hj'.1 hj'.2
theorem HoldsI.poss {d : Dist} {l : List Ev} {ts : List Int} (h : HoldsI d l ts) : Poss d l := ⟨l.zip ts, by rw [List.map_fst_zip]; exact Nat.le_of_eq h.len.symm, h.n⟩
theorem Two.symm {d : Dist} {l : List Ev} {ts : List Int} {j i : Nat} (h : Two d l ts j i) : Two d l ts i j := fun a s b t h1 h2 h3 h4 => (h b t a s h3 h4 h1 h2).symm

/-- from an office at a time to an office at a time -/
def AftO (d : Dist) (a : Nat) (x : Int) (b : Nat) (y : Int) : Prop := at2 d a b ≠ -1 ∧ at2 d a b ≤ y - x
theorem aft_iff {d : Dist} {e f : Ev} {x y : Int} : Aft d (e, x) (f, y) ↔ AftO d e.office.toNat x f.office.toNat y := Iff.rfl

end Go.Proofs.YtmhfeehkpndadaaGreat

namespace Go.Proofs.YtmhfeehkpndadaaGreat
open Go.PF Go.RowKit Go.Ord

/-- a node of the reference -/
structure Nd where
  first : Int
  second : Int
  office : Int
  low : Int
  high : Int
  gap : Int
  endo : Int
def Nd.cells (x : Nd) : List Value := [.int .i64 x.first, .int .i64 x.second, .int .i64 x.office, .int .i64 x.low, .int .i64 x.high, .int .i64 x.gap, .int .i64 x.endo]
def Nd.u (x : Nd) : U := ⟨x.low, x.high, x.gap, x.office.toNat, x.endo.toNat⟩
def ndT : Ty Nd where
  n := 7
  rep := fun _ _ cs x => cs = x.cells
  len := fun _ _ _ _ h => by rw [h]; rfl
  mono := fun _ _ _ _ _ _ h => h
  wider := fun _ _ _ _ _ _ h => h
theorem ndT_now : Ty.Now ndT := ⟨by decide, fun _ _ _ _ h => h⟩
def rsCells (s : RS) : List Value := [.int .i64 s.time, .int .i64 (s.last : Int), .int .i64 (s.set : Int), .int .i64 s.frm]
def rsT : Ty RS where
  n := 4
  rep := fun _ _ cs x => cs = rsCells x
  len := fun _ _ _ _ h => by rw [h]; rfl
  mono := fun _ _ _ _ _ _ h => h
  wider := fun _ _ _ _ _ _ h => h
structure NdOK (d : Dist) (m : Nat) (x : Nd) : Prop where
  o0 : 0 ≤ x.office
  e0 : 0 ≤ x.endo
  g0 : 0 ≤ x.gap
  g1 : x.gap ≤ 1000000
  w0 : 0 ≤ x.low
  w1 : x.low ≤ x.high
  w2 : x.high ≤ 1000000
  uok : UOK d x.u
  f0 : 0 ≤ x.first
  f1 : x.first < m
  s1 : x.second < m
theorem NdOK.o1 {d : Dist} {m : Nat} {x : Nd} (h : NdOK d m x) : x.office.toNat < d.length := h.uok.e1
theorem NdOK.e1 {d : Dist} {m : Nat} {x : Nd} (h : NdOK d m x) : x.endo.toNat < d.length := h.uok.e2
abbrev usOf (ns : List Nd) : List U := ns.map Nd.u
theorem us_get {ns : List Nd} {i : Nat} {x : Nd} (h : ns[i]? = some x) : (usOf ns)[i]? = some x.u := by simp [usOf, h]
theorem us_ok {d : Dist} {m : Nat} {ns : List Nd} (h : ∀ x ∈ ns, NdOK d m x) : ∀ u ∈ usOf ns, UOK d u := fun u hu => by
  obtain ⟨x, hx, rfl⟩ := List.mem_map.1 hu
  exact (h x hx).uok
theorem us_win {d : Dist} {m : Nat} {ns : List Nd} (h : ∀ x ∈ ns, NdOK d m x) : ∀ u ∈ usOf ns, 0 ≤ u.low ∧ u.low ≤ u.high ∧ u.high ≤ 1000000 := fun u hu => by
  obtain ⟨x, hx, rfl⟩ := List.mem_map.1 hu
  exact ⟨(h x hx).w0, (h x hx).w1, (h x hx).w2⟩

theorem SL.getC {α : Type} {T : Ty α} (f : α → List Value) (hf : ∀ F w cs x, T.rep F w cs x → cs = f x) {F : Nat → Prop} {w : World} {ad : Addr} {n cap : Nat} {l : List α} (h : SL T F w (.slice (some ad) n cap) l) {i : Nat} {x : α} (hx : l[i]? = some x) :
    ∀ (j : Nat) v, (f x)[j]? = some v → w.cell? ((ad.add ((i : Int).toNat * T.n)).add j) = some v := fun j v hj => by
  obtain ⟨ad', cs, h1, _, hr, hc⟩ := h.at hx
  cases h1
  rw [hf _ _ _ _ hr] at hc
  rw [show (i : Int).toNat = i by omega]
  exact hc j v hj
theorem nd_get {F : Nat → Prop} {w : World} {ad : Addr} {n cap : Nat} {l : List Nd} (h : SL ndT F w (.slice (some ad) n cap) l) {i : Nat} {x : Nd} (hx : l[i]? = some x) :
    ∀ (j : Nat) v, x.cells[j]? = some v → w.cell? ((ad.add ((i : Int).toNat * 7)).add j) = some v := SL.getC Nd.cells (fun _ _ _ _ h => h) h hx
theorem dist_get {F : Nat → Prop} {w : World} {ad : Addr} {n cap : Nat} {d : Dist} (h : SL (sliceT intT) F w (.slice (some ad) n cap) d) (hw : WfD d) {a b : Nat} (ha : a < d.length) (hb : b < d.length) :
    ∃ rd rc, w.cell? (ad.add ((a : Int).toNat * 1)) = some (.slice (some rd) d.length rc) ∧ w.cell? (rd.add ((b : Int).toNat * 1)) = some (.int .i64 (at2 d a b)) := by
  obtain ⟨r, hr⟩ : ∃ r, d[a]? = some r := ⟨d[a], List.getElem?_eq_getElem ha⟩
  have hrl := hw.row _ _ hr
  obtain ⟨z, hz⟩ : ∃ z, r[b]? = some z := ⟨r[b]'(by omega), List.getElem?_eq_getElem (by omega)⟩
  obtain ⟨rv, hcell, hrow⟩ := h.row hr
  obtain ⟨R, rcap, rfl, _⟩ := hrow.form
  obtain ⟨rd, rfl⟩ := hrow.addr (by omega)
  exact ⟨rd, rcap, by rw [← hrl]; exact hcell, by rw [at2_eq hr hz]; exact hrow.getI hz⟩
theorem natdiv (s p : Nat) : (s : Int) / (p : Int) % 2 = ((s / p % 2 : Nat) : Int) := by norm_cast
theorem pow_le16 {i : Nat} (h : i ≤ 16) : (2 : Nat) ^ i ≤ 65536 := Nat.pow_le_pow_right (by decide) h

set_option maxRecDepth 20000 in
theorem rbit_c {w : World} {i : Nat} (hi : i ≤ 16) : Gives Tryz.prog 108 #[.int .i64 (i : Int)] w fun u w' => Below w.heap.size w w' ∧ u = .int .i64 ((2 ^ i : Nat) : Int) := by
  have e : i % ((2 : Int) ^ IntKind.u64.bits).natAbs = i := Nat.mod_eq_of_lt (Nat.lt_of_le_of_lt hi (by decide))
  refine gives_of (vs := [.int .i64 (i : Int)]) [(0, none, _)] Tryz.func108 rfl Tryz.ntmps108 rfl rfl ?_
  refine CW.seq (CW.region ?_)
  refine TW.assign rfl rfl rfl ct ?_
  refine TW.nil (KW.pick [0, 2] [(0, _, _), (2, _, _)] rfl (KW.then_ ?_))
  refine CW.seq (CW.region ?_)
  refine TW.move rfl rfl rfl ct ?_
  refine TW.conv rfl rfl rfl Tryz.underlying57 rfl ct ?_
  refine TW.shl64 rfl rfl rfl ct rfl ct (fun _ => by rw [e]; omega) ?_
  refine TW.assign rfl rfl rfl ct ?_
  refine TW.nil (KW.pick [0, 2] [(0, _, _), (2, _, _)] rfl (KW.then_ ?_))
  refine CW.ret ?_
  refine ret1 Tryz.results108 rfl (⟨Below.refl _ _, by rw [e]⟩)

theorem pc_le : ∀ (n : Nat), pc n ≤ n := by
  intro n
  induction n using Nat.strongRecOn with
  | _ n ih =>
    rw [pc_eq]
    by_cases h : n = 0
    · subst h; simp [pc]
    · have := ih (n / 2) (by omega)
      omega

set_option maxRecDepth 20000 in
theorem rcount_c {w : World} {s : Nat} (hs : s ≤ 1000000000) : Gives Tryz.prog 119 #[.int .i64 (s : Int)] w fun u w' => Below w.heap.size w w' ∧ u = .int .i64 (pc s : Int) := by
  have hps := pc_le s
  refine gives_of (vs := [.int .i64 (s : Int)]) [(0, none, _)] Tryz.func119 rfl Tryz.ntmps119 rfl rfl ?_
  refine CW.seq (CW.region ?_)
  refine TW.assign rfl rfl rfl ct ?_
  refine TW.nil (KW.pick [0, 2] [(0, _, _), (2, _, _)] rfl (KW.then_ ?_))
  refine CW.seq (CW.region ?_)
  refine TW.assign rfl rfl rfl ct ?_
  refine TW.nil (KW.pick [0, 2, 3] [(0, _, _), (2, _, _), (3, _, _)] rfl (KW.then_ ?_))
  refine CW.seq (CW.block ?_)
  refine CW.loopS (fun x : Nat × Nat => [(0, none, .int .i64 (x.1 : Int)), (3, none, .int .i64 (x.2 : Int))])
    (fun x W => x.1 ≤ s ∧ x.2 + pc x.1 = pc s ∧ Below w.heap.size w W) (fun x => x.1) (s, 0) [0, 3] ⟨Nat.le_refl _, by simp, Below.refl _ _⟩ rfl ?_
  rintro ⟨c, a⟩ W ⟨hc, hp, hB⟩
  dsimp only at hc hp
  have hpe := pc_eq c
  refine CW.seq (CW.seq (CW.region ?_))
  refine TW.move rfl rfl rfl ct ?_
  refine TW.gtr rfl rfl rfl ct rfl ct ?_
  refine TW.nil (KW.pick [0, 3, 5] [(0, _, _), (3, _, _), (5, _, _)] rfl (KW.then_ ?_))
  refine CW.condP rfl (fun hlt => ?_) (fun hge => ?_)
  · refine CW.skip (KW.then_ (CW.block (CW.seq (CW.region ?_))))
    refine TW.move rfl rfl rfl ct ?_
    refine TW.move rfl rfl rfl ct ?_
    refine TW.rem rfl rfl rfl ct rfl ct (fun _ => by omega) ?_
    refine TW.add rfl rfl rfl ct rfl ct (fun _ => by omega) ?_
    refine TW.assign rfl rfl rfl ct ?_
    refine TW.nil (KW.pick [0, 3] [(0, _, _), (3, _, _)] rfl (KW.then_ ?_))
    refine CW.region ?_
    refine TW.move rfl rfl rfl ct ?_
    refine TW.quo rfl rfl rfl ct rfl ct (fun _ => by omega) ?_
    refine TW.assign rfl rfl rfl ct ?_
    refine TW.nil (KW.pick [0, 3] [(0, _, _), (3, _, _)] rfl (KW.blockN ?_))
    refine KW.round (c / 2, a + c % 2) [0, 3] ?_ ⟨by show c / 2 ≤ s; omega, by show a + c % 2 + pc (c / 2) = pc s; omega, hB⟩ (by show c / 2 < c; omega)
    have e1 : ((c / 2 : Nat) : Int) = (c : Int) / 2 := by omega
    have e2 : ((a + c % 2 : Nat) : Int) = (a : Int) + (c : Int) % 2 := by omega
    rw [e1, e2]
    rfl
  · have : c = 0 := by omega
    subst this
    refine CW.exit (KW.thenX (KW.thenX (KW.blockX (KW.then_ (CW.seq (CW.region ?_))))))
    refine TW.move rfl rfl rfl ct ?_
    refine TW.assign rfl rfl rfl ct ?_
    refine TW.nil (KW.pick [0, 2, 3] [(0, _, _), (2, _, _), (3, _, _)] rfl (KW.then_ ?_))
    refine CW.ret ?_
    refine ret1 Tryz.results119 rfl (⟨hB, ?_⟩)
    have : a = pc s := by simpa [pc] using hp
    rw [this]

set_option maxRecDepth 20000 in
theorem ropen_c {w : World} {dv nv : Value} {d : Dist} {ns : List Nd} {F G : Nat → Prop} {m set i : Nat} {t : Int} {x : Nd} (hd : SL (sliceT intT) F w dv d) (hw : WfD d) (hn : SL ndT G w nv ns) (hok : ∀ x ∈ ns, NdOK d m x) (h16 : ns.length ≤ 16) (hi : ns[i]? = some x) (hs : set ≤ 1000000000) (ht : 0 ≤ t ∧ t ≤ 1000000) :
    Gives Tryz.prog 120 #[dv, nv, .int .i64 (set : Int), .int .i64 (i : Int), .int .i64 t] w fun u w' => Below w.heap.size w w' ∧ u = .bool (dec (OpenP d (usOf ns) set (some x.endo.toNat, t + x.gap))) := by
  obtain ⟨A, cap, rfl, _⟩ := hd.form
  obtain ⟨B, bcap, rfl, _⟩ := hn.form
  have hil := (List.getElem?_eq_some_iff.1 hi).1
  have hx := hok x (List.mem_of_getElem? hi)
  obtain ⟨nd, rfl⟩ := hn.addr (by omega)
  obtain ⟨ad, rfl⟩ := hd.addr (by have := hx.o1; omega)
  obtain ⟨xo, hxo⟩ : ∃ o : Nat, x.endo = o := ⟨x.endo.toNat, by have := hx.e0; omega⟩
  have hxo' : x.endo.toNat = xo := by omega
  have hxl : xo < d.length := by have := hx.e1; omega
  have hg0 := hx.g0
  have hg1 := hx.g1
  refine gives_of (vs := [.slice (some ad) d.length cap, .slice (some nd) ns.length bcap, .int .i64 (set : Int), .int .i64 (i : Int), .int .i64 t]) [(0, none, _), (1, none, _), (2, none, _), (3, none, _), (4, none, _)] Tryz.func120 rfl Tryz.ntmps120 rfl rfl ?_
  refine CW.seq (CW.region ?_)
  refine TW.assign rfl rfl rfl ct ?_
  refine TW.nil (KW.pick [0, 1, 2, 3, 4, 10] [(0, _, _), (1, _, _), (2, _, _), (3, _, _), (4, _, _), (10, _, _)] rfl (KW.then_ ?_))
  refine CW.seq (CW.seq (CW.region ?_))
  refine TW.assign rfl rfl rfl ct ?_
  refine TW.nil (KW.pick [0, 1, 2, 3, 4, 10, 11] [(0, _, _), (1, _, _), (2, _, _), (3, _, _), (4, _, _), (10, _, _), (11, _, _)] rfl (KW.then_ ?_))
  refine CW.block ?_
  refine CW.loopS (fun j : Nat => [(0, none, .slice (some ad) d.length cap), (1, none, .slice (some nd) ns.length bcap), (2, none, .int .i64 (set : Int)), (3, none, .int .i64 (i : Int)), (4, none, .int .i64 t), (11, none, .int .i64 (j : Int))])
    (fun j W => j ≤ ns.length ∧ Below w.heap.size w W ∧ ∀ (k : Nat) v, k < j → (usOf ns)[k]? = some v → set.testBit k = false → CanB d (some x.endo.toNat, t + x.gap) v) (fun j => ns.length - j) 0 [0, 1, 2, 3, 4, 11] ⟨Nat.zero_le _, Below.refl _ _, fun k v hk => by omega⟩ rfl ?_
  rintro j W ⟨hj, hB, hall⟩
  have hdW := hd.below hB
  have hnW := hn.below hB
  refine CW.seq (CW.seq (CW.region ?_))
  refine TW.move rfl rfl rfl ct ?_
  refine TW.move rfl rfl rfl ct ?_
  refine TW.lenSlice rfl rfl Tryz.underlying131 rfl ct ?_
  refine TW.lss rfl rfl rfl ct rfl ct ?_
  refine TW.nil (KW.pick [0, 1, 2, 3, 4, 11, 16] [(0, _, _), (1, _, _), (2, _, _), (3, _, _), (4, _, _), (11, _, _), (16, _, _)] rfl (KW.then_ ?_))
  refine CW.condP rfl (fun hlt => ?_) (fun hge => ?_)
  · obtain ⟨y, hy, hym⟩ := getx (l := ns) (k := j) (by omega)
    have hyo := hok y hym
    obtain ⟨yo, hyo1⟩ : ∃ o : Nat, y.office = o := ⟨y.office.toNat, by have := hyo.o0; omega⟩
    have hyl : yo < d.length := by have := hyo.o1; omega
    obtain ⟨rd, rc, hr1, hr2⟩ := dist_get hdW hw hxl hyl
    have hrng := hw.rng xo yo hxl hyl
    have hxc := nd_get hnW hi
    have hyc := nd_get hnW hy
    have h6 : W.cell? ((nd.add ((i : Int).toNat * 7)).add 6) = some (.int .i64 (xo : Int)) := by rw [← hxo]; exact hxc 6 _ rfl
    have h2 : W.cell? ((nd.add ((j : Int).toNat * 7)).add 2) = some (.int .i64 (yo : Int)) := by rw [← hyo1]; exact hyc 2 _ rfl
    have hp := Nat.two_pow_pos j
    have hw2 := hyo.w2
    refine CW.skip (KW.then_ (CW.seq (CW.block (CW.seq (CW.draw mixed (by kernel_rfl) ?_)))))
    refine DW.move rfl rfl rfl ct ?_
    refine DW.move rfl rfl rfl ct ?_
    refine DW.move rfl rfl rfl ct ?_
    refine DW.indexAddr rfl rfl Tryz.underlying131 sz136 rfl ct rfl ct (fun _ => by (try dsimp only); omega) ?_
    refine DW.fieldAddr rfl rfl fo136_6 rfl ct ?_
    refine DW.load rfl rfl one3 rfl ct (fun _ => h6) ?_
    refine DW.indexAddr rfl rfl Tryz.underlying22 sz24 rfl ct rfl ct (fun _ => by (try dsimp only); omega) ?_
    refine DW.load rfl rfl one24 rfl ct (fun _ => hr1) ?_
    refine DW.move rfl rfl rfl ct ?_
    refine DW.move rfl rfl rfl ct ?_
    refine DW.indexAddr rfl rfl Tryz.underlying131 sz136 rfl ct rfl ct (fun _ => by (try dsimp only); omega) ?_
    refine DW.fieldAddr rfl rfl fo136_2 rfl ct ?_
    refine DW.load rfl rfl one3 rfl ct (fun _ => h2) ?_
    refine DW.indexAddr rfl rfl Tryz.underlying24 sz3 rfl ct rfl ct (fun _ => by (try dsimp only); omega) ?_
    refine DW.load rfl rfl one3 rfl ct (fun _ => hr2) ?_
    refine DW.assign rfl rfl rfl ct ?_
    refine DW.nil (DW.fin [0, 1, 2, 3, 4, 11, 12] [(0, _, _), (1, _, _), (2, _, _), (3, _, _), (4, _, _), (11, _, _), (12, _, _)] rfl (fun w1 b1 => KW.then_ ?_))
    refine CW.seq (CW.draw mixed (by kernel_rfl) ?_)
    refine DW.move rfl rfl rfl ct ?_
    refine DW.move rfl rfl rfl ct ?_
    have hnW1 := hnW.below b1
    have hxc1 := nd_get hnW1 hi
    have hyc1 := nd_get hnW1 hy
    refine DW.call (.ex (.int .i64 ((2 ^ j : Nat) : Int))) trivial rfl rfl en108 rfl ct (DArgs.cons rfl ct DArgs.nil) (fun _ w' hb' => (rbit_c (i := j) (by omega)).mono fun u w'' ⟨h1, h2⟩ => ⟨h1, h2⟩) ?_
    refine DW.quo rfl rfl rfl ct rfl ct (fun _ => by omega) ?_
    refine DW.rem rfl rfl rfl ct rfl ct (fun _ => ⟨Int.ediv_nonneg (by omega) (by omega), by omega, by omega⟩) ?_
    refine DW.eql rfl rfl rfl ct rfl ct ?_
    refine DW.move rfl rfl rfl ct ?_
    refine DW.move rfl rfl rfl ct ?_
    refine DW.lss rfl rfl rfl id rfl ct ?_
    refine DW.move rfl rfl rfl id ?_
    refine DW.move rfl rfl rfl ct ?_
    refine DW.move rfl rfl rfl ct ?_
    refine DW.move rfl rfl rfl ct ?_
    refine DW.indexAddr rfl rfl Tryz.underlying131 sz136 rfl id rfl id (fun h => by (try dsimp only); first | omega | (simp [Cnd] at h; omega)) ?_
    refine DW.fieldAddr rfl rfl fo136_5 rfl id ?_
    refine DW.load rfl rfl one3 rfl id (fun _ => hxc1 5 _ rfl) ?_
    refine DW.add rfl rfl rfl id rfl id (fun _ => by omega) ?_
    refine DW.move rfl rfl rfl ct ?_
    refine DW.add rfl rfl rfl id rfl id (fun _ => by omega) ?_
    refine DW.move rfl rfl rfl ct ?_
    refine DW.move rfl rfl rfl ct ?_
    refine DW.indexAddr rfl rfl Tryz.underlying131 sz136 rfl id rfl id (fun h => by (try dsimp only); first | omega | (simp [Cnd] at h; omega)) ?_
    refine DW.fieldAddr rfl rfl fo136_4 rfl id ?_
    refine DW.load rfl rfl one3 rfl id (fun _ => hyc1 4 _ rfl) ?_
    refine DW.gtr rfl rfl rfl id rfl id ?_
    refine DW.pickOr rfl rfl rfl id rfl pOr1 ?_
    refine DW.pickAnd rfl rfl rfl ct rfl pAnd0 ?_
    refine DW.nil (DW.fin [0, 1, 2, 3, 4, 11, 12, 60] [(0, _, _), (1, _, _), (2, _, _), (3, _, _), (4, _, _), (11, _, _), (12, _, _), (60, _, _)] rfl (fun w2 b2 => KW.then_ ?_))
    have hB2 := hB.step (b1.step b2)
    rw [natdiv]
    have hbt := bit_test set j
    have hcan : CanB d (some x.endo.toNat, t + x.gap) y.u ↔ at2 d xo yo ≠ -1 ∧ t + x.gap + at2 d xo yo ≤ y.high := by
      unfold CanB
      show at2 d x.endo.toNat y.office.toNat ≠ -1 ∧ t + x.gap + at2 d x.endo.toNat y.office.toNat ≤ y.high ↔ _
      rw [hxo', show y.office.toNat = yo by omega]
    refine CW.cond rfl (fun hbad => ?_) (fun hgood => ?_)
    · refine CW.seq (CW.region ?_)
      refine TW.assign rfl rfl rfl ct ?_
      refine TW.nil (KW.pick [0, 1, 2, 3, 4, 10, 11, 12] [(0, _, _), (1, _, _), (2, _, _), (3, _, _), (4, _, _), (10, _, _), (11, _, _), (12, _, _)] rfl (KW.then_ ?_))
      refine CW.ret (KW.blockR (KW.thenR (KW.thenR (KW.blockR (KW.thenR ?_)))))
      refine ret1 Tryz.results120 rfl (⟨hB2, ?_⟩)
      rw [dec_neg]
      intro h
      by_cases hb : set.testBit j = true
      · rw [hb] at hbt
        have : set / 2 ^ j % 2 = 1 := by simpa using hbt.symm
        rw [this] at hbad
        simp at hbad
      · have hb' : set.testBit j = false := by simpa using hb
        have := hcan.1 (h j y.u (us_get hy) hb')
        simp at hbad
        omega
    · refine CW.skip (KW.blockN (KW.then_ (CW.region ?_)))
      refine TW.move rfl rfl rfl ct ?_
      refine TW.add rfl rfl rfl ct rfl ct (fun _ => by (try dsimp only); omega) ?_
      refine TW.assign rfl rfl rfl ct ?_
      refine TW.nil (KW.pick [0, 1, 2, 3, 4, 11, 12] [(0, _, _), (1, _, _), (2, _, _), (3, _, _), (4, _, _), (11, _, _), (12, _, _)] rfl ?_)
      refine KW.round (j + 1) [0, 1, 2, 3, 4, 11] rfl ⟨by omega, hB2, fun k v hk hv hb => ?_⟩ (by omega)
      by_cases hkj : k < j
      · exact hall k v hkj hv hb
      · have : k = j := by omega
        subst this
        rw [us_get hy] at hv
        cases hv
        rw [hb] at hbt
        have h0 : set / 2 ^ k % 2 = 0 := by
          have h1 : ¬ set / 2 ^ k % 2 = 1 := by simpa using hbt.symm
          have := Nat.mod_two_eq_zero_or_one (set / 2 ^ k)
          omega
        rw [h0] at hgood
        rw [hcan]
        simp at hgood
        omega
  · refine CW.exit (KW.thenX (KW.thenX (KW.blockX (KW.then_ (CW.seq (CW.region ?_))))))
    refine TW.assign rfl rfl rfl ct ?_
    refine TW.nil (KW.pick [0, 1, 2, 3, 4, 10, 11] [(0, _, _), (1, _, _), (2, _, _), (3, _, _), (4, _, _), (10, _, _), (11, _, _)] rfl (KW.then_ ?_))
    refine CW.ret ?_
    refine ret1 Tryz.results120 rfl (⟨hB, ?_⟩)
    rw [dec_pos]
    intro k v hv hb
    exact hall k v (by have := (List.getElem?_eq_some_iff.1 hv).1; simp [usOf] at this; omega) hv hb
end Go.Proofs.YtmhfeehkpndadaaGreat
