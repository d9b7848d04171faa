import Derived.Test.YtegmhdabedgloaaH
namespace Go.Proofs.Ytegmhdabedgloaa
open Go.PF Go.RowKit

theorem outside_c (v x : Value) (w : World) (hv : v.cells = #[v]) (hx : x.cells = #[x]) :
    Gives Try.prog 36 #[v, x] w fun u w' => Below w.heap.size w w' ∧ ∃ g1 g2, u = .func (.func 63) #[] [.pointer (some ⟨g1, 0, none⟩), .pointer (some ⟨g2, 0, none⟩)].toArray ∧ Blk w' g1 22 [v] ∧ Blk w' g2 3 [x] ∧ w.heap.size ≤ g1 ∧ w.heap.size ≤ g2 := by
  refine gives_of (vs := [v, x]) [(0, none, _), (1, none, _)] Try.func36 rfl Try.ntmps36 rfl rfl ?_
  refine CW.seq (CW.region ?_)
  refine TW.box (cs := [v]) rfl rfl rfl hv ?_
  rintro g1 w1 f1
  refine TW.box (cs := [x]) rfl rfl rfl hx ?_
  rintro g2 w2 f2
  refine TW.assign rfl rfl rfl ct ?_
  refine TW.nil (KW.pick [0, 1, 2, 3, 4] [(0, _, _), (1, _, _), (2, _, _), (3, _, _), (4, _, _)] rfl (KW.then_ ?_))
  refine CW.seq (CW.region ?_)
  refine TW.makeFunc rfl rfl (Args.cons rfl ct (Args.cons rfl ct Args.nil)) ?_
  refine TW.assign rfl rfl rfl ct ?_
  refine TW.nil (KW.pick [0, 1, 2, 3, 4] [(0, _, _), (1, _, _), (2, _, _), (3, _, _), (4, _, _)] rfl (KW.then_ ?_))
  refine CW.ret ?_
  refine ret1 Try.results36 rfl (⟨f1.below.step f2.below, g1, g2, rfl, f1.blk.next f2.below, f2.blk, by have := f1.at_; omega, by have := f2.at_; have := f1.below.size; omega⟩)

set_option maxRecDepth 20000 in
theorem outside_iter {F : Nat → Prop} {v : Value} {l : List Box} {w : World} (i g1 g2 : Nat) (hl : SL boxT F w v l) (hv : Valid l) (hi : i < l.length) (hB1 : Blk w g1 22 [v]) (hB2 : Blk w g2 3 [.int .i64 (i : Int)]) :
    IterOK Try.prog 63 [.pointer (some ⟨g1, 0, none⟩), .pointer (some ⟨g2, 0, none⟩)] (fun p : Nat => [.int .i64 (p : Int)]) (fun pre x => ∃ suf, outside l i = pre ++ x :: suf) (fun xs => xs = outside l i) (fun k => (k = g1 ∨ k = g2 ∨ F k) ∧ k < w.heap.size) w := by
  intro yl J Jx W M hown hsz hyl hM hMlt hJ hJx hy h0
  obtain ⟨A, cap, rfl, h1, h2, h3⟩ := id hl
  obtain ⟨b, hb⟩ : ∃ b, l[i]? = some b := ⟨l[i], List.getElem?_eq_getElem hi⟩
  obtain ⟨ad, rfl, _, _, _⟩ := box_at hl hb
  have hok := hv.each i b hb
  have mem : ∀ W' : World, (∀ k, ((k = g1 ∨ k = g2 ∨ F k) ∧ k < w.heap.size) → W'.heap[k]? = w.heap[k]?) → Blk W' g1 22 [.slice (some ad) l.length cap] ∧ Blk W' g2 3 [.int .i64 (i : Int)] ∧ SL boxT F W' (.slice (some ad) l.length cap) l := fun W' h =>
    ⟨(h g1 ⟨.inl rfl, hB1.lt⟩).trans hB1, (h g2 ⟨.inr (.inl rfl), hB2.lt⟩).trans hB2, hl.mono (Kept.of_blocks fun k hk hlt => h k ⟨.inr (.inr hk), hlt⟩)⟩
  have hown' : ∀ k, ((k = g1 ∨ k = g2 ∨ F k) ∧ k < w.heap.size) → W.heap[k]? = w.heap[k]? := fun k hk => hown k hk hk.2
  obtain ⟨m1, m2, m3⟩ := mem W hown'
  refine gives_of (vs := [.func (.yield yl) #[] #[], .pointer (some ⟨g1, 0, none⟩), .pointer (some ⟨g2, 0, none⟩)]) [(0, none, _), (1, none, _), (2, none, _)] Try.func63 rfl Try.ntmps63 rfl rfl ?_
  refine CW.seq (CW.region ?_)
  refine TW.load rfl rfl one22 rfl ct (fun _ => m1.cell 0) ?_
  refine TW.load rfl rfl one3 rfl ct (fun _ => m2.cell 0) ?_
  refine TW.indexAddr rfl rfl Try.underlying22 sz28 rfl ct rfl ct (fun _ => by (try dsimp only); omega) ?_
  refine TW.fieldAddr rfl rfl fo28_2 rfl ct ?_
  refine TW.load rfl rfl one3 rfl ct (fun _ => box_cell m3 hb rfl) ?_
  refine TW.assign rfl rfl rfl ct ?_
  refine TW.nil (KW.pick [0, 1, 2, 4] [(0, _, _), (1, _, _), (2, _, _), (4, _, _)] rfl (KW.then_ ?_))
  refine CW.block ?_
  refine CW.loopS (fun x : List Nat × Int × (Nat → Prop) => [(0, none, .func (.yield yl) #[] #[]), (1, none, .pointer (some ⟨g1, 0, none⟩)), (4, none, .int .i64 x.2.1)])
    (fun x W' => J x.1 x.2.2 W' ∧ -1 ≤ x.2.1 ∧ x.2.1 < l.length ∧ outside l i = x.1 ++ (if x.2.1 < 0 then [] else x.2.1.toNat :: outside l x.2.1.toNat) ∧ W.heap.size ≤ W'.heap.size ∧ (∀ k, x.2.2 k → k < W'.heap.size) ∧
      (∀ k, ((k = g1 ∨ k = g2 ∨ F k) ∧ k < w.heap.size) → W'.heap[k]? = w.heap[k]? ∧ ¬ x.2.2 k))
    (fun x => (outside l i).length - x.1.length + if x.2.1 < 0 then 0 else 1) ([], b.parent, M) [0, 1, 4]
    ⟨h0, hok.q1, hok.q2, by rw [outside_eq hv hb]; simp, Nat.le_refl _, hMlt, fun k hk => ⟨hown' k hk, (hM k hk).1⟩⟩ rfl ?_
  rintro ⟨pre, p, M1⟩ W1 ⟨hj, hp1, hp2, heq, hsz1, hM1, hk1⟩
  dsimp only at hj hp1 hp2 heq hM1 hk1
  refine CW.seq (CW.seq (CW.region ?_))
  refine TW.move rfl rfl rfl ct ?_
  refine TW.geq rfl rfl rfl ct rfl ct ?_
  refine TW.nil (KW.pick [0, 1, 4, 11] [(0, _, _), (1, _, _), (4, _, _), (11, _, _)] rfl (KW.then_ ?_))
  refine CW.condP rfl (fun hpos => ?_) (fun hneg => ?_)
  · dsimp only at hpos
    obtain ⟨n, rfl⟩ : ∃ n : Nat, p = n := ⟨p.toNat, by omega⟩
    rw [if_neg (by omega), Int.toNat_natCast] at heq
    obtain ⟨q, hq⟩ : ∃ q, l[n]? = some q := ⟨l[n], List.getElem?_eq_getElem (by omega)⟩
    have hokq := hv.each n q hq
    refine CW.skip (KW.then_ (CW.seq (CW.block (CW.seq (CW.region ?_)))))
    refine TW.move rfl rfl rfl ct ?_
    refine TW.move rfl rfl rfl ct ?_
    refine TW.yield rfl rfl rfl (Args.cons rfl ct Args.nil) (hy pre n M1 W1 hj ⟨_, heq⟩ hM1 (by omega)) ?_
    rintro yb W2 hR
    have hk2 : ∀ k, ((k = g1 ∨ k = g2 ∨ F k) ∧ k < w.heap.size) → W2.heap[k]? = w.heap[k]? := fun k hk => (hR.kept k (by omega) (hk1 k hk).2 (hM k hk).2).trans (hk1 k hk).1
    obtain ⟨m1', m2', m3'⟩ := mem W2 hk2
    refine TW.not rfl rfl rfl ct ?_
    refine TW.nil (KW.pick [0, 1, 4, 20] [(0, _, _), (1, _, _), (4, _, _), (20, _, _)] rfl (KW.then_ ?_))
    refine CW.cond rfl (fun hno => ?_) (fun hgo => ?_)
    · refine CW.ret (KW.blockR (KW.thenR (KW.thenR (KW.blockR ?_))))
      refine ret0 Try.results63 (.inr ?_)
      obtain ⟨M', hx⟩ := hR.no (by simpa using hno)
      exact ⟨_, M', hx⟩
    · refine CW.skip (KW.blockN (KW.then_ (CW.region ?_)))
      refine TW.load rfl rfl one22 rfl ct (fun _ => m1'.cell 0) ?_
      refine TW.move rfl rfl rfl ct ?_
      refine TW.indexAddr rfl rfl Try.underlying22 sz28 rfl ct rfl ct (fun _ => by (try dsimp only); omega) ?_
      refine TW.fieldAddr rfl rfl fo28_2 rfl ct ?_
      refine TW.load rfl rfl one3 rfl ct (fun _ => box_cell m3' hq rfl) ?_
      refine TW.assign rfl rfl rfl ct ?_
      refine TW.nil (KW.pick [0, 1, 4] [(0, _, _), (1, _, _), (4, _, _)] rfl ?_)
      obtain ⟨M', hj2, hm2⟩ := hR.yes (by simpa using hgo)
      refine KW.round (pre ++ [n], q.parent, M') [0, 1, 4] rfl ⟨hj2, hokq.q1, hokq.q2, ?_, Nat.le_trans hsz1 hR.size, fun k hk => (hm2 k hk).2, fun k hk => ⟨hk2 k hk, fun hmk => ?_⟩⟩ ?_
      · dsimp only
        rw [heq, outside_eq hv hq]; simp
      · rcases (hm2 k hmk).1 with h | h
        · exact (hk1 k hk).2 h
        · omega
      · have e2 := congrArg List.length heq
        simp only [List.length_append, List.length_cons] at e2 ⊢
        rw [if_neg (show ¬ (n : Int) < 0 by omega)]
        split <;> simp <;> omega
  · refine CW.exit (KW.thenX (KW.thenX (KW.blockX ?_)))
    dsimp only at hneg
    refine end0 Try.results63 (.inl ⟨pre, M1, ?_, hj⟩)
    rw [heq, if_pos (by omega)]; simp
end Go.Proofs.Ytegmhdabedgloaa
