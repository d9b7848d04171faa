import Derived.Test.YtegmhdabedgloaaJ
namespace Go.Proofs.Ytegmhdabedgloaa
open Go.PF Go.RowKit

theorem Below.putCtl {n D : Nat} {w0 w : World} {o : Obj} (h : Below n w0 w) (hD : n ≤ D) : Below n w0 (w.putObj D o) :=
  ⟨h.os, h.tape, h.output, by simpa [World.putObj] using h.size, fun i hi => (World.putObj_heap_other (by omega)).trans (h.block i hi)⟩

def closedAt (l : List Box) (p : Nat) : Bool := match l[p]? with | some q => q.closed | none => false

set_option maxRecDepth 20000 in
theorem locked_c {F : Nat → Prop} {v : Value} {l : List Box} {w : World} (i : Nat) (hF : ∀ k, F k → k < w.heap.size) (hl : SL boxT F w v l) (hv : Valid l) (hi : i < l.length) :
    Gives Try.prog 47 #[v, .int .i64 (i : Int)] w fun u w' => Below w.heap.size w w' ∧ u = .bool (locked l i) := by
  obtain ⟨A, cap, rfl, h1, h2, h3⟩ := id hl
  obtain ⟨b, hb⟩ : ∃ b, l[i]? = some b := ⟨l[i], List.getElem?_eq_getElem hi⟩
  obtain ⟨ad, rfl, _, _, _⟩ := box_at hl hb
  refine gives_ofM (vs := [.slice (some ad) l.length cap, .int .i64 (i : Int)]) [(0, none, _), (1, none, _)] Try.func47 rfl Try.ntmps47 rfl rfl ?_
  refine CW.seq (CW.region ?_)
  refine TW.box rfl rfl rfl rfl ?_
  rintro g1 w1 f1
  refine TW.alloc rfl rfl zc4 ?_
  rintro g2 w2 f2
  refine TW.nil (KW.pick [0, 1, 2, 4] [(0, _, _), (1, _, _), (2, _, _), (4, _, _)] rfl (KW.then_ ?_))
  refine CW.seq (CW.seq (CW.region ?_))
  have b12 := f1.below.step f2.below
  have B1 := f1.blk.next f2.below
  have B2 := f2.blk
  refine TW.load rfl rfl one22 rfl ct (fun _ => B1.cell 0) ?_
  refine TW.move rfl rfl rfl ct ?_
  refine TW.call0 (cap := []) rfl rfl en36 rfl (Args.cons rfl ct (Args.cons rfl ct Args.nil)) (outside_c _ _ w2 rfl rfl) ?_
  rintro _ w3 ⟨hb3, g3, g4, rfl, B3, B4, hg3, hg4⟩
  refine TW.nil (KW.pick [0, 1, 2, 4, 8] [(0, _, _), (1, _, _), (2, _, _), (4, _, _), (8, _, _)] rfl (KW.then_ ?_))
  refine CW.block ?_
  have b13 := b12.step hb3
  have n1 := f1.at_
  have n2 := f2.at_
  have n3 := f1.below.size
  have n4 := B2.lt
  have n5 := B3.lt
  have n6 := B4.lt
  refine CW.range rfl en63 (outside_iter i g3 g4 (hl.below b13) hv hi B3 B4) rfl (fun _ => rfl)
    (fun pre M W => Below w.heap.size w W ∧ Blk W g1 22 [.slice (some ad) l.length cap] ∧ Blk W g2 4 [.bool false] ∧ (∀ p ∈ pre, closedAt l p = false) ∧ M = fun k => k = g2)
    (fun c pre M W => c = .ret ∧ Below w.heap.size w W ∧ Blk W g2 4 [.bool true] ∧ (∃ p ∈ outside l i, closedAt l p = true)) (fun k => k = g2)
    (fun k hk => by subst hk; exact ⟨by omega, fun h => by rcases h.1 with h | h | h; omega; omega; have := hF _ h; omega⟩) (fun k hk => hk.2)
    (fun pre M W1 W2 ⟨a1, a2, a3, a4, a5⟩ hx => ⟨(hx.less (by omega)).below a1 (Nat.le_refl _), a2.ext hx, a3.ext hx, a4, a5⟩)
    (fun c pre M W1 W2 ⟨a1, a2, a3, a4⟩ hx => ⟨a1, (hx.less (by omega)).below a2 (Nat.le_refl _), a3.ext hx, a4⟩)
    ⟨b13, B1.next hb3, B2.next hb3, by simp, rfl⟩ ?_ ?_ ?_
  · rintro D L pre p M W hD hL ⟨a1, a2, a3, a4, rfl⟩ ⟨suf, hpos⟩ hMlt hML hMD hrec
    have hpo : p ∈ outside l i := by rw [hpos]; simp
    have hpl : p < l.length := by
      have := hpo
      unfold outside at this
      rw [hb] at this
      exact ups_mem l 4 b.parent p this
    obtain ⟨q, hq⟩ : ∃ q, l[p]? = some q := ⟨l[p], List.getElem?_eq_getElem hpl⟩
    refine CW.region ?_
    refine TW.assign rfl rfl rfl ct ?_
    refine TW.nil (KW.pick [0, 1, 2, 4, 5, 9] [(0, _, _), (1, _, _), (2, _, _), (4, _, _), (5, _, _), (9, _, _)] rfl ?_)
    refine KW.begin hrec fun W2 hx hsz hk hrec2 => ?_
    have a2' : Blk W2 g1 22 [.slice (some ad) l.length cap] := a2.ext hx
    have a3' : Blk W2 g2 4 [.bool false] := a3.ext hx
    have a1' : Below w.heap.size w W2 := (hx.less (by omega)).below a1 (Nat.le_refl _)
    have hl2 := hl.below a1'
    refine CW.block (CW.seq (CW.region ?_))
    refine TW.load rfl rfl one22 rfl ct (fun _ => a2'.cell 0) ?_
    refine TW.move rfl rfl rfl ct ?_
    refine TW.indexAddr rfl rfl Try.underlying22 sz28 rfl ct rfl ct (fun _ => by (try dsimp only); omega) ?_
    refine TW.fieldAddr rfl rfl fo28_4 rfl ct ?_
    refine TW.load rfl rfl one4 rfl ct (fun _ => box_cell hl2 hq rfl) ?_
    refine TW.nil (KW.pick [0, 1, 2, 4, 5, 9, 14] [(0, _, _), (1, _, _), (2, _, _), (4, _, _), (5, _, _), (9, _, _), (14, _, _)] rfl (KW.then_ ?_))
    refine CW.cond rfl (fun hyes => ?_) (fun hno => ?_)
    · refine CW.seq (CW.region ?_)
      refine TW.store1 rfl sz4 rfl rfl (a3'.cell 0) (a3'.frozen 0) rfl ?_
      refine TW.nil (KW.pick [0, 1, 2, 4, 5, 9] [(0, _, _), (1, _, _), (2, _, _), (4, _, _), (5, _, _), (9, _, _)] rfl (KW.then_ ?_))
      refine CW.ret (KW.blockR ?_)
      have c1 : Below w.heap.size w (W2.setCell ⟨g2, 0, none⟩ (.bool true)) := a1'.setCell (by show w.heap.size ≤ g2; omega) _
      refine KW.endR (hrec2.kept ?_) fun W3 hx3 hsz3 hk3 hrec3 => ⟨?_, ?_, (fun h => by cases h), fun _ => ⟨fun k => k = g2, .ret, ⟨rfl, ?_, ?_, p, hpo, ?_⟩, hrec3⟩⟩
      · exact Below.heap_setCell _ _ _ _ (by show L ≠ g2; omega)
      · have : (W2.setCell ⟨g2, 0, none⟩ (.bool true)).heap.size = W2.heap.size := by simp
        omega
      · intro k hk1 hk2 hk4
        exact (hk3 k hk4).trans ((Below.heap_setCell _ _ _ _ hk2).trans (hk k hk4))
      · exact (hx3.less (by omega)).below c1 (Nat.le_refl _)
      · exact (a3'.set 0 (.bool true)).ext hx3
      · simpa [closedAt, hq] using hyes
    · refine CW.skip (KW.blockN ?_)
      refine KW.endN hrec2 fun W3 hx3 hsz3 hk3 hrec3 => ⟨by omega, fun k hk1 hk2 hk4 => (hk3 k hk4).trans (hk k hk4), fun _ => ⟨_, ⟨⟨(hx3.less (by omega)).below a1' (Nat.le_refl _), a2'.ext hx3, a3'.ext hx3, ?_, rfl⟩, hML, hMD, hrec3⟩, fun k hk => ⟨.inl hk, by have := hMlt k hk; omega⟩⟩, fun h => by cases h⟩
      intro x hx
      simp only [List.mem_append, List.mem_singleton] at hx
      rcases hx with hx | rfl
      · exact a4 x hx
      · simpa [closedAt, hq] using hno
  · rintro D xs M W hD rfl ⟨a1, a2, a3, a4, rfl⟩ hdef
    refine KW.blockN (KW.then_ ?_)
    refine CW.seq (CW.region ?_)
    refine TW.store1 rfl sz4 rfl rfl (a3.cell 0) (a3.frozen 0) rfl ?_
    refine TW.nil (KW.pick [0, 1, 2, 4] [(0, _, _), (1, _, _), (2, _, _), (4, _, _)] rfl (KW.then_ ?_))
    refine CW.ret ?_
    refine retCM Try.results47 one4 rfl (a3.set 0 (.bool false)) ?_ ?_
    · exact (Below.heap_setCell _ _ _ _ (by show D ≠ g2; omega)).trans hdef
    · refine ⟨Below.putCtl (a1.setCell (by show w.heap.size ≤ g2; omega) _) (by have := b13.size; omega), ?_⟩
      have e : locked l i = false := by
        rw [locked, List.any_eq_false]
        intro p hp
        show ¬ closedAt l p = true
        rw [a4 p hp]; simp
      rw [e]
  · rintro D c pre M W hD ⟨rfl, a1, a2, p, hp, hcl⟩ hdef
    refine CW.ret (KW.blockR (KW.thenR ?_))
    refine retCM Try.results47 one4 rfl a2 hdef ⟨Below.putCtl a1 (by have := b13.size; omega), ?_⟩
    have e : locked l i = true := by
      rw [locked, List.any_eq_true]
      exact ⟨p, hp, hcl⟩
    rw [e]
end Go.Proofs.Ytegmhdabedgloaa
