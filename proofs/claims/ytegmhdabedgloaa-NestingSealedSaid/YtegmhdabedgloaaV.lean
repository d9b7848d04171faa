import Derived.Test.YtegmhdabedgloaaU
namespace Go.Proofs.Ytegmhdabedgloaa
open Go.PF Go.RowKit

set_option maxRecDepth 20000 in
theorem move_c {F : Nat → Prop} {v : Value} {l : List Box} {w : World} (box place : Int) (hF : ∀ k, F k → k < w.heap.size) (hi1 : I64 box) (hl : SL boxT F w v l) :
    Gives Try.prog 15 #[v, .int .i64 box, .int .i64 place] w (ResB w (moveS l box place)) := by
  obtain ⟨A, cap, rfl, h1, h2, h3⟩ := id hl
  refine gives_of (vs := [.slice A l.length cap, .int .i64 box, .int .i64 place]) [(0, none, _), (1, none, _), (2, none, _)] Try.func15 rfl Try.ntmps15 rfl rfl ?_
  refine CW.seq (CW.region ?_)
  refine TW.box rfl rfl rfl rfl ?_
  rintro g3 w1 f1
  refine TW.box rfl rfl rfl rfl ?_
  rintro g4 w2 f2
  refine TW.box rfl rfl rfl rfl ?_
  rintro g5 w3 f3
  refine TW.assign rfl rfl rfl ct ?_
  refine TW.assign rfl rfl rfl ct ?_
  refine TW.nil (KW.pick [0, 1, 2, 3, 4, 5, 6, 7] [(0, _, _), (1, _, _), (2, _, _), (3, _, _), (4, _, _), (5, _, _), (6, _, _), (7, _, _)] rfl (KW.then_ ?_))
  refine CW.seq (CW.region ?_)
  refine TW.makeFunc rfl rfl (Args.cons rfl ct (Args.cons rfl ct (Args.cons rfl ct Args.nil))) ?_
  refine TW.assign rfl rfl rfl ct ?_
  refine TW.nil (KW.pick [0, 1, 2, 3, 4, 5, 6, 7, 8] [(0, _, _), (1, _, _), (2, _, _), (3, _, _), (4, _, _), (5, _, _), (6, _, _), (7, _, _), (8, _, _)] rfl (KW.then_ ?_))
  refine CW.seq (CW.draw mixed (by kernel_rfl) ?_)
  have b3 := (f1.below.step f2.below).step f3.below
  have B3 := (f1.blk.next f2.below).next f3.below
  have B4 := f2.blk.next f3.below
  have B5 := f3.blk
  have hl3 := hl.below b3
  obtain ⟨c3, l', hbs⟩ : ∃ (c3 : Bool) (l' : List Box), (Valid l ∧ ∀ i ∈ [box], 0 ≤ i ∧ i < l.length) → ∃ (i : Nat) (b : Box), box = i ∧ l[i]? = some b ∧ c3 = decide (b.parent ≠ -1) ∧ l' = moved l i place l.length := by
    by_cases hh : Valid l ∧ ∀ i ∈ [box], 0 ≤ i ∧ i < l.length
    · have hx1 := hh.2 box (by simp)
      obtain ⟨i, rfl⟩ : ∃ i : Nat, box = i := ⟨box.toNat, by omega⟩
      exact ⟨_, _, fun _ => ⟨i, l[i]'(by omega), rfl, List.getElem?_eq_getElem (by omega), rfl, rfl⟩⟩
    · exact ⟨false, l, fun h => absurd h hh⟩
  refine DW.load rfl rfl one22 rfl ct (fun _ => B3.cell 0) ?_
  refine DW.move rfl rfl rfl ct ?_
  refine DW.load rfl rfl one22 rfl ct (fun _ => B3.cell 0) ?_
  refine DW.load rfl rfl one3 rfl ct (fun _ => B4.cell 0) ?_
  refine DW.buildSlice 3 _ rfl rfl rfl eo25 (DArgs.cons rfl ct DArgs.nil) rfl rfl rfl rfl rfl ?_
  refine DW.callP (.pr (GivenAt (.slice A l.length cap) [box])) (GivenAt.mono _ _) rfl rfl en39 rfl ct (PArgs.cons rfl ct (PArgs.cons rfl ct PArgs.nil)) (fun _ w' hb' vs hs => ?_) ?_
  · obtain ⟨_, v', rfl, rfl, hv'⟩ := Sats.two hs
    obtain ⟨g, rfl, _⟩ := id hv'
    exact (given_c rfl rfl).mono fun u w'' ⟨hb'', ga, gi, h1, h2, h3⟩ => ⟨hb'', ga, gi, _, h1, h2, h3, Lies.mono _ _ _ _ _ _ hb'' hv'⟩
  refine DW.makeFunc rfl rfl (DArgs.cons rfl ct DArgs.nil) ?_
  refine DW.build [0, 1] _ (ruleCells ⟨40, [ptr g5], 1, decide (place < 0) || decide (place ≥ 12)⟩) rfl rfl rfl rfl (DArgs.cons rfl ct (DArgs.cons rfl ct DArgs.nil)) rfl ?_
  refine DW.makeFunc rfl rfl (DArgs.cons rfl ct (DArgs.cons rfl ct DArgs.nil)) ?_
  refine DW.build [0, 1] _ (ruleCells ⟨41, [ptr g3, ptr g4], 150, c3⟩) rfl rfl rfl rfl (DArgs.cons rfl ct (DArgs.cons rfl ct DArgs.nil)) rfl ?_
  refine DW.buildSliceP 53 _ (RulesAt (putΦ (.slice A l.length cap) l [box] [⟨40, [ptr g5], 1, decide (place < 0) || decide (place ≥ 12)⟩, ⟨41, [ptr g3, ptr g4], 150, c3⟩])) (putΦ.mono _ _ _ _) rfl rfl rfl eo62
    (PArgs.cons rfl ct (PArgs.cons rfl ct (PArgs.cons rfl ct PArgs.nil))) rfl rfl rfl (fun vs w' hs => ?_) ?_
  · obtain ⟨u, _, _, rfl, hu, rfl, rfl⟩ := Sats.three hs
    obtain ⟨ga, gi, rfl, hg⟩ := GivenAt.blks hu
    exact ⟨fun v hv => by simp at hv; rcases hv with rfl | rfl | rfl <;> rfl, fun g w'' hf => ⟨⟨65, [ptr ga, ptr gi], 1, !dec (Valid l ∧ ∀ i ∈ [box], 0 ≤ i ∧ i < l.length)⟩ :: [⟨40, [ptr g5], 1, decide (place < 0) || decide (place ≥ 12)⟩, ⟨41, [ptr g3, ptr g4], 150, c3⟩], g, rfl, hf.blk, ga, gi, rfl, GivenAt.mono _ _ _ _ _ hf.below hg⟩⟩
  refine DW.callP (.pr (ResE w.heap.size (moveS l box place))) (ResE.mono _ _) rfl rfl en38 rfl ct (PArgs.cons rfl ct (PArgs.cons rfl ct (PArgs.cons rfl ct PArgs.nil))) (fun _ w' hb' vs hs => ?_) ?_
  · obtain ⟨_, _, u, rfl, rfl, rfl, hu⟩ := Sats.three hs
    obtain ⟨rs, g, rfl, hB, ga, gi, hrs, hg⟩ := hu
    have hlw := hl3.below hb'
    have hFw : ∀ k, F k → k < w'.heap.size := fun k hk => by have := hF k hk; have := b3.size; have := hb'.size; omega
    subst hrs
    have hres : ruled (⟨65, [ptr ga, ptr gi], 1, !dec (Valid l ∧ ∀ i ∈ [box], 0 ≤ i ∧ i < l.length)⟩ :: [⟨40, [ptr g5], 1, decide (place < 0) || decide (place ≥ 12)⟩, ⟨41, [ptr g3, ptr g4], 150, c3⟩]) l' = moveS l box place := by
      by_cases hh : Valid l ∧ ∀ i ∈ [box], 0 ≤ i ∧ i < l.length
      · obtain ⟨ib, b, rfl, hbi, rfl, rfl⟩ := hbs hh
        have hok := hh.1.each _ _ hbi
        have hb1 : BHas l (ib : Int) := ⟨hh.1, hh.2 _ (by simp)⟩
        have hpar : (0 ≤ b.parent) ↔ b.parent ≠ -1 := by have := hok.q1; omega
        unfold ruled moveS
        rw [dec_pos hh]
        by_cases q0 : 0 ≤ place ∧ place ≤ 11
        · rw [if_neg (by simp [hb1, q0])]
          simp only [Int.toNat_natCast, hbi, hpar]
          have e : (decide (place < 0) || decide (place ≥ 12)) = false := by simp; omega
          rw [e]
          by_cases q1 : b.parent = -1 <;> simp [q1]
        · rw [if_pos (fun h => q0 h.2)]
          have e : (decide (place < 0) || decide (place ≥ 12)) = true := by simp; omega
          rw [e]
          simp
      · rw [ruled_at (k := 0) rfl (by show (!dec _) = true; rw [dec_neg hh]; rfl) (fun j r' hj => by omega)]
        unfold moveS
        rw [if_pos]
        intro h
        exact hh ⟨h.1.1, fun i hi => by simp at hi; subst hi; exact h.1.2⟩
    refine (change_c (l' := l') _ 37 [ptr g5, ptr g4, ptr g3] hlw hB (by simp) ?_ ?_).mono fun u w'' ⟨v', h1, h2, h3⟩ => ⟨h3, v', ?_, ?_⟩
    · intro i r hr hall
      rcases i with _ | i
      · obtain rfl := Option.some.inj hr
        exact ⟨en65, hg.thunk hlw (by intro x hx; simp at hx; subst hx; assumption) (by simp)⟩
      · have hh := dec_iff.1 (by simpa using hall 0 _ (by omega) rfl)
        have hbs' := hbs (by simpa using hh)
        obtain ⟨ib, b, rfl, hbi, rfl, rfl⟩ := hbs'
        rcases i with _ | _ | i
        case succ.succ => simp at hr
        all_goals obtain rfl := Option.some.inj hr
        · exact ⟨en40, fun w2 hb2 => move2_c place ((B5.next hb').next hb2)⟩
        · exact ⟨en41, fun w2 hb2 => move3_c (hlw.below hb2) ((B3.next hb').next hb2) ib b hbi ((B4.next hb').next hb2)⟩
    · intro hall
      have hh := dec_iff.1 (by simpa using hall _ List.mem_cons_self)
      obtain ⟨ib, b, rfl, hbi, rfl, rfl⟩ := hbs (by simpa using hh)
      have hq0 := hall ⟨40, [ptr g5], 1, decide (place < 0) || decide (place ≥ 12)⟩ (by simp)
      have hq1 := hall ⟨41, [ptr g3, ptr g4], 150, decide (b.parent ≠ -1)⟩ (by simp)
      simp at hq0 hq1
      have hR := sl_boxR hl
      refine ⟨hh.1.few, moved_len _ _ _ _, moved_R _ _ _ _ ⟨hq0.1, by omega⟩ hR, en37, fun w2 v2 hb2 hown hfr => ?_⟩
      have := move1_c ib b place hFw hlw hh.1 hbi (B5.next hb') (B4.next hb') (B3.next hb') hb2 hown hfr
      rw [placed_moved hh.1 hbi hq1] at this
      exact this
    · rw [h1, hres]
    · rw [← hres]
      exact h2.wider fun k hk => by have := b3.size; have := hb'.size; omega
  refine DW.extractP (fun u w' => SL boxT (fun k => w.heap.size ≤ k) w' u (moveS l box place).1) rfl rfl rfl ct (SLE.mono _ _) (fun u w' ⟨v', h1, h2⟩ => ⟨_, v', h1, rfl, h2⟩) ?_
  refine DW.extractP (fun u w' => u = .int .i64 (moveS l box place).2) rfl rfl rfl ct (Ent.mono_pure _) (fun u w' ⟨v', h1, h2⟩ => ⟨_, _, h1, rfl, rfl⟩) ?_
  refine DW.assignP rfl rfl rfl ct (SLE.mono _ _) ?_
  refine DW.assignP rfl rfl rfl ct (Ent.mono_pure _) ?_
  refine DW.nil (DW.finP [6, 7] rfl fun vs w4 hb4 hs => KW.then_ ?_)
  obtain ⟨v6, v7, rfl, h6, h7⟩ := Sats.two hs
  refine CW.ret ?_
  refine ret2 Try.results15 rfl rfl (⟨v6, by rw [show v7 = _ from h7], h6, b3.step hb4⟩)
end Go.Proofs.Ytegmhdabedgloaa
