import Derived.Test.YtegmhdabedgloaaP
namespace Go.Proofs.Ytegmhdabedgloaa
open Go.PF Go.RowKit

def FixedAt (v : Value) (i : Int) (u : Value) (w : World) : Prop := ∃ ga gi, u = .agg (ruleCells ⟨66, [ptr ga, ptr gi], 150, false⟩).toArray ∧ Blk w ga 22 [v] ∧ Blk w gi 3 [.int .i64 i]
theorem FixedAt.mono (v : Value) (i : Int) : Ent.mono (.pr (FixedAt v i)) := fun _ _ _ hb ⟨ga, gi, h1, h2, h3⟩ => ⟨ga, gi, h1, h2.next hb, h3.next hb⟩
def fixΦ (v : Value) (l : List Box) (x : Int) (fb : Bool) (rest : List Rule) (rs : List Rule) (w : World) : Prop := ∃ ga gi gc gd, rs = ⟨65, [ptr ga, ptr gi], 1, !dec (Valid l ∧ ∀ i ∈ [x], 0 ≤ i ∧ i < l.length)⟩ :: ⟨66, [ptr gc, ptr gd], 150, fb⟩ :: rest ∧ GivenAt v [x] (.agg (ruleCells ⟨65, [ptr ga, ptr gi], 1, false⟩).toArray) w ∧ Blk w gc 22 [v] ∧ Blk w gd 3 [.int .i64 x]
theorem fixΦ.mono (v : Value) (l : List Box) (i : Int) (fb : Bool) (rest : List Rule) : Ent.mono (.pr (RulesAt (fixΦ v l i fb rest))) := RulesAt.mono fun rs w w' hb ⟨ga, gi, gc, gd, h1, h2, h3, h4⟩ => ⟨ga, gi, gc, gd, h1, GivenAt.mono _ _ _ _ _ hb h2, h3.next hb, h4.next hb⟩

set_option maxRecDepth 20000 in
theorem take_c {F : Nat → Prop} {v : Value} {l : List Box} {w : World} (box : Int) (hF : ∀ k, F k → k < w.heap.size) (hi1 : I64 box) (hl : SL boxT F w v l) :
    Gives Try.prog 21 #[v, .int .i64 box] w (ResB w (takeS l box)) := by
  obtain ⟨A, cap, rfl, h1, h2, h3⟩ := id hl
  refine gives_of (vs := [.slice A l.length cap, .int .i64 box]) [(0, none, _), (1, none, _)] Try.func21 rfl Try.ntmps21 rfl rfl ?_
  refine CW.seq (CW.region ?_)
  refine TW.box rfl rfl rfl rfl ?_
  rintro g3 w1 f1
  refine TW.box rfl rfl rfl rfl ?_
  rintro g4 w2 f2
  refine TW.assign rfl rfl rfl ct ?_
  refine TW.assign rfl rfl rfl ct ?_
  refine TW.nil (KW.pick [0, 1, 2, 3, 4, 5] [(0, _, _), (1, _, _), (2, _, _), (3, _, _), (4, _, _), (5, _, _)] rfl (KW.then_ ?_))
  refine CW.seq (CW.draw mixed (by kernel_rfl) ?_)
  have b3 := f1.below.step f2.below
  have B3 := f1.blk.next f2.below
  have B4 := f2.blk
  have hl3 := hl.below b3
  obtain ⟨b2, c3, l', hbs⟩ : ∃ (b2 c3 : Bool) (l' : List Box), (Valid l ∧ ∀ i ∈ [box], 0 ≤ i ∧ i < l.length) → ∃ (i : Nat) (b : Box), box = i ∧ l[i]? = some b ∧ b2 = (decide (b.parent = -1)) ∧ c3 = (locked l i) ∧ l' = l.set i { b with parent := -1 } := by
    by_cases hh : Valid l ∧ ∀ i ∈ [box], 0 ≤ i ∧ i < l.length
    · have hx1 := hh.2 box (by simp)
      obtain ⟨i, rfl⟩ : ∃ i : Nat, box = i := ⟨box.toNat, by omega⟩
      exact ⟨_, _, _, fun _ => ⟨i, l[i]'(by omega), rfl, List.getElem?_eq_getElem (by omega), rfl, rfl, rfl⟩⟩
    · exact ⟨false, false, l, fun h => absurd h hh⟩
  refine DW.load rfl rfl one22 rfl ct (fun _ => B3.cell 0) ?_
  refine DW.makeFunc rfl rfl (DArgs.cons rfl ct DArgs.nil) ?_
  refine DW.load rfl rfl one22 rfl ct (fun _ => B3.cell 0) ?_
  refine DW.load rfl rfl one3 rfl ct (fun _ => B4.cell 0) ?_
  refine DW.buildSlice 3 _ rfl rfl rfl eo25 (DArgs.cons rfl ct DArgs.nil) rfl rfl rfl rfl rfl ?_
  refine DW.callP (.pr (GivenAt (.slice A l.length cap) [box])) (GivenAt.mono _ _) rfl rfl en39 rfl ct (PArgs.cons rfl ct (PArgs.cons rfl ct PArgs.nil)) (fun _ w' hb' vs hs => ?_) ?_
  · obtain ⟨_, v', rfl, rfl, hv'⟩ := Sats.two hs
    obtain ⟨g, rfl, _⟩ := id hv'
    exact (given_c rfl rfl).mono fun u w'' ⟨hb'', ga, gi, h1, h2, h3⟩ => ⟨hb'', ga, gi, _, h1, h2, h3, Lies.mono _ _ _ _ _ _ hb'' hv'⟩
  refine DW.makeFunc rfl rfl (DArgs.cons rfl ct (DArgs.cons rfl ct DArgs.nil)) ?_
  refine DW.build [0, 1] _ (ruleCells ⟨52, [ptr g3, ptr g4], 3, b2⟩) rfl rfl rfl rfl (DArgs.cons rfl ct (DArgs.cons rfl ct DArgs.nil)) rfl ?_
  refine DW.makeFunc rfl rfl (DArgs.cons rfl ct (DArgs.cons rfl ct DArgs.nil)) ?_
  refine DW.build [0, 1] _ (ruleCells ⟨53, [ptr g3, ptr g4], 150, c3⟩) rfl rfl rfl rfl (DArgs.cons rfl ct (DArgs.cons rfl ct DArgs.nil)) rfl ?_
  refine DW.buildSliceP 53 _ (RulesAt (putΦ (.slice A l.length cap) l [box] [⟨52, [ptr g3, ptr g4], 3, b2⟩, ⟨53, [ptr g3, ptr g4], 150, c3⟩])) (putΦ.mono _ _ _ _) rfl rfl rfl eo62 (PArgs.cons rfl ct (PArgs.cons rfl ct (PArgs.cons rfl ct PArgs.nil))) rfl rfl rfl (fun vs w' hs => ?_) ?_
  · obtain ⟨u, _, _, rfl, hu, rfl, rfl⟩ := Sats.three hs
    obtain ⟨ga, gi, rfl, hg⟩ := GivenAt.blks hu
    exact ⟨fun v hv => by simp at hv; rcases hv with rfl | rfl | rfl <;> rfl, fun g w'' hf => ⟨⟨65, [ptr ga, ptr gi], 1, !dec (Valid l ∧ ∀ i ∈ [box], 0 ≤ i ∧ i < l.length)⟩ :: [⟨52, [ptr g3, ptr g4], 3, b2⟩, ⟨53, [ptr g3, ptr g4], 150, c3⟩], g, rfl, hf.blk, ga, gi, rfl, GivenAt.mono _ _ _ _ _ hf.below hg⟩⟩
  refine DW.callP (.pr (ResE w.heap.size (takeS l box))) (ResE.mono _ _) rfl rfl en38 rfl ct (PArgs.cons rfl ct (PArgs.cons rfl ct (PArgs.cons rfl ct PArgs.nil))) (fun _ w' hb' vs hs => ?_) ?_
  · obtain ⟨_, _, u, rfl, rfl, rfl, hu⟩ := Sats.three hs
    obtain ⟨rs, g, rfl, hB, ga, gi, hrs, hg⟩ := hu
    have hlw := hl3.below hb'
    have hFw : ∀ k, F k → k < w'.heap.size := fun k hk => by have := hF k hk; have := b3.size; have := hb'.size; omega
    subst hrs
    have hres : ruled (⟨65, [ptr ga, ptr gi], 1, !dec (Valid l ∧ ∀ i ∈ [box], 0 ≤ i ∧ i < l.length)⟩ :: [⟨52, [ptr g3, ptr g4], 3, b2⟩, ⟨53, [ptr g3, ptr g4], 150, c3⟩]) l' = takeS l box := by
      by_cases hh : Valid l ∧ ∀ i ∈ [box], 0 ≤ i ∧ i < l.length
      · obtain ⟨ib, b, rfl, hbi, rfl, rfl, rfl⟩ := hbs hh
        have hok := hh.1.each _ _ hbi
        have hb1 : BHas l (ib : Int) := ⟨hh.1, hh.2 _ (by simp)⟩
        unfold ruled takeS
        rw [dec_pos hh, if_neg (by simp [hb1])]
        have hpar : (b.parent < 0) ↔ b.parent = -1 := by have := hok.q1; omega
        simp only [Int.toNat_natCast, hbi, hpar]
        by_cases q1 : b.parent = -1
        · simp [q1]
        · cases q5 : locked l ib <;> simp [q1, q5]
      · rw [ruled_at (k := 0) rfl (by show (!dec _) = true; rw [dec_neg hh]; rfl) (fun j r' hj => by omega)]
        unfold takeS
        rw [if_pos]
        intro h
        exact hh ⟨h.1, fun i hi => by simp at hi; subst hi; exact h.2⟩
    refine (change_c (l' := l') _ 51 [ptr g4] hlw hB (by simp) ?_ ?_).mono fun u w'' ⟨v', h1, h2, h3⟩ => ⟨h3, v', ?_, ?_⟩
    · intro i r hr hall
      rcases i with _ | i
      · obtain rfl := Option.some.inj hr
        exact ⟨en65, hg.thunk hlw (by intro x hx; simp at hx; subst hx; assumption) (by simp)⟩
      · have hh := dec_iff.1 (by simpa using hall 0 _ (by omega) rfl)
        have hbs' := hbs (by simpa using hh)
        obtain ⟨ib, b, rfl, hbi, rfl, rfl, rfl⟩ := hbs'
        have hlt := (List.getElem?_eq_some_iff.1 hbi).1
        rcases i with _ | _ | i
        case succ.succ => simp at hr
        all_goals obtain rfl := Option.some.inj hr
        · exact ⟨en52, fun w2 hb2 => take2_c (hlw.below hb2) ((B3.next hb').next hb2) ib b hbi ((B4.next hb').next hb2)⟩
        · exact ⟨en53, fun w2 hb2 => take3_c (hlw.below hb2) ((B3.next hb').next hb2) ib b hbi ((B4.next hb').next hb2) (fun k hk => Nat.lt_of_lt_of_le (hFw k hk) hb2.size) hh.1⟩
    · intro hall
      have hh := dec_iff.1 (by simpa using hall _ List.mem_cons_self)
      obtain ⟨ib, b, rfl, hbi, rfl, rfl, rfl⟩ := hbs (by simpa using hh)
      have hR := sl_boxR hl
      refine ⟨hh.1.few, by simp, ?_, en51, fun w2 v2 hb2 hown hfr => (take1_c ib b hbi hh.1.few hown ((B4.next hb').next hb2)).mono fun _ w3 ⟨hg, ho⟩ => ⟨grown_below hg hb2 hfr, ho⟩⟩
      intro x hx
      rcases List.mem_or_eq_of_mem_set hx with hx | rfl
      · exact hR x hx
      · have := hR b (List.mem_of_getElem? hbi)
        exact ⟨this.1, this.2.1, ⟨by show (-9223372036854775808 : Int) ≤ -1; decide, by show (-1 : Int) ≤ 9223372036854775807; decide⟩, this.2.2.2⟩
    · rw [h1, hres]
    · rw [← hres]
      exact h2.wider fun k hk => by have := b3.size; have := hb'.size; omega
  refine DW.extractP (fun u w' => SL boxT (fun k => w.heap.size ≤ k) w' u (takeS l box).1) rfl rfl rfl ct (SLE.mono _ _) (fun u w' ⟨v', h1, h2⟩ => ⟨_, v', h1, rfl, h2⟩) ?_
  refine DW.extractP (fun u w' => u = .int .i64 (takeS l box).2) rfl rfl rfl ct (Ent.mono_pure _) (fun u w' ⟨v', h1, h2⟩ => ⟨_, _, h1, rfl, rfl⟩) ?_
  refine DW.assignP rfl rfl rfl ct (SLE.mono _ _) ?_
  refine DW.assignP rfl rfl rfl ct (Ent.mono_pure _) ?_
  refine DW.nil (DW.finP [4, 5] rfl fun vs w4 hb4 hs => KW.then_ ?_)
  obtain ⟨v4, v5, rfl, h4, h5⟩ := Sats.two hs
  refine CW.ret ?_
  refine ret2 Try.results21 rfl rfl (⟨v4, by rw [show v5 = _ from h5], h4, b3.step hb4⟩)

set_option maxRecDepth 20000 in
theorem close_c {F : Nat → Prop} {v : Value} {l : List Box} {w : World} (box : Int) (hF : ∀ k, F k → k < w.heap.size) (hi1 : I64 box) (hl : SL boxT F w v l) :
    Gives Try.prog 23 #[v, .int .i64 box] w (ResB w (closeS l box)) := by
  obtain ⟨A, cap, rfl, h1, h2, h3⟩ := id hl
  refine gives_of (vs := [.slice A l.length cap, .int .i64 box]) [(0, none, _), (1, none, _)] Try.func23 rfl Try.ntmps23 rfl rfl ?_
  refine CW.seq (CW.region ?_)
  refine TW.box rfl rfl rfl rfl ?_
  rintro g3 w1 f1
  refine TW.box rfl rfl rfl rfl ?_
  rintro g4 w2 f2
  refine TW.assign rfl rfl rfl ct ?_
  refine TW.assign rfl rfl rfl ct ?_
  refine TW.nil (KW.pick [0, 1, 2, 3, 4, 5] [(0, _, _), (1, _, _), (2, _, _), (3, _, _), (4, _, _), (5, _, _)] rfl (KW.then_ ?_))
  refine CW.seq (CW.draw mixed (by kernel_rfl) ?_)
  have b3 := f1.below.step f2.below
  have B3 := f1.blk.next f2.below
  have B4 := f2.blk
  have hl3 := hl.below b3
  obtain ⟨fb, c3, l', hbs⟩ : ∃ (fb c3 : Bool) (l' : List Box), (Valid l ∧ ∀ i ∈ [box], 0 ≤ i ∧ i < l.length) → ∃ (i : Nat) (b : Box), box = i ∧ l[i]? = some b ∧ fb = (decide (b.kind = 0) || locked l i) ∧ c3 = (b.closed) ∧ l' = l.set i { b with closed := true } := by
    by_cases hh : Valid l ∧ ∀ i ∈ [box], 0 ≤ i ∧ i < l.length
    · have hx1 := hh.2 box (by simp)
      obtain ⟨i, rfl⟩ : ∃ i : Nat, box = i := ⟨box.toNat, by omega⟩
      exact ⟨_, _, _, fun _ => ⟨i, l[i]'(by omega), rfl, List.getElem?_eq_getElem (by omega), rfl, rfl, rfl⟩⟩
    · exact ⟨false, false, l, fun h => absurd h hh⟩
  refine DW.load rfl rfl one22 rfl ct (fun _ => B3.cell 0) ?_
  refine DW.makeFunc rfl rfl (DArgs.cons rfl ct DArgs.nil) ?_
  refine DW.load rfl rfl one22 rfl ct (fun _ => B3.cell 0) ?_
  refine DW.load rfl rfl one3 rfl ct (fun _ => B4.cell 0) ?_
  refine DW.buildSlice 3 _ rfl rfl rfl eo25 (DArgs.cons rfl ct DArgs.nil) rfl rfl rfl rfl rfl ?_
  refine DW.callP (.pr (GivenAt (.slice A l.length cap) [box])) (GivenAt.mono _ _) rfl rfl en39 rfl ct (PArgs.cons rfl ct (PArgs.cons rfl ct PArgs.nil)) (fun _ w' hb' vs hs => ?_) ?_
  · obtain ⟨_, v', rfl, rfl, hv'⟩ := Sats.two hs
    obtain ⟨g, rfl, _⟩ := id hv'
    exact (given_c rfl rfl).mono fun u w'' ⟨hb'', ga, gi, h1, h2, h3⟩ => ⟨hb'', ga, gi, _, h1, h2, h3, Lies.mono _ _ _ _ _ _ hb'' hv'⟩
  refine DW.load rfl rfl one22 rfl ct (fun _ => B3.cell 0) ?_
  refine DW.load rfl rfl one3 rfl ct (fun _ => B4.cell 0) ?_
  refine DW.callP (.pr (FixedAt (.slice A l.length cap) box)) (FixedAt.mono _ _) rfl rfl en55 rfl ct (PArgs.cons rfl ct (PArgs.cons rfl ct PArgs.nil)) (fun _ w' hb' vs hs => ?_) ?_
  · obtain ⟨_, _, rfl, rfl, rfl⟩ := Sats.two hs
    exact (fixed_c rfl rfl).mono fun u w'' ⟨hb'', ga, gi, h1, h2, h3⟩ => ⟨hb'', ga, gi, h1, h2, h3⟩
  refine DW.makeFunc rfl rfl (DArgs.cons rfl ct (DArgs.cons rfl ct DArgs.nil)) ?_
  refine DW.build [0, 1] _ (ruleCells ⟨56, [ptr g3, ptr g4], 4, c3⟩) rfl rfl rfl rfl (DArgs.cons rfl ct (DArgs.cons rfl ct DArgs.nil)) rfl ?_
  refine DW.buildSliceP 53 _ (RulesAt (fixΦ (.slice A l.length cap) l box fb [⟨56, [ptr g3, ptr g4], 4, c3⟩])) (fixΦ.mono _ _ _ _ _) rfl rfl rfl eo62 (PArgs.cons rfl ct (PArgs.cons rfl ct (PArgs.cons rfl ct PArgs.nil))) rfl rfl rfl (fun vs w' hs => ?_) ?_
  · obtain ⟨u, u2, _, rfl, hu, hu2, rfl⟩ := Sats.three hs
    obtain ⟨ga, gi, rfl, hg⟩ := GivenAt.blks hu
    obtain ⟨gc, gd, rfl, hB1, hB2⟩ := hu2
    exact ⟨fun v hv => by simp at hv; rcases hv with rfl | rfl | rfl <;> rfl, fun g w'' hf => ⟨⟨65, [ptr ga, ptr gi], 1, !dec (Valid l ∧ ∀ i ∈ [box], 0 ≤ i ∧ i < l.length)⟩ :: ⟨66, [ptr gc, ptr gd], 150, fb⟩ :: [⟨56, [ptr g3, ptr g4], 4, c3⟩], g, rfl, hf.blk, ga, gi, gc, gd, rfl, GivenAt.mono _ _ _ _ _ hf.below hg, hB1.next hf.below, hB2.next hf.below⟩⟩
  refine DW.callP (.pr (ResE w.heap.size (closeS l box))) (ResE.mono _ _) rfl rfl en38 rfl ct (PArgs.cons rfl ct (PArgs.cons rfl ct (PArgs.cons rfl ct PArgs.nil))) (fun _ w' hb' vs hs => ?_) ?_
  · obtain ⟨_, _, u, rfl, rfl, rfl, hu⟩ := Sats.three hs
    obtain ⟨rs, g, rfl, hB, ga, gi, gc, gd, hrs, hg, hB1, hB2⟩ := hu
    have hlw := hl3.below hb'
    have hFw : ∀ k, F k → k < w'.heap.size := fun k hk => by have := hF k hk; have := b3.size; have := hb'.size; omega
    subst hrs
    have hres : ruled (⟨65, [ptr ga, ptr gi], 1, !dec (Valid l ∧ ∀ i ∈ [box], 0 ≤ i ∧ i < l.length)⟩ :: ⟨66, [ptr gc, ptr gd], 150, fb⟩ :: [⟨56, [ptr g3, ptr g4], 4, c3⟩]) l' = closeS l box := by
      by_cases hh : Valid l ∧ ∀ i ∈ [box], 0 ≤ i ∧ i < l.length
      · obtain ⟨ib, b, rfl, hbi, rfl, rfl, rfl⟩ := hbs hh
        have hok := hh.1.each _ _ hbi
        have hb1 : BHas l (ib : Int) := ⟨hh.1, hh.2 _ (by simp)⟩
        unfold ruled closeS
        rw [dec_pos hh, if_neg (by simp [hb1])]
        simp only [Int.toNat_natCast, hbi]
        by_cases q1 : b.kind = 0
        · simp [q1]
        · cases q5 : locked l ib <;> cases q6 : b.closed <;> simp [q1, q5, q6]
      · rw [ruled_at (k := 0) rfl (by show (!dec _) = true; rw [dec_neg hh]; rfl) (fun j r' hj => by omega)]
        unfold closeS
        rw [if_pos]
        intro h
        exact hh ⟨h.1, fun i hi => by simp at hi; subst hi; exact h.2⟩
    refine (change_c (l' := l') _ 54 [ptr g4] hlw hB (by simp) ?_ ?_).mono fun u w'' ⟨v', h1, h2, h3⟩ => ⟨h3, v', ?_, ?_⟩
    · intro i r hr hall
      rcases i with _ | i
      · obtain rfl := Option.some.inj hr
        exact ⟨en65, hg.thunk hlw (by intro x hx; simp at hx; subst hx; assumption) (by simp)⟩
      · have hh := dec_iff.1 (by simpa using hall 0 _ (by omega) rfl)
        have hbs' := hbs (by simpa using hh)
        obtain ⟨ib, b, rfl, hbi, rfl, rfl, rfl⟩ := hbs'
        have hlt := (List.getElem?_eq_some_iff.1 hbi).1
        rcases i with _ | _ | i
        case succ.succ => simp at hr
        all_goals obtain rfl := Option.some.inj hr
        · exact ⟨en66, fun w2 hb2 => fixed1_c (hlw.below hb2) (hB1.next hb2) ib b hbi (hB2.next hb2) (fun k hk => Nat.lt_of_lt_of_le (hFw k hk) hb2.size) hh.1⟩
        · exact ⟨en56, fun w2 hb2 => close2_c (hlw.below hb2) ((B3.next hb').next hb2) ib b hbi ((B4.next hb').next hb2)⟩
    · intro hall
      have hh := dec_iff.1 (by simpa using hall _ List.mem_cons_self)
      obtain ⟨ib, b, rfl, hbi, rfl, rfl, rfl⟩ := hbs (by simpa using hh)
      have hR := sl_boxR hl
      refine ⟨hh.1.few, by simp, ?_, en54, fun w2 v2 hb2 hown hfr => (close1_c ib b hbi hh.1.few hown ((B4.next hb').next hb2)).mono fun _ w3 ⟨hg, ho⟩ => ⟨grown_below hg hb2 hfr, ho⟩⟩
      intro x hx
      rcases List.mem_or_eq_of_mem_set hx with hx | rfl
      · exact hR x hx
      · have := hR b (List.mem_of_getElem? hbi)
        exact ⟨this.1, this.2.1, this.2.2.1, this.2.2.2⟩
    · rw [h1, hres]
    · rw [← hres]
      exact h2.wider fun k hk => by have := b3.size; have := hb'.size; omega
  refine DW.extractP (fun u w' => SL boxT (fun k => w.heap.size ≤ k) w' u (closeS l box).1) rfl rfl rfl ct (SLE.mono _ _) (fun u w' ⟨v', h1, h2⟩ => ⟨_, v', h1, rfl, h2⟩) ?_
  refine DW.extractP (fun u w' => u = .int .i64 (closeS l box).2) rfl rfl rfl ct (Ent.mono_pure _) (fun u w' ⟨v', h1, h2⟩ => ⟨_, _, h1, rfl, rfl⟩) ?_
  refine DW.assignP rfl rfl rfl ct (SLE.mono _ _) ?_
  refine DW.assignP rfl rfl rfl ct (Ent.mono_pure _) ?_
  refine DW.nil (DW.finP [4, 5] rfl fun vs w4 hb4 hs => KW.then_ ?_)
  obtain ⟨v4, v5, rfl, h4, h5⟩ := Sats.two hs
  refine CW.ret ?_
  refine ret2 Try.results23 rfl rfl (⟨v4, by rw [show v5 = _ from h5], h4, b3.step hb4⟩)

set_option maxRecDepth 20000 in
theorem reopen_c {F : Nat → Prop} {v : Value} {l : List Box} {w : World} (box : Int) (hF : ∀ k, F k → k < w.heap.size) (hi1 : I64 box) (hl : SL boxT F w v l) :
    Gives Try.prog 25 #[v, .int .i64 box] w (ResB w (reopenS l box)) := by
  obtain ⟨A, cap, rfl, h1, h2, h3⟩ := id hl
  refine gives_of (vs := [.slice A l.length cap, .int .i64 box]) [(0, none, _), (1, none, _)] Try.func25 rfl Try.ntmps25 rfl rfl ?_
  refine CW.seq (CW.region ?_)
  refine TW.box rfl rfl rfl rfl ?_
  rintro g3 w1 f1
  refine TW.box rfl rfl rfl rfl ?_
  rintro g4 w2 f2
  refine TW.assign rfl rfl rfl ct ?_
  refine TW.assign rfl rfl rfl ct ?_
  refine TW.nil (KW.pick [0, 1, 2, 3, 4, 5] [(0, _, _), (1, _, _), (2, _, _), (3, _, _), (4, _, _), (5, _, _)] rfl (KW.then_ ?_))
  refine CW.seq (CW.draw mixed (by kernel_rfl) ?_)
  have b3 := f1.below.step f2.below
  have B3 := f1.blk.next f2.below
  have B4 := f2.blk
  have hl3 := hl.below b3
  obtain ⟨fb, c3, l', hbs⟩ : ∃ (fb c3 : Bool) (l' : List Box), (Valid l ∧ ∀ i ∈ [box], 0 ≤ i ∧ i < l.length) → ∃ (i : Nat) (b : Box), box = i ∧ l[i]? = some b ∧ fb = (decide (b.kind = 0) || locked l i) ∧ c3 = (!b.closed) ∧ l' = l.set i { b with closed := false } := by
    by_cases hh : Valid l ∧ ∀ i ∈ [box], 0 ≤ i ∧ i < l.length
    · have hx1 := hh.2 box (by simp)
      obtain ⟨i, rfl⟩ : ∃ i : Nat, box = i := ⟨box.toNat, by omega⟩
      exact ⟨_, _, _, fun _ => ⟨i, l[i]'(by omega), rfl, List.getElem?_eq_getElem (by omega), rfl, rfl, rfl⟩⟩
    · exact ⟨false, false, l, fun h => absurd h hh⟩
  refine DW.load rfl rfl one22 rfl ct (fun _ => B3.cell 0) ?_
  refine DW.makeFunc rfl rfl (DArgs.cons rfl ct DArgs.nil) ?_
  refine DW.load rfl rfl one22 rfl ct (fun _ => B3.cell 0) ?_
  refine DW.load rfl rfl one3 rfl ct (fun _ => B4.cell 0) ?_
  refine DW.buildSlice 3 _ rfl rfl rfl eo25 (DArgs.cons rfl ct DArgs.nil) rfl rfl rfl rfl rfl ?_
  refine DW.callP (.pr (GivenAt (.slice A l.length cap) [box])) (GivenAt.mono _ _) rfl rfl en39 rfl ct (PArgs.cons rfl ct (PArgs.cons rfl ct PArgs.nil)) (fun _ w' hb' vs hs => ?_) ?_
  · obtain ⟨_, v', rfl, rfl, hv'⟩ := Sats.two hs
    obtain ⟨g, rfl, _⟩ := id hv'
    exact (given_c rfl rfl).mono fun u w'' ⟨hb'', ga, gi, h1, h2, h3⟩ => ⟨hb'', ga, gi, _, h1, h2, h3, Lies.mono _ _ _ _ _ _ hb'' hv'⟩
  refine DW.load rfl rfl one22 rfl ct (fun _ => B3.cell 0) ?_
  refine DW.load rfl rfl one3 rfl ct (fun _ => B4.cell 0) ?_
  refine DW.callP (.pr (FixedAt (.slice A l.length cap) box)) (FixedAt.mono _ _) rfl rfl en55 rfl ct (PArgs.cons rfl ct (PArgs.cons rfl ct PArgs.nil)) (fun _ w' hb' vs hs => ?_) ?_
  · obtain ⟨_, _, rfl, rfl, rfl⟩ := Sats.two hs
    exact (fixed_c rfl rfl).mono fun u w'' ⟨hb'', ga, gi, h1, h2, h3⟩ => ⟨hb'', ga, gi, h1, h2, h3⟩
  refine DW.makeFunc rfl rfl (DArgs.cons rfl ct (DArgs.cons rfl ct DArgs.nil)) ?_
  refine DW.build [0, 1] _ (ruleCells ⟨58, [ptr g3, ptr g4], 3, c3⟩) rfl rfl rfl rfl (DArgs.cons rfl ct (DArgs.cons rfl ct DArgs.nil)) rfl ?_
  refine DW.buildSliceP 53 _ (RulesAt (fixΦ (.slice A l.length cap) l box fb [⟨58, [ptr g3, ptr g4], 3, c3⟩])) (fixΦ.mono _ _ _ _ _) rfl rfl rfl eo62 (PArgs.cons rfl ct (PArgs.cons rfl ct (PArgs.cons rfl ct PArgs.nil))) rfl rfl rfl (fun vs w' hs => ?_) ?_
  · obtain ⟨u, u2, _, rfl, hu, hu2, rfl⟩ := Sats.three hs
    obtain ⟨ga, gi, rfl, hg⟩ := GivenAt.blks hu
    obtain ⟨gc, gd, rfl, hB1, hB2⟩ := hu2
    exact ⟨fun v hv => by simp at hv; rcases hv with rfl | rfl | rfl <;> rfl, fun g w'' hf => ⟨⟨65, [ptr ga, ptr gi], 1, !dec (Valid l ∧ ∀ i ∈ [box], 0 ≤ i ∧ i < l.length)⟩ :: ⟨66, [ptr gc, ptr gd], 150, fb⟩ :: [⟨58, [ptr g3, ptr g4], 3, c3⟩], g, rfl, hf.blk, ga, gi, gc, gd, rfl, GivenAt.mono _ _ _ _ _ hf.below hg, hB1.next hf.below, hB2.next hf.below⟩⟩
  refine DW.callP (.pr (ResE w.heap.size (reopenS l box))) (ResE.mono _ _) rfl rfl en38 rfl ct (PArgs.cons rfl ct (PArgs.cons rfl ct (PArgs.cons rfl ct PArgs.nil))) (fun _ w' hb' vs hs => ?_) ?_
  · obtain ⟨_, _, u, rfl, rfl, rfl, hu⟩ := Sats.three hs
    obtain ⟨rs, g, rfl, hB, ga, gi, gc, gd, hrs, hg, hB1, hB2⟩ := hu
    have hlw := hl3.below hb'
    have hFw : ∀ k, F k → k < w'.heap.size := fun k hk => by have := hF k hk; have := b3.size; have := hb'.size; omega
    subst hrs
    have hres : ruled (⟨65, [ptr ga, ptr gi], 1, !dec (Valid l ∧ ∀ i ∈ [box], 0 ≤ i ∧ i < l.length)⟩ :: ⟨66, [ptr gc, ptr gd], 150, fb⟩ :: [⟨58, [ptr g3, ptr g4], 3, c3⟩]) l' = reopenS l box := by
      by_cases hh : Valid l ∧ ∀ i ∈ [box], 0 ≤ i ∧ i < l.length
      · obtain ⟨ib, b, rfl, hbi, rfl, rfl, rfl⟩ := hbs hh
        have hok := hh.1.each _ _ hbi
        have hb1 : BHas l (ib : Int) := ⟨hh.1, hh.2 _ (by simp)⟩
        unfold ruled reopenS
        rw [dec_pos hh, if_neg (by simp [hb1])]
        simp only [Int.toNat_natCast, hbi]
        by_cases q1 : b.kind = 0
        · simp [q1]
        · cases q5 : locked l ib <;> cases q6 : b.closed <;> simp [q1, q5, q6]
      · rw [ruled_at (k := 0) rfl (by show (!dec _) = true; rw [dec_neg hh]; rfl) (fun j r' hj => by omega)]
        unfold reopenS
        rw [if_pos]
        intro h
        exact hh ⟨h.1, fun i hi => by simp at hi; subst hi; exact h.2⟩
    refine (change_c (l' := l') _ 57 [ptr g4] hlw hB (by simp) ?_ ?_).mono fun u w'' ⟨v', h1, h2, h3⟩ => ⟨h3, v', ?_, ?_⟩
    · intro i r hr hall
      rcases i with _ | i
      · obtain rfl := Option.some.inj hr
        exact ⟨en65, hg.thunk hlw (by intro x hx; simp at hx; subst hx; assumption) (by simp)⟩
      · have hh := dec_iff.1 (by simpa using hall 0 _ (by omega) rfl)
        have hbs' := hbs (by simpa using hh)
        obtain ⟨ib, b, rfl, hbi, rfl, rfl, rfl⟩ := hbs'
        have hlt := (List.getElem?_eq_some_iff.1 hbi).1
        rcases i with _ | _ | i
        case succ.succ => simp at hr
        all_goals obtain rfl := Option.some.inj hr
        · exact ⟨en66, fun w2 hb2 => fixed1_c (hlw.below hb2) (hB1.next hb2) ib b hbi (hB2.next hb2) (fun k hk => Nat.lt_of_lt_of_le (hFw k hk) hb2.size) hh.1⟩
        · exact ⟨en58, fun w2 hb2 => reopen2_c (hlw.below hb2) ((B3.next hb').next hb2) ib b hbi ((B4.next hb').next hb2)⟩
    · intro hall
      have hh := dec_iff.1 (by simpa using hall _ List.mem_cons_self)
      obtain ⟨ib, b, rfl, hbi, rfl, rfl, rfl⟩ := hbs (by simpa using hh)
      have hR := sl_boxR hl
      refine ⟨hh.1.few, by simp, ?_, en57, fun w2 v2 hb2 hown hfr => (reopen1_c ib b hbi hh.1.few hown ((B4.next hb').next hb2)).mono fun _ w3 ⟨hg, ho⟩ => ⟨grown_below hg hb2 hfr, ho⟩⟩
      intro x hx
      rcases List.mem_or_eq_of_mem_set hx with hx | rfl
      · exact hR x hx
      · have := hR b (List.mem_of_getElem? hbi)
        exact ⟨this.1, this.2.1, this.2.2.1, this.2.2.2⟩
    · rw [h1, hres]
    · rw [← hres]
      exact h2.wider fun k hk => by have := b3.size; have := hb'.size; omega
  refine DW.extractP (fun u w' => SL boxT (fun k => w.heap.size ≤ k) w' u (reopenS l box).1) rfl rfl rfl ct (SLE.mono _ _) (fun u w' ⟨v', h1, h2⟩ => ⟨_, v', h1, rfl, h2⟩) ?_
  refine DW.extractP (fun u w' => u = .int .i64 (reopenS l box).2) rfl rfl rfl ct (Ent.mono_pure _) (fun u w' ⟨v', h1, h2⟩ => ⟨_, _, h1, rfl, rfl⟩) ?_
  refine DW.assignP rfl rfl rfl ct (SLE.mono _ _) ?_
  refine DW.assignP rfl rfl rfl ct (Ent.mono_pure _) ?_
  refine DW.nil (DW.finP [4, 5] rfl fun vs w4 hb4 hs => KW.then_ ?_)
  obtain ⟨v4, v5, rfl, h4, h5⟩ := Sats.two hs
  refine CW.ret ?_
  refine ret2 Try.results25 rfl rfl (⟨v4, by rw [show v5 = _ from h5], h4, b3.step hb4⟩)
end Go.Proofs.Ytegmhdabedgloaa
