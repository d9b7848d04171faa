import Derived.Test.YtegmhdabedgloaaO
namespace Go.Proofs.Ytegmhdabedgloaa
open Go.PF Go.RowKit

/-- the rule 'given', as made -/
def GivenAt (v : Value) (is : List Int) (u : Value) (w : World) : Prop := ∃ ga gi v', u = .agg (ruleCells ⟨65, [ptr ga, ptr gi], 1, false⟩).toArray ∧ Blk w ga 22 [v] ∧ Blk w gi 25 [v'] ∧ Lies 3 is.length (is.map (Value.int .i64)) v' w
theorem GivenAt.mono (v : Value) (is : List Int) : Ent.mono (.pr (GivenAt v is)) := fun _ _ _ hb ⟨ga, gi, v', h1, h2, h3, h4⟩ => ⟨ga, gi, v', h1, h2.next hb, h3.next hb, Lies.mono _ _ _ _ _ _ hb h4⟩
theorem GivenAt.blks {v : Value} {is : List Int} {u : Value} {w : World} : GivenAt v is u w → ∃ ga gi, u = .agg (ruleCells ⟨65, [ptr ga, ptr gi], 1, false⟩).toArray ∧ GivenAt v is u w := fun h => by
  obtain ⟨ga, gi, v', h1, h2⟩ := id h
  exact ⟨ga, gi, h1, h⟩
theorem lies_ints {w : World} {v : Value} {is : List Int} (h : Lies 3 is.length (is.map (Value.int .i64)) v w) (hi : ∀ x ∈ is, I64 x) (hn : is.length ≤ 200) : SL intT (fun _ => True) w v is := by
  obtain ⟨g, rfl, hB⟩ := h
  exact OwnS.toInts (OwnS.of_blk (sz := 1) hB (by simp) (by omega)) hi (fun _ _ => trivial) (by omega)
theorem GivenAt.thunk {F : Nat → Prop} {v : Value} {l : List Box} {is : List Int} {ga gi : Nat} {w : World} (h : GivenAt v is (.agg (ruleCells ⟨65, [ptr ga, ptr gi], 1, false⟩).toArray) w) (hl : SL boxT F w v l) (hi : ∀ x ∈ is, I64 x) (hn : is.length ≤ 200) :
    Thunk Try.prog w 65 [ptr ga, ptr gi] (!dec (Valid l ∧ ∀ i ∈ is, 0 ≤ i ∧ i < l.length)) := by
  obtain ⟨ga', gi', v', h1, h2, h3, h4⟩ := h
  simp [ruleCells] at h1
  obtain ⟨rfl, rfl⟩ := h1
  intro w' hb
  exact given1_c (hl.below hb) (lies_ints (Lies.mono _ _ _ _ _ _ hb h4) hi hn) (h2.next hb) (h3.next hb)

def ResE (n0 : Nat) (r : List Box × Int) (u : Value) (w' : World) : Prop := ∃ v, u = .tuple #[v, .int .i64 r.2] ∧ SL boxT (fun k => n0 ≤ k) w' v r.1
theorem ResE.mono (n0 : Nat) (r : List Box × Int) : Ent.mono (.pr (ResE n0 r)) := fun _ _ _ hb ⟨v, h1, h2⟩ => ⟨v, h1, h2.below hb⟩
theorem SLE.mono (n0 : Nat) (l : List Box) : Ent.mono (.pr fun u w => SL boxT (fun k => n0 ≤ k) w u l) := fun _ _ _ hb h => h.below hb

/-- the rules' slice -/
def RulesAt (Φ : List Rule → World → Prop) (u : Value) (w : World) : Prop := ∃ rs g, u = .slice (some ⟨g, 0, none⟩) rs.length rs.length ∧ Blk w g 53 (rs.flatMap ruleCells) ∧ Φ rs w
theorem RulesAt.mono {Φ : List Rule → World → Prop} (h0 : ∀ rs w w', Below w.heap.size w w' → Φ rs w → Φ rs w') : Ent.mono (.pr (RulesAt Φ)) := fun _ _ _ hb ⟨rs, g, h1, h2, h3⟩ => ⟨rs, g, h1, h2.next hb, h0 _ _ _ hb h3⟩

def putΦ (v : Value) (l : List Box) (is : List Int) (rest : List Rule) (rs : List Rule) (w : World) : Prop := ∃ ga gi, rs = ⟨65, [ptr ga, ptr gi], 1, !dec (Valid l ∧ ∀ i ∈ is, 0 ≤ i ∧ i < l.length)⟩ :: rest ∧ GivenAt v is (.agg (ruleCells ⟨65, [ptr ga, ptr gi], 1, false⟩).toArray) w
theorem putΦ.mono (v : Value) (l : List Box) (is : List Int) (rest : List Rule) : Ent.mono (.pr (RulesAt (putΦ v l is rest))) := RulesAt.mono fun rs w w' hb ⟨ga, gi, h1, h2⟩ => ⟨ga, gi, h1, GivenAt.mono _ _ _ _ _ hb h2⟩

set_option maxRecDepth 20000 in
theorem put_c {F : Nat → Prop} {v : Value} {l : List Box} {w : World} (box into : Int) (hF : ∀ k, F k → k < w.heap.size) (hi1 : I64 box) (hi2 : I64 into) (hl : SL boxT F w v l) :
    Gives Try.prog 18 #[v, .int .i64 box, .int .i64 into] w (ResB w (putS l box into)) := by
  obtain ⟨A, cap, rfl, h1, h2, h3⟩ := id hl
  refine gives_of (vs := [.slice A l.length cap, .int .i64 box, .int .i64 into]) [(0, none, _), (1, none, _), (2, none, _)] Try.func18 rfl Try.ntmps18 rfl rfl ?_
  refine CW.seq (CW.region ?_)
  refine TW.box rfl rfl rfl rfl ?_
  rintro g3 w1 f1
  refine TW.box rfl rfl rfl rfl ?_
  rintro g4 w2 f2
  refine TW.box rfl rfl rfl rfl ?_
  rintro g5 w3 f3
  refine TW.assign rfl rfl rfl ct ?_
  refine TW.assign rfl rfl rfl ct ?_
  refine TW.nil (KW.pick [0, 1, 2, 3, 4, 5, 6, 7] [(0, _, _), (1, _, _), (2, _, _), (3, _, _), (4, _, _), (5, _, _), (6, _, _), (7, _, _)] rfl (KW.then_ ?_))
  refine CW.seq (CW.draw mixed (by kernel_rfl) ?_)
  have b3 := (f1.below.step f2.below).step f3.below
  have B3 := (f1.blk.next f2.below).next f3.below
  have B4 := f2.blk.next f3.below
  have B5 := f3.blk
  have hl3 := hl.below b3
  obtain ⟨b2, c3, c4, c5, l', hbs⟩ : ∃ (b2 c3 c4 c5 : Bool) (l' : List Box), (Valid l ∧ ∀ i ∈ [box, into], 0 ≤ i ∧ i < l.length) → ∃ (i j : Nat) (b c : Box), box = i ∧ into = j ∧ l[i]? = some b ∧ l[j]? = some c ∧ b2 = decide (b.parent ≠ -1) ∧ c3 = decide (c.kind ≤ b.kind) ∧ c4 = decide (c.place ≠ b.place) ∧ c5 = (c.closed || locked l j) ∧ l' = l.set i { b with parent := into } := by
    by_cases hh : Valid l ∧ ∀ i ∈ [box, into], 0 ≤ i ∧ i < l.length
    · have hx1 := hh.2 box (by simp)
      have hx2 := hh.2 into (by simp)
      obtain ⟨i, rfl⟩ : ∃ i : Nat, box = i := ⟨box.toNat, by omega⟩
      obtain ⟨j, rfl⟩ : ∃ j : Nat, into = j := ⟨into.toNat, by omega⟩
      exact ⟨_, _, _, _, _, fun _ => ⟨i, j, l[i]'(by omega), l[j]'(by omega), rfl, rfl, List.getElem?_eq_getElem (by omega), List.getElem?_eq_getElem (by omega), rfl, rfl, rfl, rfl, rfl⟩⟩
    · exact ⟨false, false, false, false, l, fun h => absurd h hh⟩
  refine DW.load rfl rfl one22 rfl ct (fun _ => B3.cell 0) ?_
  refine DW.makeFunc rfl rfl (DArgs.cons rfl ct (DArgs.cons rfl ct DArgs.nil)) ?_
  refine DW.load rfl rfl one22 rfl ct (fun _ => B3.cell 0) ?_
  refine DW.load rfl rfl one3 rfl ct (fun _ => B4.cell 0) ?_
  refine DW.load rfl rfl one3 rfl ct (fun _ => B5.cell 0) ?_
  refine DW.buildSlice 3 _ rfl rfl rfl eo25 (DArgs.cons rfl ct (DArgs.cons rfl ct DArgs.nil)) rfl rfl rfl rfl rfl ?_
  refine DW.callP (.pr (GivenAt (.slice A l.length cap) [box, into])) (GivenAt.mono _ _) rfl rfl en39 rfl ct (PArgs.cons rfl ct (PArgs.cons rfl ct PArgs.nil)) (fun _ w' hb' vs hs => ?_) ?_
  · obtain ⟨_, v', rfl, rfl, hv'⟩ := Sats.two hs
    obtain ⟨g, rfl, _⟩ := id hv'
    exact (given_c rfl rfl).mono fun u w'' ⟨hb'', ga, gi, h1, h2, h3⟩ => ⟨hb'', ga, gi, _, h1, h2, h3, Lies.mono _ _ _ _ _ _ hb'' hv'⟩
  refine DW.makeFunc rfl rfl (DArgs.cons rfl ct (DArgs.cons rfl ct DArgs.nil)) ?_
  refine DW.build [0, 1] _ (ruleCells ⟨43, [ptr g3, ptr g4], 4, b2⟩) rfl rfl rfl rfl (DArgs.cons rfl ct (DArgs.cons rfl ct DArgs.nil)) rfl ?_
  refine DW.makeFunc rfl rfl (DArgs.cons rfl ct (DArgs.cons rfl ct (DArgs.cons rfl ct DArgs.nil))) ?_
  refine DW.build [0, 1] _ (ruleCells ⟨44, [ptr g3, ptr g5, ptr g4], 150, c3⟩) rfl rfl rfl rfl (DArgs.cons rfl ct (DArgs.cons rfl ct DArgs.nil)) rfl ?_
  refine DW.makeFunc rfl rfl (DArgs.cons rfl ct (DArgs.cons rfl ct (DArgs.cons rfl ct DArgs.nil))) ?_
  refine DW.build [0, 1] _ (ruleCells ⟨45, [ptr g3, ptr g5, ptr g4], 150, c4⟩) rfl rfl rfl rfl (DArgs.cons rfl ct (DArgs.cons rfl ct DArgs.nil)) rfl ?_
  refine DW.makeFunc rfl rfl (DArgs.cons rfl ct (DArgs.cons rfl ct DArgs.nil)) ?_
  refine DW.build [0, 1] _ (ruleCells ⟨46, [ptr g3, ptr g5], 150, c5⟩) rfl rfl rfl rfl (DArgs.cons rfl ct (DArgs.cons rfl ct DArgs.nil)) rfl ?_
  refine DW.buildSliceP 53 _ (RulesAt (putΦ (.slice A l.length cap) l [box, into] [⟨43, [ptr g3, ptr g4], 4, b2⟩, ⟨44, [ptr g3, ptr g5, ptr g4], 150, c3⟩, ⟨45, [ptr g3, ptr g5, ptr g4], 150, c4⟩, ⟨46, [ptr g3, ptr g5], 150, c5⟩])) (putΦ.mono _ _ _ _) rfl rfl rfl eo62
    (PArgs.cons rfl ct (PArgs.cons rfl ct (PArgs.cons rfl ct (PArgs.cons rfl ct (PArgs.cons rfl ct PArgs.nil))))) rfl rfl rfl (fun vs w' hs => ?_) ?_
  · obtain ⟨u, _, _, _, _, rfl, hu, rfl, rfl, rfl, rfl⟩ := Sats.five hs
    obtain ⟨ga, gi, rfl, hg⟩ := GivenAt.blks hu
    exact ⟨fun v hv => by simp at hv; rcases hv with rfl | rfl | rfl | rfl | rfl <;> rfl, fun g w'' hf => ⟨⟨65, [ptr ga, ptr gi], 1, !dec (Valid l ∧ ∀ i ∈ [box, into], 0 ≤ i ∧ i < l.length)⟩ :: [⟨43, [ptr g3, ptr g4], 4, b2⟩, ⟨44, [ptr g3, ptr g5, ptr g4], 150, c3⟩, ⟨45, [ptr g3, ptr g5, ptr g4], 150, c4⟩, ⟨46, [ptr g3, ptr g5], 150, c5⟩], g, rfl, hf.blk, ga, gi, rfl, GivenAt.mono _ _ _ _ _ hf.below hg⟩⟩
  refine DW.callP (.pr (ResE w.heap.size (putS l box into))) (ResE.mono _ _) rfl rfl en38 rfl ct (PArgs.cons rfl ct (PArgs.cons rfl ct (PArgs.cons rfl ct PArgs.nil))) (fun _ w' hb' vs hs => ?_) ?_
  · obtain ⟨_, _, u, rfl, rfl, rfl, hu⟩ := Sats.three hs
    obtain ⟨rs, g, rfl, hB, ga, gi, hrs, hg⟩ := hu
    have hlw := hl3.below hb'
    have hFw : ∀ k, F k → k < w'.heap.size := fun k hk => by have := hF k hk; have := b3.size; have := hb'.size; omega
    subst hrs
    have hres : ruled (⟨65, [ptr ga, ptr gi], 1, !dec (Valid l ∧ ∀ i ∈ [box, into], 0 ≤ i ∧ i < l.length)⟩ :: [⟨43, [ptr g3, ptr g4], 4, b2⟩, ⟨44, [ptr g3, ptr g5, ptr g4], 150, c3⟩, ⟨45, [ptr g3, ptr g5, ptr g4], 150, c4⟩, ⟨46, [ptr g3, ptr g5], 150, c5⟩]) l' = putS l box into := by
      by_cases hh : Valid l ∧ ∀ i ∈ [box, into], 0 ≤ i ∧ i < l.length
      · obtain ⟨ib, jb, b, c, rfl, rfl, hbi, hbj, rfl, rfl, rfl, rfl, rfl⟩ := hbs hh
        have hok := hh.1.each _ _ hbi
        have hb1 : BHas l (ib : Int) ∧ BHas l (jb : Int) := ⟨⟨hh.1, hh.2 _ (by simp)⟩, ⟨hh.1, hh.2 _ (by simp)⟩⟩
        have hpar : (0 ≤ b.parent) ↔ b.parent ≠ -1 := by have := hok.q1; omega
        unfold ruled putS
        rw [dec_pos hh, if_neg (by simp [hb1])]
        simp only [Int.toNat_natCast, hbi, hbj, hpar]
        by_cases q1 : b.parent = -1
        · by_cases q2 : c.kind ≤ b.kind
          · simp [q1, q2]
          · by_cases q3 : c.place = b.place
            · cases q4 : c.closed <;> cases q5 : locked l jb <;> simp [q1, q2, q3, q4, q5]
            · simp [q1, q2, q3]
        · simp [q1]
      · rw [ruled_at (k := 0) rfl (by show (!dec _) = true; rw [dec_neg hh]; rfl) (fun j r' hj => by omega)]
        unfold putS
        rw [if_pos]
        intro h
        exact hh ⟨h.1.1, fun i hi => by simp at hi; rcases hi with rfl | rfl; exact h.1.2; exact h.2.2⟩
    refine (change_c (l' := l') _ 42 [ptr g5, ptr g4] hlw hB (by simp) ?_ ?_).mono fun u w'' ⟨v', h1, h2, h3⟩ => ⟨h3, v', ?_, ?_⟩
    · intro i r hr hall
      rcases i with _ | i
      · obtain rfl := Option.some.inj hr
        exact ⟨en65, hg.thunk hlw (by intro x hx; simp at hx; rcases hx with rfl | rfl <;> assumption) (by simp)⟩
      · have hh := dec_iff.1 (by simpa using hall 0 _ (by omega) rfl)
        have hbs' := hbs (by simpa using hh)
        obtain ⟨ib, jb, b, c, rfl, rfl, hbi, hbj, rfl, rfl, rfl, rfl, rfl⟩ := hbs'
        have hlt := (List.getElem?_eq_some_iff.1 hbi).1
        rcases i with _ | _ | _ | _ | i
        case succ.succ.succ.succ => simp at hr
        all_goals obtain rfl := Option.some.inj hr
        · exact ⟨en43, fun w2 hb2 => put2_c (hlw.below hb2) ((B3.next hb').next hb2) ib b hbi ((B4.next hb').next hb2)⟩
        · exact ⟨en44, fun w2 hb2 => put3_c (hlw.below hb2) ((B3.next hb').next hb2) ib b hbi ((B4.next hb').next hb2) jb c hbj ((B5.next hb').next hb2)⟩
        · exact ⟨en45, fun w2 hb2 => put4_c (hlw.below hb2) ((B3.next hb').next hb2) ib b hbi ((B4.next hb').next hb2) jb c hbj ((B5.next hb').next hb2)⟩
        · exact ⟨en46, fun w2 hb2 => put5_c (hlw.below hb2) ((B3.next hb').next hb2) jb c hbj ((B5.next hb').next hb2) (fun k hk => Nat.lt_of_lt_of_le (hFw k hk) hb2.size) hh.1⟩
    · intro hall
      have hh := dec_iff.1 (by simpa using hall _ List.mem_cons_self)
      obtain ⟨ib, jb, b, c, rfl, rfl, hbi, hbj, rfl, rfl, rfl, rfl, rfl⟩ := hbs (by simpa using hh)
      have hR := sl_boxR hl
      refine ⟨hh.1.few, by simp, ?_, en42, fun w2 v2 hb2 hown hfr => (put1_c ib b hbi hh.1.few hown ((B4.next hb').next hb2) jb ((B5.next hb').next hb2)).mono fun _ w3 ⟨hg, ho⟩ => ⟨grown_below hg hb2 hfr, ho⟩⟩
      intro x hx
      rcases List.mem_or_eq_of_mem_set hx with hx | rfl
      · exact hR x hx
      · have := hR b (List.mem_of_getElem? hbi)
        exact ⟨this.1, this.2.1, hi2, this.2.2.2⟩
    · rw [h1, hres]
    · rw [← hres]
      exact h2.wider fun k hk => by have := b3.size; have := hb'.size; omega
  refine DW.extractP (fun u w' => SL boxT (fun k => w.heap.size ≤ k) w' u (putS l box into).1) rfl rfl rfl ct (SLE.mono _ _) (fun u w' ⟨v', h1, h2⟩ => ⟨_, v', h1, rfl, h2⟩) ?_
  refine DW.extractP (fun u w' => u = .int .i64 (putS l box into).2) rfl rfl rfl ct (Ent.mono_pure _) (fun u w' ⟨v', h1, h2⟩ => ⟨_, _, h1, rfl, rfl⟩) ?_
  refine DW.assignP rfl rfl rfl ct (SLE.mono _ _) ?_
  refine DW.assignP rfl rfl rfl ct (Ent.mono_pure _) ?_
  refine DW.nil (DW.finP [6, 7] rfl fun vs w4 hb4 hs => KW.then_ ?_)
  obtain ⟨v6, v7, rfl, h6, h7⟩ := Sats.two hs
  refine CW.ret ?_
  refine ret2 Try.results18 rfl rfl (⟨v6, by rw [show v7 = _ from h7], h6, b3.step hb4⟩)
end Go.Proofs.Ytegmhdabedgloaa
