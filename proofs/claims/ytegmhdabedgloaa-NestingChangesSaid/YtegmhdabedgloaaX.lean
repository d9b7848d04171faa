import Derived.Test.YtegmhdabedgloaaV
import Derived.Test.YtegmhdabedgloaaEx
namespace Go.Proofs.Ytegmhdabedgloaa
open Go.PF Go.RowKit

theorem addr_block (a : Addr) (n : Nat) : (a.add n).block = a.block := by unfold Addr.add; split <;> rfl
/-- boxes that lie in the world -/
abbrev SB (w : World) (v : Value) (l : List Box) : Prop := SL boxT (fun k => k < w.heap.size) w v l
theorem sb_of {F : Nat → Prop} {w : World} {v : Value} {l : List Box} (h : SL boxT F w v l) : SB w v l := by
  obtain ⟨A, cap, rfl, h1, h2, h3⟩ := id h
  refine ⟨A, cap, rfl, h1, h2, fun i x hx => ?_⟩
  obtain ⟨ad, cs, ha, hF, hc, hr⟩ := h3 i x hx
  refine ⟨ad, cs, ha, ?_, hc, hr⟩
  have h0 := hc 0 (.string x.label) (by rw [hr.1]; rfl)
  have := block_lt_of_cell h0
  rwa [addr_block, addr_block] at this
theorem sb_step {w w' : World} {v : Value} {l : List Box} (h : SB w v l) (hb : Below w.heap.size w w') : SB w' v l := sb_of (h.below hb)

def ResS (w : World) (r : List Box × Int) (u : Value) (w' : World) : Prop := ∃ v, u = .tuple #[v, .int .i64 r.2] ∧ SB w' v r.1 ∧ Below w.heap.size w w'
theorem res_of {w : World} {r r' : List Box × Int} (hr : r = r') (u : Value) (w' : World) : ResB w r u w' → ResS w r' u w' := by
  subst hr
  rintro ⟨v, h1, h2, h3⟩
  exact ⟨v, h1, sb_of h2, h3⟩

theorem i64_small {x : Int} (h0 : -1000000 ≤ x) (h1 : x ≤ 1000000) : I64 x := ⟨by show (-9223372036854775808 : Int) ≤ x; omega, by show x ≤ 9223372036854775807; omega⟩

theorem example_c {w : World} : Gives Try.prog 33 #[] w fun u w' => Below w.heap.size w w' ∧ SB w' u ex0 := by
  refine gives_of (vs := []) [] Try.func33 rfl Try.ntmps33 rfl rfl ?_
  refine CW.seq (CW.region ?_)
  refine TW.assign rfl rfl rfl ct ?_
  refine TW.nil (KW.pick [0] [(0, _, _)] rfl (KW.then_ ?_))
  refine CW.seq (CW.region ?_)
  refine TW.build [0, 2] _ (boxCells (exBox 105 0 (-1) 0 false)) rfl rfl rfl (Args.cons rfl ct (Args.cons rfl ct Args.nil)) (by kernel_rfl) ?_
  refine TW.build [0, 1, 2] _ (boxCells (exBox 98 1 (-1) 0 false)) rfl rfl rfl (Args.cons rfl ct (Args.cons rfl ct (Args.cons rfl ct Args.nil))) (by kernel_rfl) ?_
  refine TW.build [0, 1, 2] _ (boxCells (exBox 118 3 (-1) 0 false)) rfl rfl rfl (Args.cons rfl ct (Args.cons rfl ct (Args.cons rfl ct Args.nil))) (by kernel_rfl) ?_
  refine TW.buildSlice 28 (cs := ex0.flatMap boxCells) _ rfl rfl rfl eo22 (Args.cons rfl ct (Args.cons rfl ct (Args.cons rfl ct Args.nil))) rfl rfl rfl rfl rfl ?_
  rintro g w1 f1
  refine TW.assign rfl rfl rfl ct ?_
  refine TW.nil (KW.pick [0] [(0, _, _)] rfl (KW.then_ ?_))
  refine CW.ret ?_
  refine ret1 Try.results33 rfl (⟨f1.below, sb_of (own_boxes (F := fun _ => True) (OwnS.of_blk (sz := 5) (n := 3) f1.blk rfl (by omega)) ?_ (fun _ _ => trivial) (by decide))⟩)
  intro b hb
  simp [ex0] at hb
  rcases hb with rfl | rfl | rfl <;> exact ⟨by decide, i64_small (by decide) (by decide), i64_small (by decide) (by decide), i64_small (by decide) (by decide)⟩

theorem fine_c {w : World} {v : Value} {l : List Box} (hl : SB w v l) : Gives Try.prog 11 #[v] w fun u w' => Below w.heap.size w w' ∧ u = .bool (dec (Few l ∧ 0 < l.length ∧ Valid l)) := by
  obtain ⟨A, cap, rfl, h1, h2, h3⟩ := id hl
  refine gives_of (vs := [.slice A l.length cap]) [(0, none, _)] Try.func11 rfl Try.ntmps11 rfl rfl ?_
  refine CW.seq (CW.region ?_)
  refine TW.assign rfl rfl rfl ct ?_
  refine TW.nil (KW.pick [0, 2] [(0, _, _), (2, _, _)] rfl (KW.then_ ?_))
  refine CW.seq (CW.region ?_)
  refine TW.move rfl rfl rfl ct ?_
  refine TW.callF (cap := []) rfl rfl en17 rfl ct (Args.cons rfl ct Args.nil) (fun _ => rfew_c hl) ?_
  rintro w1 hb1
  refine TW.move rfl rfl rfl ct ?_
  refine TW.move rfl rfl rfl ct ?_
  refine TW.lenSlice rfl rfl Try.underlying22 rfl id ?_
  refine TW.gtr rfl rfl rfl id rfl ct ?_
  refine TW.pickAnd rfl rfl rfl ct rfl pAnd0 ?_
  refine TW.move rfl rfl rfl ct ?_
  refine TW.move rfl rfl rfl ct ?_
  refine TW.callF (cap := []) rfl rfl en29 rfl ct (Args.cons rfl id Args.nil) (fun _ => rvalid_c (hl.below hb1)) ?_
  rintro w2 hb2
  refine TW.pickAnd rfl rfl rfl ct rfl pAnd0 ?_
  refine TW.assign rfl rfl rfl ct ?_
  refine TW.nil (KW.pick [0, 2] [(0, _, _), (2, _, _)] rfl (KW.then_ ?_))
  refine CW.ret ?_
  refine ret1 Try.results11 rfl (⟨hb1.step hb2, ?_⟩)
  by_cases q1 : Few l <;> by_cases q2 : 0 < l.length <;> by_cases q3 : Valid l <;> simp [dec_pos, dec_neg, q1, q2, q3]
end Go.Proofs.Ytegmhdabedgloaa
