/- Texts joined: Yg Vo Yh Yi. -/
import Derived.Test.YthjcgmjcpmodlaaDoorQI
import Derived.Test.YthjcgmjcpmodlaaDoorQD
set_option linter.unusedSimpArgs false
set_option linter.unusedVariables false

namespace Go.Proofs.YthjcgmjcpmodlaaDoor
open Go.PF Go.RowKit Go.Ord Go.Sort Go.Proofs

/-- how many events follow at most for a record, d manifests further -/
def stepF : Nat → Nat
  | 0 => 1
  | d + 1 => 1 + 30 * stepF d
theorem stepF_pos : ∀ d, 1 ≤ stepF d
  | 0 => Nat.le_refl _
  | d + 1 => by unfold stepF; omega
theorem stepF_le {d : Nat} (h : d ≤ 3) : stepF d ≤ 27931 := by
  match d, h with
  | 0, _ => decide
  | 1, _ => decide
  | 2, _ => decide
  | 3, _ => decide

theorem sl_and {F G : Nat → Prop} {w : World} {v : Value} {l : List Int} (h : SL intT F w v l) (h' : SL intT G w v l) : SL intT (fun k => F k ∧ G k) w v l := by
  obtain ⟨A, cap, hv, h1, h2, h3⟩ := h
  obtain ⟨A', cap', hv', _, _, h3'⟩ := h'
  rw [hv] at hv'
  simp only [Value.slice.injEq] at hv'
  obtain ⟨rfl, _, _⟩ := hv'
  refine ⟨A, cap, hv, h1, h2, fun i x hx => ?_⟩
  obtain ⟨ad, cs, a1, a2, a3, a4⟩ := h3 i x hx
  obtain ⟨ad', cs', b1, b2, _, _⟩ := h3' i x hx
  rw [a1] at b1
  cases b1
  exact ⟨ad, cs, a1, ⟨a2, b2⟩, a3, a4⟩

theorem EvRow.app2 {w w' : World} {ev y v' : Value} {qs qs' : List (Ev × Value)} (h : EvRow 0 w ev qs) (h' : EvRow 0 w y qs') (hne : ∀ q ∈ qs', SL intT (fun k => ev.ownBlock ≠ some k) w q.2 q.1.needs)
    (hO : OwnS w' 31 4 v' (qs.length + qs'.length) (qs.flatMap (fun q => evV q.1 q.2) ++ qs'.flatMap fun q => evV q.1 q.2)) (hg : w.grownBy w' ev.ownBlock) (hn : v'.ownBlock = ev.ownBlock ∨ v'.ownBlock = some w.heap.size) : EvRow 0 w' v' (qs ++ qs') := by
  refine ⟨by rw [List.flatMap_append, List.length_append]; exact hO, fun q hq => ?_⟩
  have up : ∀ {F : Nat → Prop}, (∀ k, F k → k < w.heap.size ∧ ev.ownBlock ≠ some k) → EvOK F w q.2 q.1 → EvOK (FsK 0 w' v') w' q.2 q.1 := fun hF a =>
    ⟨a.i1, a.i2, a.i3, (a.nd.mono (Kept.of_blocks fun k hk hlt => hg.block k hlt (fun e => (hF k hk).2 e.symm))).wider fun k hk => ⟨Nat.zero_le _, Nat.lt_of_lt_of_le (hF k hk).1 hg.size, fun e => by
      rcases hn with e2 | e2
      · exact (hF k hk).2 (by rw [← e2]; exact e)
      · rw [e2] at e; cases e; have := (hF _ hk).1; omega⟩⟩
  rcases List.mem_append.1 hq with hq | hq
  · exact up (fun k hk => ⟨hk.2.1, hk.2.2⟩) (h.2 q hq)
  · have a := h'.2 q hq
    exact up (F := fun k => FsK 0 w y k ∧ ev.ownBlock ≠ some k) (fun k hk => ⟨hk.1.2.1, hk.2⟩) ⟨a.i1, a.i2, a.i3, sl_and a.nd (hne q hq)⟩

theorem EvRow.push {w w' : World} {ev v' nv : Value} {qs : List (Ev × Value)} {e : Ev} (h : EvRow 0 w ev qs) (he : EvOK (fun k => k < w.heap.size ∧ ev.ownBlock ≠ some k) w nv e)
    (hO : OwnS w' 31 4 v' (qs.length + 1) (qs.flatMap (fun q => evV q.1 q.2) ++ evV e nv)) (hg : w.grownBy w' ev.ownBlock) (hn : v'.ownBlock = ev.ownBlock ∨ v'.ownBlock = some w.heap.size) : EvRow 0 w' v' (qs ++ [(e, nv)]) := by
  refine ⟨by rw [List.flatMap_append, List.length_append]; simpa using hO, fun q hq => ?_⟩
  have up : ∀ {F : Nat → Prop} {q : Ev × Value}, (∀ k, F k → k < w.heap.size ∧ ev.ownBlock ≠ some k) → EvOK F w q.2 q.1 → EvOK (FsK 0 w' v') w' q.2 q.1 := fun hF a =>
    ⟨a.i1, a.i2, a.i3, (a.nd.mono (Kept.of_blocks fun k hk hlt => hg.block k hlt (fun e => (hF k hk).2 e.symm))).wider fun k hk => ⟨Nat.zero_le _, Nat.lt_of_lt_of_le (hF k hk).1 hg.size, fun e => by
      rcases hn with e2 | e2
      · exact (hF k hk).2 (by rw [← e2]; exact e)
      · rw [e2] at e; cases e; have := (hF _ hk).1; omega⟩⟩
  rcases List.mem_append.1 hq with hq | hq
  · exact up (fun k hk => ⟨hk.2.1, hk.2.2⟩) (h.2 q hq)
  · rw [List.mem_singleton] at hq
    subst hq
    exact up (fun k hk => hk) he

end Go.Proofs.YthjcgmjcpmodlaaDoor

namespace Go.Proofs.YthjcgmjcpmodlaaDoor
open Go.PF Go.RowKit Go.Ord Go.Sort

set_option maxRecDepth 20000 in
theorem about_c {w : World} {v : Value} {l : List Ev} (hl : SE w v l) (hsm : l.length ≤ 1000) (hne : ∀ e ∈ l, e.needs.length ≤ 1000) :
    Gives Tryd.prog 16 #[v] w fun x w' => Below w.heap.size w w' ∧ OwnS w' 3 1 x (recsS l).length ((recsS l).map (Value.int .i64)) ∧ ∀ g, x.ownBlock = some g → w.heap.size ≤ g := by
  obtain ⟨A, cap, rfl, _⟩ := hl.form
  have hlen : ∀ k, (needsOf (l.take k)).length ≤ 1000 * k := by
    intro k
    induction k with
    | zero => simp [needsOf]
    | succ k ih =>
      rw [List.take_add_one]
      unfold needsOf at *
      rw [List.flatMap_append, List.length_append]
      cases he : l[k]? with
      | none =>
        show _ + (([] : List Ev).flatMap (·.needs)).length ≤ _
        rw [List.flatMap_nil, List.length_nil]
        omega
      | some e =>
        have := hne e (List.mem_of_getElem? he)
        show _ + (([e] : List Ev).flatMap (·.needs)).length ≤ _
        rw [List.flatMap_singleton]
        omega
  refine gives_of (vs := [.slice A l.length cap]) [(0, none, _)] Tryd.func16 rfl Tryd.ntmps16 rfl rfl ?_
  refine CW.seq (CW.region ?_)
  refine TW.assign rfl rfl rfl ct ?_
  refine TW.nil (KW.pick [0, 2] [(0, _, _), (2, _, _)] rfl (KW.then_ ?_))
  refine CW.seq (CW.region ?_)
  refine TW.assign rfl rfl rfl ct ?_
  refine TW.nil (KW.pick [0, 2, 3] [(0, _, _), (2, _, _), (3, _, _)] rfl (KW.then_ ?_))
  refine CW.seq (CW.seq (CW.region ?_))
  refine TW.move rfl rfl rfl ct ?_
  refine TW.lenSlice rfl rfl Tryd.underlying26 rfl ct ?_
  refine TW.move rfl rfl rfl ct ?_
  refine TW.nil (KW.pick [0, 2, 3, 6, 7, 8] [(0, _, _), (2, _, _), (3, _, _), (6, _, _), (7, _, _), (8, _, _)] rfl (KW.then_ ?_))
  refine CW.block ?_
  refine CW.loopS (fun x : Nat × Value => [(3, none, x.2), (6, none, .slice A l.length cap), (7, none, .int .i64 (l.length : Int)), (8, none, .int .i64 (x.1 : Int))])
    (fun x W => x.1 ≤ l.length ∧ Below w.heap.size w W ∧ OwnS W 3 1 x.2 (needsOf (l.take x.1)).length ((needsOf (l.take x.1)).map (Value.int .i64)) ∧ ∀ g, x.2.ownBlock = some g → w.heap.size ≤ g) (fun x => l.length - x.1) (0, .slice none 0 0) [3, 6, 7, 8] ⟨Nat.zero_le _, Below.refl _ _, OwnS.nil _ _ _, fun g hg => by simp [Value.ownBlock] at hg⟩ rfl ?_
  rintro ⟨k, ov⟩ W ⟨hk, hB, hO, hob⟩
  dsimp only at hk hO hob
  have hlk := hlen k
  refine CW.seq (CW.region ?_)
  refine TW.lss rfl rfl rfl ct rfl ct ?_
  refine TW.nil (KW.pick [3, 6, 7, 8, 9] [(3, _, _), (6, _, _), (7, _, _), (8, _, _), (9, _, _)] rfl (KW.then_ ?_))
  refine CW.seq ?_
  refine CW.condP rfl (fun hlt => ?_) (fun hge => ?_)
  · obtain ⟨e, he, hem⟩ := getx (l := l) (k := k) (by omega)
    have hne' := hne e hem
    have hlW := se_step hl hB
    obtain ⟨ad, rfl⟩ := hlW.addr (by omega)
    obtain ⟨nv, hcells, i1, i2, i3, hneeds⟩ := SE.get hlW he
    obtain ⟨C, ncap, rfl, _⟩ := hneeds.form
    refine CW.skip (KW.then_ (CW.seq (CW.block (CW.seq (CW.region ?_)))))
    refine TW.indexAddr rfl rfl Tryd.underlying26 sz31 rfl ct rfl ct (fun _ => by (try dsimp only); omega) ?_
    refine TW.loadS _ rfl rfl Tryd.underlying31 sz31 rfl ct (fun _ => hcells) rfl ?_
    refine TW.newVar rfl zc31 rfl sz31 rfl rfl ?_
    rintro g1 w1 f1
    refine TW.nil (KW.pick [3, 5, 6, 7, 8] [(3, _, _), (5, _, _), (6, _, _), (7, _, _), (8, _, _)] rfl (KW.then_ ?_))
    refine CW.region ?_
    refine TW.move rfl rfl rfl ct ?_
    refine TW.fieldAddr rfl rfl fo31_3 rfl ct ?_
    have hn1 := hneeds.below f1.below
    have hnews : ∀ (j : Nat) (u : Value), (e.needs.map (Value.int .i64))[j]? = some u → ∃ ad' : Addr, C = some ad' ∧ w1.cell? (ad'.add j) = some u := by
      intro j u hu
      simp only [List.getElem?_map] at hu
      obtain ⟨z, hz, rfl⟩ := Option.map_eq_some_iff.1 hu
      obtain ⟨ad', h1, h2, _⟩ := hn1.int hz
      exact ⟨ad', h1, by rw [Nat.mul_one] at h2; exact h2⟩
    refine TW.load rfl rfl one29 rfl ct (fun _ => f1.blk.fld rfl) ?_
    refine TW.append (e.needs.map (Value.int .i64)) rfl rfl go29 rfl (hO.below f1.below) rfl (by simp) hnews (ints_one _) (by omega) (by omega) ?_
    rintro ov' w2 o2 hg2 hn2
    refine TW.assign rfl rfl rfl ct ?_
    refine TW.nil (KW.pick [3, 5, 6, 7, 8] [(3, _, _), (5, _, _), (6, _, _), (7, _, _), (8, _, _)] rfl (KW.blockN (KW.then_ ?_)))
    refine CW.region ?_
    refine TW.add rfl rfl rfl ct rfl ct (fun _ => by (try dsimp only); omega) ?_
    refine TW.move rfl rfl rfl ct ?_
    refine TW.nil (KW.pick [3, 5, 6, 7, 8] [(3, _, _), (5, _, _), (6, _, _), (7, _, _), (8, _, _)] rfl ?_)
    have hB1 := hB.step f1.below
    have htk : needsOf (l.take (k + 1)) = needsOf (l.take k) ++ e.needs := by
      rw [List.take_add_one, he]
      simp [needsOf]
    refine KW.round (k + 1, ov') [3, 6, 7, 8] rfl ⟨by show k + 1 ≤ l.length; omega, hB1.grown hg2 hB1.size hob, ?_, fun g hg => ?_⟩ (by show l.length - (k + 1) < l.length - k; omega)
    · show OwnS w2 _ 1 ov' (needsOf (l.take (k + 1))).length ((needsOf (l.take (k + 1))).map (Value.int .i64))
      rw [htk]
      simpa using o2
    · rcases hn2 with h | h
      · exact hob g (by rw [← h]; exact hg)
      · rw [h] at hg; cases hg; exact hB1.size
  have hke : k = l.length := by omega
  subst hke
  rw [List.take_length] at hO hlk
  refine CW.exit (KW.thenX (KW.thenX (KW.blockX (KW.then_ (CW.seq (CW.region ?_))))))
  refine TW.move rfl rfl rfl ct ?_
  refine TW.call0 (cap := []) rfl rfl en24 rfl (Args.cons rfl ct Args.nil) (sort_c hO (by omega)) ?_
  rintro y w2 ⟨hg2, hO2⟩
  have hB2 := hB.grown hg2 hB.size hob
  have hO2' : OwnS w2 3 1 ov ((needsOf l).mergeSort fun x y => decide (x ≤ y)).length (((needsOf l).mergeSort fun x y => decide (x ≤ y)).map (Value.int .i64)) := by rw [List.length_mergeSort]; exact hO2
  refine TW.nil (KW.pick [3, 6, 7, 8] [(3, _, _), (6, _, _), (7, _, _), (8, _, _)] rfl (KW.then_ ?_))
  refine CW.seq (CW.region ?_)
  refine TW.move rfl rfl rfl ct ?_
  refine TW.call0 (cap := []) rfl rfl en25 rfl (Args.cons rfl ct Args.nil) (compact_c hO2' (by rw [List.length_mergeSort]; omega)) ?_
  rintro u3 w3 ⟨hg3, hO3, ho3⟩
  refine TW.assign rfl rfl rfl ct ?_
  refine TW.nil (KW.pick [2, 3, 6, 7, 8] [(2, _, _), (3, _, _), (6, _, _), (7, _, _), (8, _, _)] rfl (KW.then_ ?_))
  refine CW.ret ?_
  rw [sorted_recs] at hO3
  refine ret1 Tryd.results16 rfl (⟨hB2.grown hg3 hB2.size hob, hO3, fun g hg => hob g (by rw [← ho3]; exact hg)⟩)
end Go.Proofs.YthjcgmjcpmodlaaDoor

namespace Go.Proofs.YthjcgmjcpmodlaaDoor
open Go.PF Go.RowKit Go.Ord Go.Sort Go.Proofs

theorem insS_le (n : Int) : ∀ l : List Int, (insS n l).length ≤ l.length + 1
  | [] => by simp [insS]
  | y :: l => by
    have := insS_le n l
    unfold insS
    repeat' split
    all_goals simp
    all_goals omega

end Go.Proofs.YthjcgmjcpmodlaaDoor

namespace Go.Proofs.YthjcgmjcpmodlaaDoor
open Go.PF Go.RowKit Go.Ord Go.Sort Go.Proofs

theorem i64_sm {x : Int} (h0 : -1000000 ≤ x) (h1 : x ≤ 1000000) : I64 x := ⟨by show (-9223372036854775808 : Int) ≤ x; omega, by show x ≤ 9223372036854775807; omega⟩
theorem litI {w : World} {g : Nat} {t : TypeId} {n : Nat} (l : List Int) (h : Blk w g t (l.map (Value.int .i64))) (hn : n = l.length) (hI : ∀ x ∈ l, -1000000 ≤ x ∧ x ≤ 1000000) (hs : l.length ≤ 1000000) : SI w (.slice (some ⟨g, 0, none⟩) n n) l := by
  subst hn
  exact OwnS.toInts (OwnS.of_blk h (by simp) (by omega)) (fun x hx => i64_sm (hI x hx).1 (hI x hx).2) (fun q hq => by simp [Value.ownBlock] at hq; subst hq; exact h.lt) (by omega)
theorem litP {α : Type} {T : Ty α} {w : World} {g : Nat} {t : TypeId} {n : Nat} (h0 : 0 < T.n) (ps : List (List Value × α)) (h : Blk w g t (ps.flatMap (·.1))) (hn : n = ps.length) (hp : ∀ p ∈ ps, T.rep (fun k => k < w.heap.size) w p.1 p.2) (hs : ps.length ≤ 1000000) : SL T (fun k => k < w.heap.size) w (.slice (some ⟨g, 0, none⟩) n n) (ps.map (·.2)) := by
  subst hn
  exact OwnS.toSLp (T := T) (F := fun k => k < w.heap.size) (w := w) (e := t) (v := .slice (some ⟨g, 0, none⟩) ps.length ps.length) (n := ps.length) ps hp h0 (OwnS.of_blk h (flat_len (fun p : List Value × α => p.1) T.n ps (fun p hp' => T.len _ _ _ _ (hp p hp'))) (by omega)) rfl (fun q hq => by simp [Value.ownBlock] at hq; subst hq; exact h.lt) (by omega)

set_option maxRecDepth 20000 in
theorem scanners_c {w : World} : Gives Tryd.prog 17 #[] w fun u w' => Below w.heap.size w w' ∧ SS w' u sc0 := by
  refine gives_of (vs := []) [] Tryd.func17 rfl Tryd.ntmps17 rfl rfl ?_
  refine CW.seq (CW.region ?_)
  refine TW.assign rfl rfl rfl ct ?_
  refine TW.nil (KW.pick [0] [(0, _, _)] rfl (KW.then_ ?_))
  refine CW.seq (CW.region ?_)
  refine TW.build [2] _ [.int .i64 0, .int .i64 0, .int .i64 5] rfl rfl rfl (Args.cons rfl ct Args.nil) (by kernel_rfl) ?_
  refine TW.build [0, 1] _ [.int .i64 1, .int .i64 1, .int .i64 0] rfl rfl rfl (Args.cons rfl ct (Args.cons rfl ct Args.nil)) (by kernel_rfl) ?_
  refine TW.buildSlice 50 _ rfl rfl rfl eo22 (Args.cons rfl ct (Args.cons rfl ct Args.nil)) rfl rfl rfl rfl rfl ?_
  rintro g3 w3 f3
  refine TW.assign rfl rfl rfl ct ?_
  refine TW.nil (KW.pick [0] [(0, _, _)] rfl (KW.then_ ?_))
  refine CW.ret ?_
  have hs : SS w3 (.slice (some ⟨g3, 0, none⟩) 2 2) sc0 := litP (T := scT) (by decide) [([.int .i64 0, .int .i64 0, .int .i64 5], ⟨0, 0, 5⟩), ([.int .i64 1, .int .i64 1, .int .i64 0], ⟨1, 1, 0⟩)] f3.blk rfl (fun p hp => by
    simp only [List.mem_cons, List.not_mem_nil, or_false] at hp
    rcases hp with rfl | rfl
    · exact ⟨rfl, i64_sm (by simp) (by simp), i64_sm (by simp) (by simp), i64_sm (by simp) (by simp)⟩
    · exact ⟨rfl, i64_sm (by simp) (by simp), i64_sm (by simp) (by simp), i64_sm (by simp) (by simp)⟩) (by simp)
  refine ret1 Tryd.results17 rfl (⟨f3.below, hs⟩)

set_option maxRecDepth 20000 in
theorem records_c {w : World} : Gives Tryd.prog 18 #[] w fun u w' => Below w.heap.size w w' ∧ SR w' u rc0 := by
  refine gives_of (vs := []) [] Tryd.func18 rfl Tryd.ntmps18 rfl rfl ?_
  refine CW.seq (CW.region ?_)
  refine TW.assign rfl rfl rfl ct ?_
  refine TW.nil (KW.pick [0] [(0, _, _)] rfl (KW.then_ ?_))
  refine CW.seq (CW.region ?_)
  refine TW.build [2, 3, 4] _ [.int .i64 0, .int .i64 0, .int .i64 1, .int .i64 100, .string bA, .slice none 0 0] rfl rfl rfl (Args.cons rfl ct (Args.cons rfl ct (Args.cons rfl ct Args.nil))) (by kernel_rfl) ?_
  refine TW.buildSlice 9 _ rfl rfl rfl eo33 (Args.cons rfl ct (Args.cons rfl ct Args.nil)) rfl rfl rfl rfl rfl ?_
  rintro g2 w2 f2
  refine TW.build [1, 2, 3, 4, 5] _ [.int .i64 0, .int .i64 1, .int .i64 2, .int .i64 160, .string bC, .slice (some ⟨g2, 0, none⟩) 2 2] rfl rfl rfl (Args.cons rfl ct (Args.cons rfl ct (Args.cons rfl ct (Args.cons rfl ct (Args.cons rfl ct Args.nil))))) (by kernel_rfl) ?_
  refine TW.build [0, 2, 3, 4] _ [.int .i64 1, .int .i64 0, .int .i64 1, .int .i64 220, .string bC, .slice none 0 0] rfl rfl rfl (Args.cons rfl ct (Args.cons rfl ct (Args.cons rfl ct (Args.cons rfl ct Args.nil)))) (by kernel_rfl) ?_
  refine TW.build [0, 1, 2, 3, 4] _ [.int .i64 1, .int .i64 1, .int .i64 1, .int .i64 230, .string bB, .slice none 0 0] rfl rfl rfl (Args.cons rfl ct (Args.cons rfl ct (Args.cons rfl ct (Args.cons rfl ct (Args.cons rfl ct Args.nil))))) (by kernel_rfl) ?_
  refine TW.buildSlice 35 _ rfl rfl rfl eo23 (Args.cons rfl ct (Args.cons rfl ct (Args.cons rfl ct (Args.cons rfl ct Args.nil)))) rfl rfl rfl rfl rfl ?_
  rintro g3 w3 f3
  refine TW.assign rfl rfl rfl ct ?_
  refine TW.nil (KW.pick [0] [(0, _, _)] rfl (KW.then_ ?_))
  refine CW.ret ?_
  have hc : ST w3 (.slice (some ⟨g2, 0, none⟩) 2 2) [bA, bB] := litP (T := strT) (by decide) [([.string bA], bA), ([.string bB], bB)] (f2.blk.next f3.below) rfl (fun p hp => by
    simp only [List.mem_cons, List.not_mem_nil, or_false] at hp
    rcases hp with rfl | rfl
    · exact ⟨rfl, by decide⟩
    · exact ⟨rfl, by decide⟩) (by simp)
  have hs : SR w3 (.slice (some ⟨g3, 0, none⟩) 4 4) rc0 := litP (T := rcT) (by decide) [([.int .i64 0, .int .i64 0, .int .i64 1, .int .i64 100, .string bA, .slice none 0 0], ⟨0, 0, 1, 100, bA, []⟩), ([.int .i64 0, .int .i64 1, .int .i64 2, .int .i64 160, .string bC, .slice (some ⟨g2, 0, none⟩) 2 2], ⟨0, 1, 2, 160, bC, [bA, bB]⟩), ([.int .i64 1, .int .i64 0, .int .i64 1, .int .i64 220, .string bC, .slice none 0 0], ⟨1, 0, 1, 220, bC, []⟩), ([.int .i64 1, .int .i64 1, .int .i64 1, .int .i64 230, .string bB, .slice none 0 0], ⟨1, 1, 1, 230, bB, []⟩)] f3.blk rfl (fun p hp => by
    simp only [List.mem_cons, List.not_mem_nil, or_false] at hp
    rcases hp with rfl | rfl | rfl | rfl
    · exact ⟨_, rfl, i64_sm (by simp) (by simp), i64_sm (by simp) (by simp), i64_sm (by simp) (by simp), i64_sm (by simp) (by simp), by decide, SL.nil _ _ _⟩
    · exact ⟨_, rfl, i64_sm (by simp) (by simp), i64_sm (by simp) (by simp), i64_sm (by simp) (by simp), i64_sm (by simp) (by simp), (show bC.size ≤ 9223372036854775807 by decide), hc⟩
    · exact ⟨_, rfl, i64_sm (by simp) (by simp), i64_sm (by simp) (by simp), i64_sm (by simp) (by simp), i64_sm (by simp) (by simp), by decide, SL.nil _ _ _⟩
    · exact ⟨_, rfl, i64_sm (by simp) (by simp), i64_sm (by simp) (by simp), i64_sm (by simp) (by simp), i64_sm (by simp) (by simp), by decide, SL.nil _ _ _⟩) (by simp)
  refine ret1 Tryd.results18 rfl (⟨f2.below.step f3.below, hs⟩)

theorem evs0 {lab : ByteArray} {z : List Ev} (h : canon (extL (fun _ => true) sc0 rc0 3 [] lab) = z) : evsOf sc0 rc0 lab = z.take 14 := by
  unfold evsOf
  rw [← h]
  congr 1
  exact canon_ext fun e => by rw [mem_folL, mem_ext0 all0]
theorem evsA : evsOf sc0 rc0 bA = [eX, eY, eZ] := evs0 extA
theorem evsC : evsOf sc0 rc0 bC = [eY, eW] := evs0 extC
theorem evsD : evsOf sc0 rc0 bD = [] := evs0 extD

set_option maxRecDepth 40000 in
set_option maxHeartbeats 1000000 in
theorem head_c {w : World} (ht : Tabs w) : Gives Tryd.prog 7 #[] w fun u w' => Below w.heap.size w w' ∧ u = .bool true := by
  refine gives_of (vs := []) [] Tryd.func7 rfl Tryd.ntmps7 rfl rfl ?_
  refine CW.seq (CW.region ?_)
  refine TW.assign rfl rfl rfl ct ?_
  refine TW.nil (KW.pick [0] [(0, _, _)] rfl (KW.then_ ?_))
  refine CW.seq (CW.region ?_)
  refine TW.call0 (cap := []) rfl rfl en17 rfl Args.nil (scanners_c) ?_
  rintro s1 w1 ⟨b1, hs1⟩
  refine TW.call0 (cap := []) rfl rfl en18 rfl Args.nil (records_c) ?_
  rintro r2 w2 ⟨b2, hr2⟩
  refine TW.call0 (cap := []) rfl rfl en9 rfl (Args.cons rfl ct (Args.cons rfl ct (Args.cons rfl ct Args.nil))) (events_c (ss_step hs1 b2) hr2 (by decide) ((ht.below b1).below b2)) ?_
  rintro v3 w3 ⟨b3, h3⟩
  rw [show evsOf sc0 rc0 (⟨#[65]⟩ : ByteArray) = [eX, eY, eZ] from evsA] at h3
  have ht3 := ((ht.below b1).below b2).below b3
  refine TW.assign rfl rfl rfl ct ?_
  refine TW.nil (KW.pick [0, 1] [(0, _, _), (1, _, _)] rfl (KW.then_ ?_))
  refine CW.seq (CW.region ?_)
  refine TW.call0 (cap := []) rfl rfl en17 rfl Args.nil (scanners_c) ?_
  rintro s4 w4 ⟨b4, hs4⟩
  refine TW.call0 (cap := []) rfl rfl en18 rfl Args.nil (records_c) ?_
  rintro r5 w5 ⟨b5, hr5⟩
  refine TW.call0 (cap := []) rfl rfl en9 rfl (Args.cons rfl ct (Args.cons rfl ct (Args.cons rfl ct Args.nil))) (events_c (ss_step hs4 b5) hr5 (by decide) ((ht3.below b4).below b5)) ?_
  rintro v6 w6 ⟨b6, h6⟩
  rw [show evsOf sc0 rc0 (⟨#[67, 48, 46, 49, 54, 48]⟩ : ByteArray) = [eY, eW] from evsC] at h6
  have ht6 := ((ht3.below b4).below b5).below b6
  have h36 := se_step h3 ((b4.step b5).step b6)
  have bb6 := ((b1.step b2).step b3).step ((b4.step b5).step b6)
  refine TW.assign rfl rfl rfl ct ?_
  refine TW.nil (KW.pick [0, 1, 2] [(0, _, _), (1, _, _), (2, _, _)] rfl (KW.then_ ?_))
  refine CW.seq (CW.region ?_)
  refine TW.buildSlice 3 _ rfl rfl rfl eo29 (Args.cons rfl ct Args.nil) rfl rfl rfl rfl rfl ?_
  rintro g7 w7 f7
  refine TW.build [1, 2, 3] _ [.int .i64 0, .int .i64 95, .int .i64 105, .slice (some ⟨g7, 0, none⟩) 1 1] rfl rfl rfl (Args.cons rfl ct (Args.cons rfl ct (Args.cons rfl ct Args.nil))) (by kernel_rfl) ?_
  refine TW.newVar rfl zc31 rfl sz31 rfl rfl ?_
  rintro g8 w8 f8
  refine TW.nil (KW.pick [0, 1, 2, 3] [(0, _, _), (1, _, _), (2, _, _), (3, _, _)] rfl (KW.then_ ?_))
  refine CW.seq (CW.region ?_)
  refine TW.buildSlice 3 _ rfl rfl rfl eo29 (Args.cons rfl ct Args.nil) rfl rfl rfl rfl rfl ?_
  rintro g9 w9 f9
  refine TW.build [1, 2, 3] _ [.int .i64 0, .int .i64 155, .int .i64 165, .slice (some ⟨g9, 0, none⟩) 1 1] rfl rfl rfl (Args.cons rfl ct (Args.cons rfl ct (Args.cons rfl ct Args.nil))) (by kernel_rfl) ?_
  refine TW.newVar rfl zc31 rfl sz31 rfl rfl ?_
  rintro g10 w10 f10
  refine TW.nil (KW.pick [0, 1, 2, 3, 4] [(0, _, _), (1, _, _), (2, _, _), (3, _, _), (4, _, _)] rfl (KW.then_ ?_))
  refine CW.seq (CW.region ?_)
  refine TW.buildSlice 3 _ rfl rfl rfl eo29 (Args.cons rfl ct (Args.cons rfl ct Args.nil)) rfl rfl rfl rfl rfl ?_
  rintro g11 w11 f11
  refine TW.build [0, 1, 2, 3] _ [.int .i64 1, .int .i64 220, .int .i64 220, .slice (some ⟨g11, 0, none⟩) 2 2] rfl rfl rfl (Args.cons rfl ct (Args.cons rfl ct (Args.cons rfl ct (Args.cons rfl ct Args.nil)))) (by kernel_rfl) ?_
  refine TW.newVar rfl zc31 rfl sz31 rfl rfl ?_
  rintro g12 w12 f12
  refine TW.nil (KW.pick [0, 1, 2, 3, 4, 5] [(0, _, _), (1, _, _), (2, _, _), (3, _, _), (4, _, _), (5, _, _)] rfl (KW.then_ ?_))
  refine CW.seq (CW.region ?_)
  refine TW.loadS _ rfl rfl Tryd.underlying31 sz31 rfl ct (fun _ => (fun _ _ hv => f12.blk.fld hv)) rfl ?_
  refine TW.newVar rfl zc31 rfl sz31 rfl rfl ?_
  rintro g13 w13 f13
  refine TW.nil (KW.pick [0, 1, 2, 3, 4, 5, 6] [(0, _, _), (1, _, _), (2, _, _), (3, _, _), (4, _, _), (5, _, _), (6, _, _)] rfl (KW.then_ ?_))
  refine CW.seq (CW.region ?_)
  refine TW.buildSlice 3 _ rfl rfl rfl eo29 (Args.cons rfl ct Args.nil) rfl rfl rfl rfl rfl ?_
  rintro g14 w14 f14
  refine TW.fieldAddr rfl rfl fo31_3 rfl ct ?_
  refine TW.storeFld rfl sz29 rfl rfl (f13.blk.next f14.below) (by show 3 < 4; decide) rfl ?_
  rintro w15 hB15 hbut15 hsz15
  refine TW.nil (KW.pick [0, 1, 2, 3, 4, 5, 6] [(0, _, _), (1, _, _), (2, _, _), (3, _, _), (4, _, _), (5, _, _), (6, _, _)] rfl (KW.then_ ?_))
  refine CW.seq (CW.region ?_)
  refine TW.move rfl rfl rfl ct ?_
  have k13 := f13.at_
  have c78 := f7.below.step f8.below
  have c910 := f9.below.step f10.below
  have c1112 := f11.below.step f12.below
  have c1314 := f13.below.step f14.below
  have hb13 : Below w12.heap.size w12 w15 := c1314.grown hbut15 c1314.size (fun k hk => by cases hk; omega)
  have hb11 : Below w10.heap.size w10 w15 := c1112.step hb13
  have hb9 : Below w8.heap.size w8 w15 := c910.step hb11
  have hb7 : Below w6.heap.size w6 w15 := c78.step hb9
  have hBx := f8.blk.next hb9
  have hBy := f10.blk.next hb11
  have hBz := f12.blk.next hb13
  have nX : SI w15 (.slice (some ⟨g7, 0, none⟩) 1 1) [0] := litI _ (f7.blk.next (f8.below.step hb9)) rfl (by decide) (by decide)
  have nY : SI w15 (.slice (some ⟨g9, 0, none⟩) 1 1) [1] := litI _ (f9.blk.next (f10.below.step hb11)) rfl (by decide) (by decide)
  have nZ : SI w15 (.slice (some ⟨g11, 0, none⟩) 2 2) [1, 2] := litI _ (f11.blk.next (f12.below.step hb13)) rfl (by decide) (by decide)
  have nW : SI w15 (.slice (some ⟨g14, 0, none⟩) 1 1) [2] := litI _ (hbut15.blk f14.blk (by have := f14.at_; have := f13.size; omega)) rfl (by decide) (by decide)
  have h3' := se_step h36 hb7
  have h6' := se_step h6 hb7
  obtain ⟨V3, vc3, rfl, _⟩ := h3'.form
  obtain ⟨V6, vc6, rfl, _⟩ := h6'.form
  have ht15 := ht6.below hb7
  have bb15 := bb6.step hb7
  refine TW.loadS _ rfl rfl Tryd.underlying31 sz31 rfl ct (fun _ => (fun _ _ hv => hBx.fld hv)) rfl ?_
  refine TW.loadS _ rfl rfl Tryd.underlying31 sz31 rfl ct (fun _ => (fun _ _ hv => hBy.fld hv)) rfl ?_
  refine TW.loadS _ rfl rfl Tryd.underlying31 sz31 rfl ct (fun _ => (fun _ _ hv => hBz.fld hv)) rfl ?_
  refine TW.buildSlice 31 _ rfl rfl rfl eo26 (Args.cons rfl ct (Args.cons rfl ct (Args.cons rfl ct Args.nil))) rfl rfl rfl rfl rfl ?_
  rintro g16 w16 f16
  have hI : ∀ x : Int, -1000000 ≤ x → x ≤ 1000000 → I64 x := fun x => i64_sm
  have r16 : SE w16 (.slice (some ⟨g16, 0, none⟩) 3 3) [eX, eY, eZ] := litP (T := evT) (by decide) [([.int .i64 0, .int .i64 95, .int .i64 105, .slice (some ⟨g7, 0, none⟩) 1 1], eX), ([.int .i64 0, .int .i64 155, .int .i64 165, .slice (some ⟨g9, 0, none⟩) 1 1], eY), ([.int .i64 1, .int .i64 220, .int .i64 220, .slice (some ⟨g11, 0, none⟩) 2 2], eZ)] f16.blk rfl (fun p hp => by
    simp only [List.mem_cons, List.not_mem_nil, or_false] at hp
    rcases hp with rfl | rfl | rfl
    · exact ⟨_, rfl, hI 0 (by omega) (by omega), hI 95 (by omega) (by omega), hI 105 (by omega) (by omega), si_step nX f16.below⟩
    · exact ⟨_, rfl, hI 0 (by omega) (by omega), hI 155 (by omega) (by omega), hI 165 (by omega) (by omega), si_step nY f16.below⟩
    · exact ⟨_, rfl, hI 1 (by omega) (by omega), hI 220 (by omega) (by omega), hI 220 (by omega) (by omega), si_step nZ f16.below⟩) (by simp)
  refine TW.call0 (cap := []) rfl rfl en12 rfl (Args.cons rfl ct (Args.cons rfl ct Args.nil)) (rsame_c (se_step h3' f16.below) r16 (by decide) (by decide)) ?_
  rintro y w17 ⟨c17, rfl⟩
  rw [dec_pos rfl]
  have d17 := f16.below.step c17
  have hBy17 := hBy.next d17
  have hBw17 := hB15.next d17
  refine TW.move rfl rfl rfl ct ?_
  refine TW.known rfl rfl ?_
  refine TW.move rfl rfl rfl ct ?_
  refine TW.known rfl rfl ?_
  refine TW.loadS _ rfl rfl Tryd.underlying31 sz31 rfl ct (fun _ => (fun _ _ hv => hBy17.fld hv)) rfl ?_
  refine TW.known rfl rfl ?_
  refine TW.loadS _ rfl rfl Tryd.underlying31 sz31 rfl ct (fun _ => (fun _ _ hv => hBw17.fld hv)) rfl ?_
  refine TW.known rfl rfl ?_
  refine TW.buildSlice 31 _ rfl rfl rfl eo26 (Args.cons rfl ct (Args.cons rfl ct Args.nil)) rfl rfl rfl rfl rfl ?_
  rintro g18 w18 f18
  refine TW.known rfl rfl ?_
  have d18 := d17.step f18.below
  have r18 : SE w18 (.slice (some ⟨g18, 0, none⟩) 2 2) [eY, eW] := litP (T := evT) (by decide) [([.int .i64 0, .int .i64 155, .int .i64 165, .slice (some ⟨g9, 0, none⟩) 1 1], eY), ([.int .i64 1, .int .i64 220, .int .i64 220, .slice (some ⟨g14, 0, none⟩) 1 1], eW)] f18.blk rfl (fun p hp => by
    simp only [List.mem_cons, List.not_mem_nil, or_false] at hp
    rcases hp with rfl | rfl
    · exact ⟨_, rfl, hI 0 (by omega) (by omega), hI 155 (by omega) (by omega), hI 165 (by omega) (by omega), si_step nY d18⟩
    · exact ⟨_, rfl, hI 1 (by omega) (by omega), hI 220 (by omega) (by omega), hI 220 (by omega) (by omega), si_step nW d18⟩) (by simp)
  refine TW.call0 (cap := []) rfl rfl en12 rfl (Args.cons rfl ct (Args.cons rfl ct Args.nil)) (rsame_c (se_step h6' d18) r18 (by decide) (by decide)) ?_
  rintro y w19 ⟨c19, rfl⟩
  rw [dec_pos rfl]
  have d19 := d18.step c19
  have ht19 := ht15.below d19
  refine TW.pickAnd rfl rfl rfl ct rfl pT ?_
  refine TW.move rfl rfl rfl ct ?_
  refine TW.known rfl rfl ?_
  refine TW.call0 (cap := []) rfl rfl en17 rfl Args.nil (scanners_c) ?_
  rintro s20 w20 ⟨c20, hs20⟩
  refine TW.known rfl rfl ?_
  refine TW.call0 (cap := []) rfl rfl en18 rfl Args.nil (records_c) ?_
  rintro r21 w21 ⟨c21, hr21⟩
  refine TW.known rfl rfl ?_
  refine TW.call0 (cap := []) rfl rfl en9 rfl (Args.cons rfl ct (Args.cons rfl ct (Args.cons rfl ct Args.nil))) (events_c (ss_step hs20 c21) hr21 (by decide) ((ht19.below c20).below c21)) ?_
  rintro v22 w22 ⟨c22, h22⟩
  rw [show evsOf sc0 rc0 (⟨#[68]⟩ : ByteArray) = [] from evsD] at h22
  obtain ⟨V22, vc22, rfl, _⟩ := h22.form
  have d22 := (c20.step c21).step c22
  have d22' := d19.step d22
  refine TW.known rfl rfl ?_
  refine TW.lenSlice rfl rfl Tryd.underlying26 rfl ct ?_
  refine TW.known rfl rfl ?_
  refine TW.eql rfl rfl rfl ct rfl ct ?_
  refine TW.pickAnd rfl rfl rfl ct rfl pT ?_
  refine TW.move rfl rfl rfl ct ?_
  refine TW.known rfl rfl ?_
  refine TW.move rfl rfl rfl ct ?_
  refine TW.known rfl rfl ?_
  refine TW.call0 (cap := []) rfl rfl en16 rfl (Args.cons rfl ct Args.nil) (about_c (se_step h3' d22') (by decide) (by decide)) ?_
  rintro v23 w23 ⟨c23, h23, _⟩
  have h23i : SI w23 v23 [0, 1, 2] := OwnS.toInts (l := [0, 1, 2]) h23 (fun x hx => hI x (by simp at hx; omega) (by simp at hx; omega)) (fun g hg => h23.lt hg) (by decide)
  refine TW.known rfl rfl ?_
  refine TW.buildSlice 3 _ rfl rfl rfl eo29 (Args.cons rfl ct (Args.cons rfl ct (Args.cons rfl ct Args.nil))) rfl rfl rfl rfl rfl ?_
  rintro g24 w24 f24
  refine TW.known rfl rfl ?_
  refine TW.call0 (cap := []) rfl rfl en19 rfl (Args.cons rfl ct (Args.cons rfl ct Args.nil)) (rints_c (b := [0, 1, 2]) (si_step h23i f24.below) (litI _ f24.blk rfl (by decide) (by decide))) ?_
  rintro y w25 ⟨c25, rfl⟩
  have d25 := (c23.step f24.below).step c25
  refine TW.pickAnd rfl rfl rfl ct rfl pT ?_
  refine TW.move rfl rfl rfl ct ?_
  refine TW.known rfl rfl ?_
  refine TW.call0 (cap := []) rfl rfl en17 rfl Args.nil (scanners_c) ?_
  rintro s26 w26 ⟨c26, hs26⟩
  refine TW.known rfl rfl ?_
  refine TW.call0 (cap := []) rfl rfl en18 rfl Args.nil (records_c) ?_
  rintro r27 w27 ⟨c27, hr27⟩
  obtain ⟨R27, rc27, rfl, _⟩ := hr27.form
  obtain ⟨ad, rfl⟩ := hr27.addr (by decide)
  obtain ⟨xv, hcells, hok⟩ := SR.get hr27 (i := 1) (e := ⟨0, 1, 2, 160, bC, [bA, bB]⟩) rfl
  have hlR : rc0.length = 4 := rfl
  refine TW.known rfl rfl ?_
  refine TW.indexAddr rfl rfl Tryd.underlying23 sz35 rfl ct rfl ct (fun _ => by (try dsimp only); omega) ?_
  refine TW.known rfl rfl ?_
  refine TW.loadS _ rfl rfl Tryd.underlying35 sz35 rfl ct (fun _ => hcells) rfl ?_
  refine TW.known rfl rfl ?_
  refine TW.call0 (cap := []) rfl rfl en11 rfl (Args.cons rfl ct (Args.cons rfl ct Args.nil)) (valid_c (ss_step hs26 c27) hok) ?_
  rintro y w28 ⟨c28, rfl⟩
  rw [dec_pos (val0 _ (by simp [rc0]))]
  refine TW.pickAnd rfl rfl rfl ct rfl pT ?_
  refine TW.assign rfl rfl rfl ct ?_
  refine TW.nil (KW.pick [0, 1, 2, 3, 4, 5, 6] [(0, _, _), (1, _, _), (2, _, _), (3, _, _), (4, _, _), (5, _, _), (6, _, _)] rfl (KW.then_ ?_))
  refine CW.ret ?_
  refine ret1 Tryd.results7 rfl (⟨(((bb15.step d22').step d25).step (c26.step c27)).step c28, rfl⟩)
end Go.Proofs.YthjcgmjcpmodlaaDoor
