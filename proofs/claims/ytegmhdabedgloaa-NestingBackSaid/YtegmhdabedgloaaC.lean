import Derived.Test.YtegmhdabedgloaaB
namespace Go.Proofs.Ytegmhdabedgloaa
open Go.PF Go.RowKit

theorem nats_map (xs : List Nat) : (xs.map fun (k : Nat) => Value.int .i64 (k : Int)) = ((xs.map fun (k : Nat) => (k : Int)).map (Value.int .i64)) := by simp

theorem own_nats {F : Nat → Prop} {w : World} {e : TypeId} {v : Value} {xs : List Nat} (h : OwnS w e 1 v xs.length (xs.map fun (k : Nat) => Value.int .i64 (k : Int))) (hi : ∀ x ∈ xs, x ≤ 9223372036854775807) (hF : ∀ g, v.ownBlock = some g → F g) (hn : xs.length ≤ 9223372036854775807) : SL intT F w v (xs.map fun (k : Nat) => (k : Int)) :=
  OwnS.toInts (by rw [nats_map] at h; simpa using h) (fun x hx => by simp at hx; obtain ⟨k, hk, rfl⟩ := hx; have := hi k hk; constructor <;> omega) hF (by simpa using hn)

theorem outside_lt {l : List Box} {i : Nat} : ∀ k ∈ outside l i, k < l.length := by
  intro k hk
  unfold outside at hk
  split at hk
  · simp at hk
  · exact ups_mem _ _ _ _ hk

theorem outside_len {l : List Box} {i : Nat} : (outside l i).length ≤ 4 := by
  unfold outside
  split
  · simp
  · exact ups_len _ _ _

theorem rlocked_c {F : Nat → Prop} {v : Value} {l : List Box} {w : World} (i : Nat) (hl : SL boxT F w v l) (hv : Valid l) (hi : i < l.length) :
    Gives Try.prog 49 #[v, .int .i64 (i : Int)] w fun u w' => Below w.heap.size w w' ∧ u = .bool (locked l i) := by
  obtain ⟨A, cap, rfl, h1, h2, h3⟩ := id hl
  refine gives_of (vs := [.slice A l.length cap, .int .i64 (i : Int)]) [(0, none, _), (1, none, _)] Try.func49 rfl Try.ntmps49 rfl rfl ?_
  refine CW.seq (CW.region ?_)
  refine TW.assign rfl rfl rfl ct ?_
  refine TW.nil (KW.pick [0, 1, 4] [(0, _, _), (1, _, _), (4, _, _)] rfl (KW.then_ ?_))
  refine CW.seq (CW.region ?_)
  refine TW.move rfl rfl rfl ct ?_
  refine TW.move rfl rfl rfl ct ?_
  refine TW.call0 (cap := []) rfl rfl en59 rfl (Args.cons rfl ct (Args.cons rfl ct Args.nil)) (routside_c i hl hv hi) ?_
  rintro o w1 ⟨hb1, hown, hfr⟩
  have hl1 := hl.below hb1
  have hfew := hv.few
  obtain ⟨A2, cap2, rfl, _, _, _⟩ := hown.form
  have ho := own_nats (F := fun _ => True) hown (fun x hx => by have := outside_lt x hx; omega) (fun _ _ => trivial) (by have := outside_len (l := l) (i := i); omega)
  have hol := outside_len (l := l) (i := i)
  refine TW.assign rfl rfl rfl ct ?_
  refine TW.nil (KW.pick [0, 1, 4, 5] [(0, _, _), (1, _, _), (4, _, _), (5, _, _)] rfl (KW.then_ ?_))
  refine CW.seq (CW.seq (CW.region ?_))
  refine TW.assign rfl rfl rfl ct ?_
  refine TW.nil (KW.pick [0, 1, 4, 5, 6] [(0, _, _), (1, _, _), (4, _, _), (5, _, _), (6, _, _)] rfl (KW.then_ ?_))
  refine CW.block ?_
  refine CW.loopS (fun k : Nat => [(0, none, .slice A l.length cap), (5, none, .slice A2 (outside l i).length cap2), (6, none, .int .i64 (k : Int))])
    (fun k W => W = w1 ∧ k ≤ (outside l i).length ∧ ∀ (j : Nat) (p : Nat) (q : Box), j < k → (outside l i)[j]? = some p → l[p]? = some q → q.closed = false)
    (fun k => (outside l i).length - k) 0 [0, 5, 6] ⟨rfl, by omega, fun j p q hj => by omega⟩ rfl ?_
  rintro k W ⟨rfl, hk, hno⟩
  refine CW.seq (CW.seq (CW.region ?_))
  refine TW.move rfl rfl rfl ct ?_
  refine TW.move rfl rfl rfl ct ?_
  refine TW.lenSlice rfl rfl Try.underlying25 rfl ct ?_
  refine TW.lss rfl rfl rfl ct rfl ct ?_
  refine TW.nil (KW.pick [0, 5, 6, 13] [(0, _, _), (5, _, _), (6, _, _), (13, _, _)] rfl (KW.then_ ?_))
  refine CW.condP rfl (fun hlt => ?_) (fun hge => ?_)
  · have hkl : k < (outside l i).length := by omega
    obtain ⟨p, hp⟩ : ∃ p, (outside l i)[k]? = some p := ⟨_, List.getElem?_eq_getElem hkl⟩
    have hpl := outside_lt p (List.mem_of_getElem? hp)
    obtain ⟨q, hq⟩ : ∃ q, l[p]? = some q := ⟨_, List.getElem?_eq_getElem hpl⟩
    obtain ⟨a2, rfl, hc2, _⟩ := ho.int (i := k) (x := (p : Int)) (by simp [hp])
    obtain ⟨ad, rfl, _, _⟩ := box_at hl1 hq
    refine CW.skip (KW.then_ (CW.seq (CW.block (CW.seq (CW.region ?_)))))
    refine TW.move rfl rfl rfl ct ?_
    refine TW.move rfl rfl rfl ct ?_
    refine TW.move rfl rfl rfl ct ?_
    refine TW.indexAddr rfl rfl Try.underlying25 sz3 rfl ct rfl ct (fun _ => by (try dsimp only); omega) ?_
    refine TW.load rfl rfl one3 rfl ct (fun _ => hc2) ?_
    refine TW.indexAddr rfl rfl Try.underlying22 sz28 rfl ct rfl ct (fun _ => by (try dsimp only); omega) ?_
    refine TW.fieldAddr rfl rfl fo28_4 rfl ct ?_
    refine TW.load rfl rfl one4 rfl ct (fun _ => box_cell hl1 hq rfl) ?_
    refine TW.nil (KW.pick [0, 5, 6, 23] [(0, _, _), (5, _, _), (6, _, _), (23, _, _)] rfl (KW.then_ ?_))
    refine CW.cond rfl (fun hcl => ?_) (fun hop => ?_)
    · refine CW.seq (CW.region ?_)
      refine TW.assign rfl rfl rfl ct ?_
      refine TW.nil (KW.pick [0, 4, 5, 6] [(0, _, _), (4, _, _), (5, _, _), (6, _, _)] rfl (KW.then_ ?_))
      refine CW.ret (KW.blockR (KW.thenR (KW.thenR (KW.blockR (KW.thenR ?_)))))
      refine ret1 Try.results49 rfl (⟨hb1, ?_⟩)
      congr 1
      symm
      unfold locked
      rw [List.any_eq_true]
      exact ⟨p, List.mem_of_getElem? hp, by simp [hq, hcl]⟩
    · refine CW.skip (KW.blockN (KW.then_ (CW.region ?_)))
      refine TW.move rfl rfl rfl ct ?_
      refine TW.add rfl rfl rfl ct rfl ct (fun _ => by (try dsimp only); omega) ?_
      refine TW.assign rfl rfl rfl ct ?_
      refine TW.nil (KW.pick [0, 5, 6] [(0, _, _), (5, _, _), (6, _, _)] rfl ?_)
      refine KW.round (k + 1) [0, 5, 6] rfl ⟨rfl, by omega, fun j p' q' hj hp' hq' => ?_⟩ (by omega)
      by_cases hjk : j = k
      · subst hjk
        rw [hp] at hp'
        simp only [Option.some.injEq] at hp'
        subst hp'
        rw [hq] at hq'
        simp only [Option.some.injEq] at hq'
        subst hq'
        exact hop
      · exact hno j p' q' (by omega) hp' hq'
  · refine CW.exit (KW.thenX (KW.thenX (KW.blockX (KW.then_ (CW.seq (CW.region ?_))))))
    refine TW.assign rfl rfl rfl ct ?_
    refine TW.nil (KW.pick [0, 4, 5, 6] [(0, _, _), (4, _, _), (5, _, _), (6, _, _)] rfl (KW.then_ ?_))
    refine CW.ret ?_
    refine ret1 Try.results49 rfl (⟨hb1, ?_⟩)
    congr 1
    symm
    unfold locked
    rw [List.any_eq_false]
    intro p hp
    obtain ⟨j, hj, hpj⟩ := List.getElem_of_mem hp
    have hpl := outside_lt p hp
    obtain ⟨q, hq⟩ : ∃ q, l[p]? = some q := ⟨_, List.getElem?_eq_getElem hpl⟩
    rw [hq]
    have := hno j p q (by omega) (by rw [List.getElem?_eq_getElem hj, hpj]) hq
    simp [this]

theorem rin_c {F : Nat → Prop} {v : Value} {l : List Int} (n : Int) {w : World} (hl : SL intT F w v l) :
    Gives Try.prog 60 #[v, .int .i64 n] w fun u w' => Below w.heap.size w w' ∧ u = .bool (decide (n ∈ l)) := by
  obtain ⟨A, cap, rfl, h1, h2, h3⟩ := id hl
  refine gives_of (vs := [.slice A l.length cap, .int .i64 n]) [(0, none, _), (1, none, _)] Try.func60 rfl Try.ntmps60 rfl rfl ?_
  refine CW.seq (CW.region ?_)
  refine TW.assign rfl rfl rfl ct ?_
  refine TW.nil (KW.pick [0, 1, 4] [(0, _, _), (1, _, _), (4, _, _)] rfl (KW.then_ ?_))
  refine CW.seq (CW.seq (CW.region ?_))
  refine TW.assign rfl rfl rfl ct ?_
  refine TW.nil (KW.pick [0, 1, 4, 5] [(0, _, _), (1, _, _), (4, _, _), (5, _, _)] rfl (KW.then_ ?_))
  refine CW.block ?_
  refine CW.loopS (fun k : Nat => [(0, none, .slice A l.length cap), (1, none, .int .i64 n), (5, none, .int .i64 (k : Int))]) (fun k W => W = w ∧ k ≤ l.length ∧ ∀ i < k, l[i]? ≠ some n) (fun k => l.length - k) 0 [0, 1, 5] ⟨rfl, by omega, fun i hi => by omega⟩ rfl ?_
  rintro k W ⟨rfl, hk, hne⟩
  refine CW.seq (CW.seq (CW.region ?_))
  refine TW.move rfl rfl rfl ct ?_
  refine TW.move rfl rfl rfl ct ?_
  refine TW.lenSlice rfl rfl Try.underlying25 rfl ct ?_
  refine TW.lss rfl rfl rfl ct rfl ct ?_
  refine TW.nil (KW.pick [0, 1, 5, 9] [(0, _, _), (1, _, _), (5, _, _), (9, _, _)] rfl (KW.then_ ?_))
  refine CW.condP rfl (fun hlt => ?_) (fun hge => ?_)
  · have hkl : k < l.length := by omega
    obtain ⟨a, rfl, hcell, _⟩ := hl.int (List.getElem?_eq_getElem hkl)
    refine CW.skip (KW.then_ (CW.seq (CW.block (CW.seq (CW.region ?_)))))
    refine TW.move rfl rfl rfl ct ?_
    refine TW.move rfl rfl rfl ct ?_
    refine TW.indexAddr rfl rfl Try.underlying25 sz3 rfl ct rfl ct (fun _ => by (try dsimp only); omega) ?_
    refine TW.load rfl rfl one3 rfl ct (fun _ => hcell) ?_
    refine TW.move rfl rfl rfl ct ?_
    refine TW.eql rfl rfl rfl ct rfl ct ?_
    refine TW.nil (KW.pick [0, 1, 5, 17] [(0, _, _), (1, _, _), (5, _, _), (17, _, _)] rfl (KW.then_ ?_))
    refine CW.condP rfl (fun he => ?_) (fun hn => ?_)
    · refine CW.seq (CW.region ?_)
      refine TW.assign rfl rfl rfl ct ?_
      refine TW.nil (KW.pick [0, 1, 4, 5] [(0, _, _), (1, _, _), (4, _, _), (5, _, _)] rfl (KW.then_ ?_))
      refine CW.ret (KW.blockR (KW.thenR (KW.thenR (KW.blockR (KW.thenR ?_)))))
      have : n ∈ l := he ▸ List.getElem_mem hkl
      refine ret1 Try.results60 rfl (⟨Below.refl _ _, by simp [this]⟩)
    · refine CW.skip (KW.blockN (KW.then_ (CW.region ?_)))
      refine TW.move rfl rfl rfl ct ?_
      refine TW.add rfl rfl rfl ct rfl ct (fun _ => by (try dsimp only); omega) ?_
      refine TW.assign rfl rfl rfl ct ?_
      refine TW.nil (KW.pick [0, 1, 5] [(0, _, _), (1, _, _), (5, _, _)] rfl ?_)
      refine KW.round (k + 1) [0, 1, 5] rfl ⟨rfl, by omega, ?_⟩ (by omega)
      intro i hi
      by_cases h : i = k
      · subst h; rw [List.getElem?_eq_getElem hkl]; simpa using hn
      · exact hne i (by omega)
  · refine CW.exit (KW.thenX (KW.thenX (KW.blockX (KW.then_ (CW.seq (CW.region ?_))))))
    refine TW.assign rfl rfl rfl ct ?_
    refine TW.nil (KW.pick [0, 1, 4, 5] [(0, _, _), (1, _, _), (4, _, _), (5, _, _)] rfl (KW.then_ ?_))
    refine CW.ret ?_
    have : n ∉ l := fun hm => by
      obtain ⟨i, hi, e⟩ := List.getElem_of_mem hm
      exact hne i (by omega) (by rw [List.getElem?_eq_getElem hi, e])
    refine ret1 Try.results60 rfl (⟨Below.refl _ _, by simp [this]⟩)

theorem lhas_c {F : Nat → Prop} {v : Value} {l : List Int} (n : Int) {w : World} (hl : SL intT F w v l) :
    Gives Try.prog 13 #[v, .int .i64 n] w fun u w' => Below w.heap.size w w' ∧ u = .bool (decide (n ∈ l)) := by
  obtain ⟨A, cap, rfl, h1, h2, h3⟩ := id hl
  refine gives_of (vs := [.slice A l.length cap, .int .i64 n]) [(0, none, _), (1, none, _)] Try.func13 rfl Try.ntmps13 rfl rfl ?_
  refine CW.seq (CW.region ?_)
  refine TW.assign rfl rfl rfl ct ?_
  refine TW.nil (KW.pick [0, 1, 4] [(0, _, _), (1, _, _), (4, _, _)] rfl (KW.then_ ?_))
  refine CW.seq (CW.seq (CW.region ?_))
  refine TW.assign rfl rfl rfl ct ?_
  refine TW.nil (KW.pick [0, 1, 4, 5] [(0, _, _), (1, _, _), (4, _, _), (5, _, _)] rfl (KW.then_ ?_))
  refine CW.block ?_
  refine CW.loopS (fun k : Nat => [(0, none, .slice A l.length cap), (1, none, .int .i64 n), (5, none, .int .i64 (k : Int))]) (fun k W => W = w ∧ k ≤ l.length ∧ ∀ i < k, l[i]? ≠ some n) (fun k => l.length - k) 0 [0, 1, 5] ⟨rfl, by omega, fun i hi => by omega⟩ rfl ?_
  rintro k W ⟨rfl, hk, hne⟩
  refine CW.seq (CW.seq (CW.region ?_))
  refine TW.move rfl rfl rfl ct ?_
  refine TW.move rfl rfl rfl ct ?_
  refine TW.lenSlice rfl rfl Try.underlying25 rfl ct ?_
  refine TW.lss rfl rfl rfl ct rfl ct ?_
  refine TW.nil (KW.pick [0, 1, 5, 9] [(0, _, _), (1, _, _), (5, _, _), (9, _, _)] rfl (KW.then_ ?_))
  refine CW.condP rfl (fun hlt => ?_) (fun hge => ?_)
  · have hkl : k < l.length := by omega
    obtain ⟨a, rfl, hcell, _⟩ := hl.int (List.getElem?_eq_getElem hkl)
    refine CW.skip (KW.then_ (CW.seq (CW.block (CW.seq (CW.region ?_)))))
    refine TW.move rfl rfl rfl ct ?_
    refine TW.move rfl rfl rfl ct ?_
    refine TW.indexAddr rfl rfl Try.underlying25 sz3 rfl ct rfl ct (fun _ => by (try dsimp only); omega) ?_
    refine TW.load rfl rfl one3 rfl ct (fun _ => hcell) ?_
    refine TW.move rfl rfl rfl ct ?_
    refine TW.eql rfl rfl rfl ct rfl ct ?_
    refine TW.nil (KW.pick [0, 1, 5, 17] [(0, _, _), (1, _, _), (5, _, _), (17, _, _)] rfl (KW.then_ ?_))
    refine CW.condP rfl (fun he => ?_) (fun hn => ?_)
    · refine CW.seq (CW.region ?_)
      refine TW.assign rfl rfl rfl ct ?_
      refine TW.nil (KW.pick [0, 1, 4, 5] [(0, _, _), (1, _, _), (4, _, _), (5, _, _)] rfl (KW.then_ ?_))
      refine CW.ret (KW.blockR (KW.thenR (KW.thenR (KW.blockR (KW.thenR ?_)))))
      have : n ∈ l := he ▸ List.getElem_mem hkl
      refine ret1 Try.results13 rfl (⟨Below.refl _ _, by simp [this]⟩)
    · refine CW.skip (KW.blockN (KW.then_ (CW.region ?_)))
      refine TW.move rfl rfl rfl ct ?_
      refine TW.add rfl rfl rfl ct rfl ct (fun _ => by (try dsimp only); omega) ?_
      refine TW.assign rfl rfl rfl ct ?_
      refine TW.nil (KW.pick [0, 1, 5] [(0, _, _), (1, _, _), (5, _, _)] rfl ?_)
      refine KW.round (k + 1) [0, 1, 5] rfl ⟨rfl, by omega, ?_⟩ (by omega)
      intro i hi
      by_cases h : i = k
      · subst h; rw [List.getElem?_eq_getElem hkl]; simpa using hn
      · exact hne i (by omega)
  · refine CW.exit (KW.thenX (KW.thenX (KW.blockX (KW.then_ (CW.seq (CW.region ?_))))))
    refine TW.assign rfl rfl rfl ct ?_
    refine TW.nil (KW.pick [0, 1, 4, 5] [(0, _, _), (1, _, _), (4, _, _), (5, _, _)] rfl (KW.then_ ?_))
    refine CW.ret ?_
    have : n ∉ l := fun hm => by
      obtain ⟨i, hi, e⟩ := List.getElem_of_mem hm
      exact hne i (by omega) (by rw [List.getElem?_eq_getElem hi, e])
    refine ret1 Try.results13 rfl (⟨Below.refl _ _, by simp [this]⟩)

theorem rroot_c {F : Nat → Prop} {v : Value} {l : List Box} {w : World} (i : Int) (hl : SL boxT F w v l) :
    Gives Try.prog 30 #[v, .int .i64 i] w fun u w' => Below w.heap.size w w' ∧ u = .int .i64 (rootI l i) := by
  obtain ⟨A, cap, rfl, h1, h2, h3⟩ := id hl
  refine gives_of (vs := [.slice A l.length cap, .int .i64 i]) [(0, none, _), (1, none, _)] Try.func30 rfl Try.ntmps30 rfl rfl ?_
  refine CW.seq (CW.region ?_)
  refine TW.assign rfl rfl rfl ct ?_
  refine TW.nil (KW.pick [0, 1, 4] [(0, _, _), (1, _, _), (4, _, _)] rfl (KW.then_ ?_))
  refine CW.seq (CW.seq (CW.region ?_))
  refine TW.move rfl rfl rfl ct ?_
  refine TW.move rfl rfl rfl ct ?_
  refine TW.callF (cap := []) rfl rfl en48 rfl ct (Args.cons rfl ct (Args.cons rfl ct Args.nil)) (fun _ => rhas_c i hl) ?_
  rintro w1 hb1
  refine TW.not rfl rfl rfl ct ?_
  refine TW.nil (KW.pick [0, 1, 4, 9] [(0, _, _), (1, _, _), (4, _, _), (9, _, _)] rfl (KW.then_ ?_))
  refine CW.cond rfl (fun hno => ?_) (fun hyes => ?_)
  · refine CW.seq (CW.region ?_)
    refine TW.assign rfl rfl rfl ct ?_
    refine TW.nil (KW.pick [0, 1, 4] [(0, _, _), (1, _, _), (4, _, _)] rfl (KW.then_ ?_))
    refine CW.ret (KW.thenR ?_)
    refine ret1 Try.results30 rfl (⟨hb1, ?_⟩)
    unfold rootI
    rw [if_neg (fun h => by rw [dec_pos h] at hno; cases hno)]
  · have hh : BHas l i := dec_iff.1 (by simpa using hyes)
    obtain ⟨n, rfl⟩ : ∃ n : Nat, i = n := ⟨i.toNat, by have := hh.2.1; omega⟩
    have hn : n < l.length := by have := hh.2.2; omega
    have hfew := hh.1.few
    refine CW.skip (KW.then_ (CW.seq (CW.region ?_)))
    refine TW.move rfl rfl rfl ct ?_
    refine TW.move rfl rfl rfl ct ?_
    refine TW.call0 (cap := []) rfl rfl en59 rfl (Args.cons rfl ct (Args.cons rfl ct Args.nil)) (routside_c n (hl.below hb1) hh.1 hn) ?_
    rintro o w2 ⟨hb2, hown, hfr⟩
    obtain ⟨A2, cap2, rfl, _, _, _⟩ := hown.form
    have ho := own_nats (F := fun _ => True) hown (fun x hx => by have := outside_lt x hx; omega) (fun _ _ => trivial) (by have := outside_len (l := l) (i := n); omega)
    have hol := outside_len (l := l) (i := n)
    refine TW.assign rfl rfl rfl ct ?_
    refine TW.nil (KW.pick [0, 1, 4, 5] [(0, _, _), (1, _, _), (4, _, _), (5, _, _)] rfl (KW.then_ ?_))
    refine CW.seq (CW.seq (CW.region ?_))
    refine TW.move rfl rfl rfl ct ?_
    refine TW.lenSlice rfl rfl Try.underlying25 rfl ct ?_
    refine TW.eql rfl rfl rfl ct rfl ct ?_
    refine TW.nil (KW.pick [0, 1, 4, 5, 15] [(0, _, _), (1, _, _), (4, _, _), (5, _, _), (15, _, _)] rfl (KW.then_ ?_))
    refine CW.condP rfl (fun hz => ?_) (fun hnz => ?_)
    · refine CW.seq (CW.region ?_)
      refine TW.move rfl rfl rfl ct ?_
      refine TW.assign rfl rfl rfl ct ?_
      refine TW.nil (KW.pick [0, 1, 4, 5] [(0, _, _), (1, _, _), (4, _, _), (5, _, _)] rfl (KW.then_ ?_))
      refine CW.ret (KW.thenR ?_)
      refine ret1 Try.results30 rfl (⟨hb1.step hb2, ?_⟩)
      have : outside l n = [] := List.eq_nil_of_length_eq_zero (by omega)
      unfold rootI
      rw [if_pos hh]
      simp [root, this]
    · obtain ⟨p, hp⟩ : ∃ p, (outside l n)[(outside l n).length - 1]? = some p := ⟨_, List.getElem?_eq_getElem (by omega)⟩
      obtain ⟨a2, rfl, hc2, _⟩ := ho.int (i := (outside l n).length - 1) (x := (p : Int)) (by simp [hp])
      have e : (((outside l n).length : Int) - 1).toNat = (outside l n).length - 1 := by omega
      refine CW.skip (KW.then_ (CW.seq (CW.region ?_)))
      refine TW.move rfl rfl rfl ct ?_
      refine TW.move rfl rfl rfl ct ?_
      refine TW.lenSlice rfl rfl Try.underlying25 rfl ct ?_
      refine TW.sub rfl rfl rfl ct rfl ct (fun _ => by (try dsimp only); omega) ?_
      refine TW.indexAddr rfl rfl Try.underlying25 sz3 rfl ct rfl ct (fun _ => by (try dsimp only); omega) ?_
      refine TW.load rfl rfl one3 rfl ct (fun _ => by rw [e]; exact hc2) ?_
      refine TW.assign rfl rfl rfl ct ?_
      refine TW.nil (KW.pick [0, 1, 4, 5] [(0, _, _), (1, _, _), (4, _, _), (5, _, _)] rfl (KW.then_ ?_))
      refine CW.ret ?_
      refine ret1 Try.results30 rfl (⟨hb1.step hb2, ?_⟩)
      unfold rootI
      rw [if_pos hh]
      congr 1
      unfold root
      rw [Int.toNat_natCast, List.getLastD_eq_getLast?, List.getLast?_eq_getElem?, hp]
      rfl
end Go.Proofs.Ytegmhdabedgloaa
