import Derived.Test.YthldjchogdefjaaDoorG
import Derived.DataElems
namespace Go.Proofs.YthldjchogdefjaaDoor
open Go.PF Go.RowKit

/-- a slice of strings that lies in the world -/
abbrev SS (w : World) (v : Value) (l : List ByteArray) : Prop := SL strT (fun k => k < w.heap.size) w v l
theorem ss_of {F : Nat → Prop} {w : World} {v : Value} {l : List ByteArray} (h : SL strT F w v l) : SS w v l := by
  obtain ⟨A, cap, rfl, h1, h2, h3⟩ := id h
  refine ⟨A, cap, rfl, h1, h2, fun i x hx => ?_⟩
  obtain ⟨ad, cs, ha, hF, hc, hr⟩ := h3 i x hx
  refine ⟨ad, cs, ha, ?_, hc, hr⟩
  have h0 := hc 0 (.string x) (by rw [hr.1]; rfl)
  have := block_lt_of_cell h0
  rwa [add_block, add_block] at this
theorem ss_step {w w' : World} {v : Value} {l : List ByteArray} (h : SS w v l) (hb : Below w.heap.size w w') : SS w' v l := ss_of (h.below hb)
theorem str_at {F : Nat → Prop} {w : World} {A : Option Addr} {n cap : Nat} {l : List ByteArray} (h : SL strT F w (.slice A n cap) l) {i : Nat} {x : ByteArray} (hx : l[i]? = some x) :
    ∃ ad, A = some ad ∧ w.cell? (ad.add (i * 1)) = some (.string x) ∧ x.size ≤ 9223372036854775807 := by
  obtain ⟨A', cap', hv, _, _, h3⟩ := h
  simp only [Value.slice.injEq] at hv
  obtain ⟨rfl, _, rfl⟩ := hv
  obtain ⟨ad, cs, ha, _, hc, hr, hi⟩ := h3 i x hx
  exact ⟨ad, ha, by have := hc 0 (.string x) (by rw [hr]; rfl); simpa [strT, Addr.add] using this, hi⟩
theorem own_strs {w : World} {e : TypeId} {v : Value} {l : List ByteArray} (h : OwnS w e 1 v l.length (l.map strV)) (hr : ∀ t ∈ l, t.size ≤ 9223372036854775807) (hn : l.length ≤ 9223372036854775807) : SS w v l := by
  have e1 : ∀ l : List ByteArray, l.flatMap (fun t => [strV t]) = l.map strV := by
    intro l
    induction l with
    | nil => rfl
    | cons a l ih => rw [List.flatMap_cons, ih]; rfl
  exact ss_of (OwnS.toSL (T := strT) (F := fun _ => True) (fun t => [strV t]) (fun x hx => ⟨rfl, hr x hx⟩) (by rw [e1 l]; exact h) (fun _ _ => trivial) hn)
theorem ss_form {w : World} {v : Value} {l : List ByteArray} (h : SS w v l) : ∃ A cap, v = .slice A l.length cap ∧ l.length ≤ cap := by
  obtain ⟨A, cap, e, h1, _⟩ := h
  exact ⟨A, cap, e, h1⟩
theorem ss_get {w : World} {A : Option Addr} {n cap : Nat} {l : List ByteArray} (h : SL strT (fun k => k < w.heap.size) w (.slice A n cap) l) {i : Nat} {x : ByteArray} (hx : l[i]? = some x) {ad : Addr} (ha : A = some ad) : w.cell? (ad.add ((i : Int).toNat * 1)) = some (.string x) := by
  obtain ⟨ad', h1, h2, _⟩ := str_at h hx
  rw [ha] at h1; cases h1
  exact h2

theorem strs_one (l : List ByteArray) : ∀ u ∈ l.map strV, u.oneCell' = true := by
  intro u hu
  rw [List.mem_map] at hu
  obtain ⟨a, _, rfl⟩ := hu
  rfl

def ltB (a b : ByteArray) : Bool := Op.bytesLess a.toList b.toList
def insS (l : List ByteArray) (s : ByteArray) : List ByteArray := l.takeWhile (fun t => ltB t s) ++ s :: l.dropWhile (fun t => ltB t s)
theorem split_at {α : Type} {p : α → Bool} {l : List α} {k : Nat} (hk : k ≤ l.length) (h1 : ∀ i x, i < k → l[i]? = some x → p x = true) (h2 : ∀ x, l[k]? = some x → p x = false) : l.take k = l.takeWhile p ∧ l.drop k = l.dropWhile p := by
  induction l generalizing k with
  | nil => simp
  | cons a l ih =>
    cases k with
    | zero =>
      have := h2 a rfl
      simp [this]
    | succ k =>
      have ha := h1 0 a (by omega) rfl
      have := ih (k := k) (by simp at hk; omega) (fun i x hi hx => h1 (i + 1) x (by omega) (by simpa using hx)) (fun x hx => h2 x (by simpa using hx))
      simp [ha, this]

set_option maxRecDepth 20000 in
theorem insert_c {w : World} {v : Value} {l : List ByteArray} (s : ByteArray) (hl : SS w v l) (hn : l.length ≤ 1000000) : Gives Tryd.prog 35 #[v, .string s] w fun u w' => Below w.heap.size w w' ∧ OwnS w' 9 1 u (insS l s).length ((insS l s).map strV) ∧ ∀ g, u.ownBlock = some g → w.heap.size ≤ g := by
  obtain ⟨A, cap, rfl, hcap⟩ := ss_form hl
  refine gives_of (vs := [.slice A l.length cap, .string s]) [(0, none, _), (1, none, _)] Tryd.func35 rfl Tryd.ntmps35 rfl rfl ?_
  refine CW.seq (CW.region ?_)
  refine TW.assign rfl rfl rfl ct ?_
  refine TW.nil (KW.pick [0, 1, 4] [(0, _, _), (1, _, _), (4, _, _)] rfl (KW.then_ ?_))
  refine CW.seq (CW.region ?_)
  refine TW.assign rfl rfl rfl ct ?_
  refine TW.nil (KW.pick [0, 1, 4, 5] [(0, _, _), (1, _, _), (4, _, _), (5, _, _)] rfl (KW.then_ ?_))
  refine CW.seq (CW.block ?_)
  refine CW.loopS (fun k : Nat => [(0, none, .slice A l.length cap), (1, none, .string s), (5, none, .int .i64 (k : Int))])
    (fun k W => k ≤ l.length ∧ W = w ∧ ∀ i x, i < k → l[i]? = some x → ltB x s = true) (fun k => l.length - k) 0 [0, 1, 5] ⟨by omega, rfl, fun i x hi => by omega⟩ rfl ?_
  rintro k W ⟨hk, rfl, hbef⟩
  by_cases hkl : k < l.length
  · obtain ⟨x, hx⟩ : ∃ x, l[k]? = some x := ⟨l[k], List.getElem?_eq_getElem hkl⟩
    obtain ⟨ad, hA, hcell, _⟩ := str_at hl hx
    subst hA
    refine CW.seq (CW.seq (CW.region ?_))
    refine TW.move rfl rfl rfl ct ?_
    refine TW.move rfl rfl rfl ct ?_
    refine TW.lenSlice rfl rfl Tryd.underlying30 rfl ct ?_
    refine TW.lss rfl rfl rfl ct rfl ct ?_
    refine TW.move rfl rfl rfl ct ?_
    refine TW.move rfl rfl rfl ct ?_
    refine TW.move rfl rfl rfl ct ?_
    refine TW.indexAddr rfl rfl Tryd.underlying30 sz9 rfl id rfl id (fun h => by (try dsimp only); first | omega | (simp [Cnd] at h; omega)) ?_
    refine TW.load rfl rfl one9 rfl id (fun _ => hcell) ?_
    refine TW.move rfl rfl rfl ct ?_
    refine TW.lssS rfl rfl rfl id rfl id ?_
    refine TW.pickAnd rfl rfl rfl ct rfl pAnd0 ?_
    refine TW.nil (KW.pick [0, 1, 5, 17] [(0, _, _), (1, _, _), (5, _, _), (17, _, _)] rfl (KW.then_ ?_))
    refine CW.cond rfl (fun hin => ?_) (fun hout => ?_)
    · simp only [Bool.and_eq_true, decide_eq_true_eq] at hin
      refine CW.skip (KW.then_ (CW.block (CW.region ?_)))
      refine TW.move rfl rfl rfl ct ?_
      refine TW.add rfl rfl rfl ct rfl ct (fun _ => by (try dsimp only); omega) ?_
      refine TW.assign rfl rfl rfl ct ?_
      refine TW.nil (KW.pick [0, 1, 5] [(0, _, _), (1, _, _), (5, _, _)] rfl (KW.blockN ?_))
      refine KW.round (k + 1) [0, 1, 5] rfl ⟨by omega, rfl, fun i y hi hy => ?_⟩ (by omega)
      rcases Nat.lt_or_ge i k with h | h
      · exact hbef i y h hy
      · obtain rfl : i = k := by omega
        rw [hx] at hy; cases hy
        exact hin.2
    · have hst : ltB x s = false := by
        have h1 : decide ((k : Int) < (l.length : Int)) = true := by simp; omega
        rw [h1] at hout
        simpa [ltB] using hout
      have hsp := split_at (p := fun t => ltB t s) hk hbef (fun y hy => by rw [hx] at hy; cases hy; exact hst)
      refine CW.exit (KW.thenX (KW.thenX (KW.blockX (KW.then_ (CW.seq (CW.drawO mixed (by kernel_rfl) ?_))))))
      refine OW.buildSlice0 9 rfl rfl eo30 ?_
      refine DW.move rfl rfl rfl ct ?_
      refine DW.move rfl rfl rfl ct ?_
      refine DW.sliceH rfl rfl Tryd.underlying30 sz9 rfl ct rfl ct (fun _ => by (try dsimp only); omega) ?_
      have hn1 : ∀ (j : Nat) (u : Value), ((l.take k).map strV)[j]? = some u → ∃ ad' : Addr, some ad = some ad' ∧ W.cell? (ad'.add j) = some u := by
        intro j u hu
        simp only [List.getElem?_map, List.getElem?_take] at hu
        by_cases hj : j < k
        · rw [if_pos hj] at hu
          obtain ⟨y, hy, rfl⟩ := Option.map_eq_some_iff.1 hu
          obtain ⟨ad, h1, h2, _⟩ := str_at hl hy
          exact ⟨ad, h1, by rw [Nat.mul_one] at h2; exact h2⟩
        · rw [if_neg hj] at hu; simp at hu
      refine OW.append (m := k) (A := some ad) ((l.take k).map strV) rfl rfl go30 rfl (by kernel_rfl) rfl ct hn1 (by simp; omega) (strs_one _) (by omega) (by omega) ?_
      refine DW.move rfl rfl rfl ct ?_
      refine OW.buildSlice 9 _ rfl rfl rfl eo30 (DArgs.cons rfl ct DArgs.nil) rfl rfl rfl rfl rfl ?_
      refine OW.appendR [strV s] rfl rfl go30 rfl (by kernel_rfl) rfl ct (fun u hu => by simp at hu; subst hu; rfl) (by omega) (by omega) rfl ?_
      refine DW.move rfl rfl rfl ct ?_
      refine DW.move rfl rfl rfl ct ?_
      refine DW.sliceL rfl rfl Tryd.underlying30 sz9 rfl ct rfl ct (fun _ => by (try dsimp only); omega) ?_
      have hn2 : ∀ (j : Nat) (u : Value), ((l.drop k).map strV)[j]? = some u → ∃ ad' : Addr, (if cap = k then some ad else (some ad).map (fun a : Addr => a.add (k * 1))) = some ad' ∧ W.cell? (ad'.add j) = some u := by
        intro j u hu
        simp only [List.getElem?_map, List.getElem?_drop] at hu
        obtain ⟨y, hy, rfl⟩ := Option.map_eq_some_iff.1 hu
        obtain ⟨ad, h1, h2, _⟩ := str_at hl hy
        have hlt := (List.getElem?_eq_some_iff.1 hy).1
        refine ⟨ad.add (k * 1), by rw [if_neg (by omega), h1]; rfl, ?_⟩
        rw [Addr.add_add]
        rw [Nat.mul_one] at h2 ⊢
        exact h2
      refine OW.append (m := l.length - k) (A := if cap = k then some ad else (some ad).map (fun a : Addr => a.add (k * 1))) ((l.drop k).map strV) rfl rfl go30 rfl (by kernel_rfl) rfl ct hn2 (by simp) (strs_one _) (by omega) (by omega) ?_
      refine OW.assign rfl rfl rfl ct (rowE_strong _ _ _ _ _) (by kernel_rfl) ?_
      refine DW.nil (DW.finP [4] rfl fun vs w2 hb2 hs2 => KW.then_ ?_)
      obtain ⟨v4, rfl, h4⟩ := Sats.one hs2
      refine CW.ret ?_
      have h4' : OwnS w2 9 1 v4 (0 + k + 1 + (l.length - k)) (([] ++ (l.take k).map strV ++ [strV s]) ++ (l.drop k).map strV) ∧ ∀ g, v4.ownBlock = some g → W.heap.size ≤ g := h4
      refine ret1 Tryd.results35 rfl (⟨hb2, ?_, h4'.2⟩)
      have e1 : insS l s = l.take k ++ s :: l.drop k := by unfold insS; rw [← hsp.1, ← hsp.2]
      have e2 : (insS l s).length = 0 + k + 1 + (l.length - k) := by rw [e1]; simp; omega
      rw [e2, e1]
      simpa using h4'.1
  · have hke : k = l.length := by omega
    refine CW.seq (CW.seq (CW.region ?_))
    refine TW.move rfl rfl rfl ct ?_
    refine TW.move rfl rfl rfl ct ?_
    refine TW.lenSlice rfl rfl Tryd.underlying30 rfl ct ?_
    refine TW.lss rfl rfl rfl ct rfl ct ?_
    refine TW.move rfl rfl rfl ct ?_
    refine TW.dead (.bool false) rfl (by simp [Cnd, hke]) rfl ?_
    refine TW.dead (.bool false) rfl (by simp [Cnd, hke]) rfl ?_
    refine TW.dead (.bool false) rfl (by simp [Cnd, hke]) rfl ?_
    refine TW.dead (.bool false) rfl (by simp [Cnd, hke]) rfl ?_
    refine TW.dead (.bool false) rfl (by simp [Cnd, hke]) rfl ?_
    refine TW.dead (.bool false) rfl (by simp [Cnd, hke]) rfl ?_
    refine TW.pickAnd rfl rfl rfl ct rfl pAnd0 ?_
    refine TW.nil (KW.pick [0, 1, 5, 17] [(0, _, _), (1, _, _), (5, _, _), (17, _, _)] rfl (KW.then_ ?_))
    refine CW.cond rfl (fun hin => ?_) (fun hout => ?_)
    · exfalso; simp [hke] at hin
    have hsp := split_at (p := fun t => ltB t s) hk hbef (fun y hy => by have := (List.getElem?_eq_some_iff.1 hy).1; omega)
    refine CW.exit (KW.thenX (KW.thenX (KW.blockX (KW.then_ (CW.seq (CW.drawO mixed (by kernel_rfl) ?_))))))
    refine OW.buildSlice0 9 rfl rfl eo30 ?_
    refine DW.move rfl rfl rfl ct ?_
    refine DW.move rfl rfl rfl ct ?_
    refine DW.sliceH rfl rfl Tryd.underlying30 sz9 rfl ct rfl ct (fun _ => by (try dsimp only); omega) ?_
    have hn1 : ∀ (j : Nat) (u : Value), ((l.take k).map strV)[j]? = some u → ∃ ad, A = some ad ∧ W.cell? (ad.add j) = some u := by
      intro j u hu
      simp only [List.getElem?_map, List.getElem?_take] at hu
      by_cases hj : j < k
      · rw [if_pos hj] at hu
        obtain ⟨y, hy, rfl⟩ := Option.map_eq_some_iff.1 hu
        obtain ⟨ad, h1, h2, _⟩ := str_at hl hy
        exact ⟨ad, h1, by rw [Nat.mul_one] at h2; exact h2⟩
      · rw [if_neg hj] at hu; simp at hu
    refine OW.append (m := k) (A := A) ((l.take k).map strV) rfl rfl go30 rfl (by kernel_rfl) rfl ct hn1 (by simp; omega) (strs_one _) (by omega) (by omega) ?_
    refine DW.move rfl rfl rfl ct ?_
    refine OW.buildSlice 9 _ rfl rfl rfl eo30 (DArgs.cons rfl ct DArgs.nil) rfl rfl rfl rfl rfl ?_
    refine OW.appendR [strV s] rfl rfl go30 rfl (by kernel_rfl) rfl ct (fun u hu => by simp at hu; subst hu; rfl) (by omega) (by omega) rfl ?_
    refine DW.move rfl rfl rfl ct ?_
    refine DW.move rfl rfl rfl ct ?_
    refine DW.sliceL rfl rfl Tryd.underlying30 sz9 rfl ct rfl ct (fun _ => by (try dsimp only); omega) ?_
    have hn2 : ∀ (j : Nat) (u : Value), ((l.drop k).map strV)[j]? = some u → ∃ ad, (if cap = k then A else A.map (·.add (k * 1))) = some ad ∧ W.cell? (ad.add j) = some u := by
      intro j u hu
      simp only [List.getElem?_map, List.getElem?_drop] at hu
      obtain ⟨y, hy, rfl⟩ := Option.map_eq_some_iff.1 hu
      obtain ⟨ad, h1, h2, _⟩ := str_at hl hy
      have hlt := (List.getElem?_eq_some_iff.1 hy).1
      refine ⟨ad.add (k * 1), by rw [if_neg (by omega), h1]; rfl, ?_⟩
      rw [Addr.add_add]
      rw [Nat.mul_one] at h2 ⊢
      exact h2
    refine OW.append (m := l.length - k) (A := if cap = k then A else A.map (·.add (k * 1))) ((l.drop k).map strV) rfl rfl go30 rfl (by kernel_rfl) rfl ct hn2 (by simp) (strs_one _) (by omega) (by omega) ?_
    refine OW.assign rfl rfl rfl ct (rowE_strong _ _ _ _ _) (by kernel_rfl) ?_
    refine DW.nil (DW.finP [4] rfl fun vs w2 hb2 hs2 => KW.then_ ?_)
    obtain ⟨v4, rfl, h4⟩ := Sats.one hs2
    refine CW.ret ?_
    have h4' : OwnS w2 9 1 v4 (0 + k + 1 + (l.length - k)) (([] ++ (l.take k).map strV ++ [strV s]) ++ (l.drop k).map strV) ∧ ∀ g, v4.ownBlock = some g → W.heap.size ≤ g := h4
    refine ret1 Tryd.results35 rfl (⟨hb2, ?_, h4'.2⟩)
    have e1 : insS l s = l.take k ++ s :: l.drop k := by unfold insS; rw [← hsp.1, ← hsp.2]
    have e2 : (insS l s).length = 0 + k + 1 + (l.length - k) := by rw [e1]; simp; omega
    rw [e2, e1]
    simpa using h4'.1
end Go.Proofs.YthldjchogdefjaaDoor
