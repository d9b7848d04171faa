import Derived.Test.YthldjchogdefjaaDoorK
namespace Go.Proofs.YthldjchogdefjaaDoor
open Go.PF Go.RowKit

theorem ss_addr {w : World} {A : Option Addr} {n cap : Nat} {l : List ByteArray} (h : SS w (.slice A n cap) l) (hl : 0 < l.length) : ∃ ad, A = some ad := by
  obtain ⟨ad, h1, _⟩ := str_at h (List.getElem?_eq_getElem hl)
  exact ⟨ad, h1⟩

set_option maxRecDepth 20000 in
theorem strings_c {w : World} {v v' : Value} {l l' : List ByteArray} (hl : SS w v l) (hl' : SS w v' l') : Gives Tryd.prog 18 #[v, v'] w fun u w' => Below w.heap.size w w' ∧ u = .bool (dec (l = l')) := by
  obtain ⟨A, cap, rfl, h1⟩ := ss_form hl
  obtain ⟨A', cap', rfl, h1'⟩ := ss_form hl'
  have hmax : l.length ≤ 9223372036854775807 := hl.len.2.2
  refine gives_of (vs := [.slice A l.length cap, .slice A' l'.length cap']) [(0, none, _), (1, none, _)] Tryd.func18 rfl Tryd.ntmps18 rfl rfl ?_
  refine CW.seq (CW.region ?_)
  refine TW.assign rfl rfl rfl ct ?_
  refine TW.nil (KW.pick [0, 1, 4] [(0, _, _), (1, _, _), (4, _, _)] rfl (KW.then_ ?_))
  refine CW.seq (CW.seq (CW.region ?_))
  refine TW.move rfl rfl rfl ct ?_
  refine TW.lenSlice rfl rfl Tryd.underlying30 rfl ct ?_
  refine TW.move rfl rfl rfl ct ?_
  refine TW.lenSlice rfl rfl Tryd.underlying30 rfl ct ?_
  refine TW.neq rfl rfl rfl ct rfl ct ?_
  refine TW.nil (KW.pick [0, 1, 4, 10] [(0, _, _), (1, _, _), (4, _, _), (10, _, _)] rfl (KW.then_ ?_))
  refine CW.condP rfl (fun hne => ?_) (fun heq => ?_)
  · refine CW.seq (CW.region ?_)
    refine TW.assign rfl rfl rfl ct ?_
    refine TW.nil (KW.pick [0, 1, 4] [(0, _, _), (1, _, _), (4, _, _)] rfl (KW.then_ ?_))
    refine CW.ret (KW.thenR ?_)
    refine ret1 Tryd.results18 rfl (⟨Below.refl _ _, by rw [dec_neg (fun e => hne (by rw [e]))]⟩)
  have hlen : l.length = l'.length := by omega
  refine CW.skip (KW.then_ (CW.seq (CW.seq (CW.region ?_))))
  refine TW.assign rfl rfl rfl ct ?_
  refine TW.nil (KW.pick [0, 1, 4, 5] [(0, _, _), (1, _, _), (4, _, _), (5, _, _)] rfl (KW.then_ ?_))
  refine CW.block ?_
  refine CW.loopS (fun k : Nat => [(0, none, .slice A l.length cap), (1, none, .slice A' l'.length cap'), (5, none, .int .i64 (k : Int))])
    (fun k W => k ≤ l.length ∧ Below w.heap.size w W ∧ l.take k = l'.take k) (fun k => l.length - k) 0 [0, 1, 5] ⟨by omega, Below.refl _ _, by simp⟩ rfl ?_
  rintro k W ⟨hk, hbW, hpre⟩
  have hlW := ss_step hl hbW
  have hlW' := ss_step hl' hbW
  refine CW.seq (CW.seq (CW.region ?_))
  refine TW.move rfl rfl rfl ct ?_
  refine TW.move rfl rfl rfl ct ?_
  refine TW.lenSlice rfl rfl Tryd.underlying30 rfl ct ?_
  refine TW.lss rfl rfl rfl ct rfl ct ?_
  refine TW.nil (KW.pick [0, 1, 5, 14] [(0, _, _), (1, _, _), (5, _, _), (14, _, _)] rfl (KW.then_ ?_))
  refine CW.condP rfl (fun hlt => ?_) (fun hge => ?_)
  · have hkl : k < l.length := by omega
    obtain ⟨x, hx⟩ : ∃ x, l[k]? = some x := ⟨l[k], List.getElem?_eq_getElem hkl⟩
    obtain ⟨y, hy⟩ : ∃ y, l'[k]? = some y := ⟨l'[k]'(by omega), List.getElem?_eq_getElem (by omega)⟩
    obtain ⟨ad, rfl⟩ := ss_addr hlW (by omega)
    obtain ⟨ad', rfl⟩ := ss_addr hlW' (by omega)
    refine CW.skip (KW.then_ (CW.seq (CW.block (CW.seq (CW.draw mixed (by kernel_rfl) ?_)))))
    refine DW.move rfl rfl rfl ct ?_
    refine DW.move rfl rfl rfl ct ?_
    refine DW.indexAddr rfl rfl Tryd.underlying30 sz9 rfl ct rfl ct (fun _ => by (try dsimp only); omega) ?_
    refine DW.load rfl rfl one9 rfl ct (fun _ => ss_get hlW hx rfl) ?_
    refine DW.move rfl rfl rfl ct ?_
    refine DW.move rfl rfl rfl ct ?_
    refine DW.indexAddr rfl rfl Tryd.underlying30 sz9 rfl ct rfl ct (fun _ => by (try dsimp only); omega) ?_
    refine DW.load rfl rfl one9 rfl ct (fun _ => ss_get hlW' hy rfl) ?_
    refine DW.neqS rfl rfl rfl ct rfl ct ?_
    refine DW.nil (DW.fin [0, 1, 5, 25] [(0, _, _), (1, _, _), (5, _, _), (25, _, _)] rfl (fun w2 b2 => KW.then_ ?_))
    rw [beq_str]
    refine CW.cond rfl (fun hd => ?_) (fun hs => ?_)
    · refine CW.seq (CW.region ?_)
      refine TW.assign rfl rfl rfl ct ?_
      refine TW.nil (KW.pick [0, 1, 4, 5] [(0, _, _), (1, _, _), (4, _, _), (5, _, _)] rfl (KW.then_ ?_))
      refine CW.ret (KW.blockR (KW.thenR (KW.thenR (KW.blockR (KW.thenR ?_)))))
      refine ret1 Tryd.results18 rfl (⟨hbW.step b2, ?_⟩)
      rw [dec_neg]
      intro e
      subst e
      rw [hx] at hy; cases hy
      rw [dec_pos rfl] at hd
      cases hd
    have hxy : x = y := dec_iff.1 (by simpa using hs)
    refine CW.skip (KW.blockN (KW.then_ (CW.region ?_)))
    refine TW.move rfl rfl rfl ct ?_
    refine TW.add rfl rfl rfl ct rfl ct (fun _ => by (try dsimp only); omega) ?_
    refine TW.assign rfl rfl rfl ct ?_
    refine TW.nil (KW.pick [0, 1, 5] [(0, _, _), (1, _, _), (5, _, _)] rfl ?_)
    refine KW.round (k + 1) [0, 1, 5] rfl ⟨by omega, hbW.step b2, ?_⟩ (by omega)
    rw [List.take_add_one, List.take_add_one, hpre, hx, hy, hxy]
  · refine CW.exit (KW.thenX (KW.thenX (KW.blockX (KW.then_ (CW.seq (CW.region ?_))))))
    refine TW.assign rfl rfl rfl ct ?_
    refine TW.nil (KW.pick [0, 1, 4, 5] [(0, _, _), (1, _, _), (4, _, _), (5, _, _)] rfl (KW.then_ ?_))
    refine CW.ret ?_
    refine ret1 Tryd.results18 rfl (⟨hbW, ?_⟩)
    rw [dec_pos]
    have e1 := List.take_of_length_le (l := l) (i := k) (by omega)
    have e2 := List.take_of_length_le (l := l') (i := k) (by omega)
    rw [← e1, ← e2, hpre]

set_option maxRecDepth 20000 in
theorem in_c {w : World} {v : Value} {l : List ByteArray} (t : ByteArray) (hl : SS w v l) : Gives Tryd.prog 23 #[v, .string t] w fun u w' => Below w.heap.size w w' ∧ u = .bool (dec (t ∈ l)) := by
  obtain ⟨A, cap, rfl, h1⟩ := ss_form hl
  have hmax : l.length ≤ 9223372036854775807 := hl.len.2.2
  refine gives_of (vs := [.slice A l.length cap, .string t]) [(0, none, _), (1, none, _)] Tryd.func23 rfl Tryd.ntmps23 rfl rfl ?_
  refine CW.seq (CW.region ?_)
  refine TW.assign rfl rfl rfl ct ?_
  refine TW.nil (KW.pick [0, 1, 4] [(0, _, _), (1, _, _), (4, _, _)] rfl (KW.then_ ?_))
  refine CW.seq (CW.seq (CW.region ?_))
  refine TW.assign rfl rfl rfl ct ?_
  refine TW.nil (KW.pick [0, 1, 4, 5] [(0, _, _), (1, _, _), (4, _, _), (5, _, _)] rfl (KW.then_ ?_))
  refine CW.block ?_
  refine CW.loopS (fun k : Nat => [(0, none, .slice A l.length cap), (1, none, .string t), (5, none, .int .i64 (k : Int))])
    (fun k W => k ≤ l.length ∧ W = w ∧ ∀ i x, i < k → l[i]? = some x → x ≠ t) (fun k => l.length - k) 0 [0, 1, 5] ⟨by omega, rfl, fun i x hi => by omega⟩ rfl ?_
  rintro k W ⟨hk, rfl, hpre⟩
  refine CW.seq (CW.seq (CW.region ?_))
  refine TW.move rfl rfl rfl ct ?_
  refine TW.move rfl rfl rfl ct ?_
  refine TW.lenSlice rfl rfl Tryd.underlying30 rfl ct ?_
  refine TW.lss rfl rfl rfl ct rfl ct ?_
  refine TW.nil (KW.pick [0, 1, 5, 9] [(0, _, _), (1, _, _), (5, _, _), (9, _, _)] rfl (KW.then_ ?_))
  refine CW.condP rfl (fun hlt => ?_) (fun hge => ?_)
  · have hkl : k < l.length := by omega
    obtain ⟨x, hx⟩ : ∃ x, l[k]? = some x := ⟨l[k], List.getElem?_eq_getElem hkl⟩
    obtain ⟨ad, rfl⟩ := ss_addr hl (by omega)
    refine CW.skip (KW.then_ (CW.seq (CW.block (CW.seq (CW.region ?_)))))
    refine TW.move rfl rfl rfl ct ?_
    refine TW.move rfl rfl rfl ct ?_
    refine TW.indexAddr rfl rfl Tryd.underlying30 sz9 rfl ct rfl ct (fun _ => by (try dsimp only); omega) ?_
    refine TW.load rfl rfl one9 rfl ct (fun _ => ss_get hl hx rfl) ?_
    refine TW.move rfl rfl rfl ct ?_
    refine TW.eqlS rfl rfl rfl ct rfl ct ?_
    refine TW.nil (KW.pick [0, 1, 5, 17] [(0, _, _), (1, _, _), (5, _, _), (17, _, _)] rfl (KW.then_ ?_))
    rw [beq_str]
    refine CW.cond rfl (fun hd => ?_) (fun hs => ?_)
    · refine CW.seq (CW.region ?_)
      refine TW.assign rfl rfl rfl ct ?_
      refine TW.nil (KW.pick [0, 1, 4, 5] [(0, _, _), (1, _, _), (4, _, _), (5, _, _)] rfl (KW.then_ ?_))
      refine CW.ret (KW.blockR (KW.thenR (KW.thenR (KW.blockR (KW.thenR ?_)))))
      have hxt : x = t := dec_iff.1 hd
      refine ret1 Tryd.results23 rfl (⟨Below.refl _ _, by rw [dec_pos]; rw [← hxt]; exact List.mem_of_getElem? hx⟩)
    refine CW.skip (KW.blockN (KW.then_ (CW.region ?_)))
    refine TW.move rfl rfl rfl ct ?_
    refine TW.add rfl rfl rfl ct rfl ct (fun _ => by (try dsimp only); omega) ?_
    refine TW.assign rfl rfl rfl ct ?_
    refine TW.nil (KW.pick [0, 1, 5] [(0, _, _), (1, _, _), (5, _, _)] rfl ?_)
    refine KW.round (k + 1) [0, 1, 5] rfl ⟨by omega, rfl, fun i y hi hy e => ?_⟩ (by omega)
    rcases Nat.lt_or_ge i k with h | h
    · exact hpre i y h hy e
    · obtain rfl : i = k := by omega
      rw [hx] at hy; cases hy
      rw [dec_pos e] at hs
      cases hs
  · refine CW.exit (KW.thenX (KW.thenX (KW.blockX (KW.then_ (CW.seq (CW.region ?_))))))
    refine TW.assign rfl rfl rfl ct ?_
    refine TW.nil (KW.pick [0, 1, 4, 5] [(0, _, _), (1, _, _), (4, _, _), (5, _, _)] rfl (KW.then_ ?_))
    refine CW.ret ?_
    refine ret1 Tryd.results23 rfl (⟨Below.refl _ _, ?_⟩)
    rw [dec_neg]
    intro h
    obtain ⟨i, hi, he⟩ := List.getElem_of_mem h
    exact hpre i t (by omega) (by rw [List.getElem?_eq_getElem hi, he]) rfl

set_option maxRecDepth 20000 in
theorem text_c {w : World} (s : ByteArray) (hs : s.size = 13) (i d : Nat) (hi : i < 13) (hd : d < 10) : Gives Tryd.prog 21 #[.string s, .int .i64 (i : Int), .int .i64 (d : Int)] w fun u w' => Below w.heap.size w w' ∧ u = .string (nbr s i (48 + d)) := by
  have hx1 : (s.extract 0 (i : Int).toNat).size = i := by rw [size_extract' s 0 _ (by omega)]; omega
  have hx3 : (s.extract ((i : Int) + 1).toNat s.size).size = 13 - (i + 1) := by rw [size_extract' s _ _ (by omega)]; omega
  have hx2 : (charB (d : Int)).size = 1 := rfl
  have hx4 : (s.extract 0 (i : Int).toNat ++ charB (d : Int)).size = i + 1 := by rw [ByteArray.size_append, hx1, hx2]
  have hen : Utf8.encode (IntKind.i32.wrap (48 + (d : Int))) = charB (d : Int) := encode_digit (by omega) (by omega)
  refine gives_of (vs := [.string s, .int .i64 (i : Int), .int .i64 (d : Int)]) [(0, none, _), (1, none, _), (2, none, _)] Tryd.func21 rfl Tryd.ntmps21 rfl rfl ?_
  refine CW.seq (CW.region ?_)
  refine TW.assign rfl rfl rfl ct ?_
  refine TW.nil (KW.pick [0, 1, 2, 6] [(0, _, _), (1, _, _), (2, _, _), (6, _, _)] rfl (KW.then_ ?_))
  refine CW.seq (CW.draw mixed (by kernel_rfl) ?_)
  refine DW.move rfl rfl rfl ct ?_
  refine DW.move rfl rfl rfl ct ?_
  refine DW.sliceSH rfl rfl Tryd.underlying9 rfl ct rfl ct (fun _ => by (try dsimp only); omega) ?_
  refine DW.move rfl rfl rfl ct ?_
  refine DW.add rfl rfl rfl ct rfl ct (fun _ => by omega) ?_
  refine DW.conv rfl rfl rfl Tryd.underlying21 rfl ct ?_
  refine DW.convIS rfl rfl rfl Tryd.underlying9 rfl ct ?_
  refine DW.addS rfl rfl rfl ct rfl ct (fun _ => by rw [hen, hx1, hx2]; omega) ?_
  refine DW.move rfl rfl rfl ct ?_
  refine DW.move rfl rfl rfl ct ?_
  refine DW.add rfl rfl rfl ct rfl ct (fun _ => by omega) ?_
  refine DW.sliceSL rfl rfl Tryd.underlying9 rfl ct rfl ct (fun _ => by (try dsimp only); omega) ?_
  refine DW.addS rfl rfl rfl ct rfl ct (fun _ => by rw [hen, hx4, hx3]; omega) ?_
  refine DW.assign rfl rfl rfl ct ?_
  refine DW.nil (DW.fin [0, 1, 2, 6] [(0, _, _), (1, _, _), (2, _, _), (6, _, _)] rfl (fun w1 b1 => KW.then_ ?_))
  refine CW.ret ?_
  rw [hen]
  refine ret1 Tryd.results21 rfl (⟨b1, ?_⟩)
  unfold nbr charB
  rw [Int.toNat_natCast, Int.toNat_natCast, show ((i : Int) + 1).toNat = i + 1 by omega]
end Go.Proofs.YthldjchogdefjaaDoor
