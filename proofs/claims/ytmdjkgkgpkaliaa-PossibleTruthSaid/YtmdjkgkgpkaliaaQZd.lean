import Derived.Test.YtmdjkgkgpkaliaaQZc
import Derived.Test.YtmdjkgkgpkaliaaQOh
set_option linter.unusedSimpArgs false
set_option linter.unusedVariables false
namespace Go.Proofs.Ytmdjkgkgpkaliaa
open Go.PF Go.RowKit Go.Ord

theorem one_of {α : Type} {T : Ty α} {F : Nat → Prop} {w : World} {A : Option Addr} {n c : Nat} {l : List α} (h : SL T F w (.slice A n c) l) {k : Nat} {e : α} (he : l[k]? = some e) :
    SL T F w (.slice (if c = (k : Int).toNat then A else A.map (·.add ((k : Int).toNat * T.n))) (((k : Int) + 1).toNat - (k : Int).toNat) (c - (k : Int).toNat)) [e] := by
  obtain ⟨hk, hke⟩ := List.getElem?_eq_some_iff.1 he
  have h1 := (SL.dropS h (i := k) (by omega)).takeS (i := 1) (by simp; omega)
  rw [List.drop_eq_getElem_cons hk, hke] at h1
  have e1 : (k : Int).toNat = k := by omega
  have e2 : ((k : Int) + 1).toNat - k = 1 := by omega
  rw [e1, e2]
  exact h1
theorem rest_one (e : Ev) (S : List Int) : restS [e] S = if gone S e then [] else [e] := by
  unfold restS
  cases hq : gone S e <;> simp [List.filter, hq]

set_option maxRecDepth 20000 in
set_option maxHeartbeats 1000000 in
theorem truth_law {w : World} {dv lv tv sv : Value} {d : Dist} {l : List Ev} {ts S : List Int} {F G : Nat → Prop} (most : Int) (hd : SD w dv d) (hl : SE w lv l) (ht : SL intT F w tv ts) (hS : SL intT G w sv S) :
    Gives Try.prog 9 #[dv, lv, .int .i64 most, tv, sv] w fun u w' => Below w.heap.size w w' ∧ u = .bool true := by
  obtain ⟨D, dcap, rfl, hdcap⟩ := hd.form
  obtain ⟨B, bcap, rfl, hbcap⟩ := hl.form
  obtain ⟨C, ccap, rfl, _⟩ := ht.form
  obtain ⟨X, xcap, rfl, _⟩ := hS.form
  refine gives_of (vs := [.slice D d.length dcap, .slice B l.length bcap, .int .i64 most, .slice C ts.length ccap, .slice X S.length xcap]) [(0, none, _), (1, none, _), (2, none, _), (3, none, _), (4, none, _)] Try.func9 rfl Try.ntmps9 rfl rfl ?_
  refine CW.seq (CW.region ?_)
  refine TW.assign rfl rfl rfl ct ?_
  refine TW.nil (KW.pick [0, 1, 2, 3, 4, 10] [(0, _, _), (1, _, _), (2, _, _), (3, _, _), (4, _, _), (10, _, _)] rfl (KW.then_ ?_))
  refine CW.seq (CW.region ?_)
  refine TW.call0 (cap := []) rfl rfl en10 rfl Args.nil (head_c) ?_
  rintro y w1 ⟨b1, rfl⟩
  refine TW.assign rfl rfl rfl ct ?_
  refine TW.nil (KW.pick [0, 1, 2, 3, 4, 10, 11] [(0, _, _), (1, _, _), (2, _, _), (3, _, _), (4, _, _), (10, _, _), (11, _, _)] rfl (KW.then_ ?_))
  refine CW.seq (CW.seq (CW.region ?_))
  refine TW.move rfl rfl rfl ct ?_
  refine TW.move rfl rfl rfl ct ?_
  refine TW.move rfl rfl rfl ct ?_
  have hd1 := sd_step hd b1
  have hl1 := se_step hl b1
  refine TW.call0 (cap := []) rfl rfl en18 rfl (Args.cons rfl ct (Args.cons rfl ct (Args.cons rfl ct Args.nil))) (fine_c hd1 hl1) ?_
  rintro y w2 ⟨c2, rfl⟩
  have b2 := b1.step c2
  have hd2 := sd_step hd1 c2
  have hl2 := se_step hl1 c2
  have ht2 := ht.below b2
  have hS2 := hS.below b2
  refine TW.not rfl rfl rfl ct ?_
  refine TW.move rfl rfl rfl ct ?_
  refine TW.move rfl rfl rfl ct ?_
  refine TW.lenSlice rfl rfl Try.underlying24 rfl id ?_
  refine TW.move rfl rfl rfl ct ?_
  refine TW.gtr rfl rfl rfl id rfl id ?_
  refine TW.pickOr rfl rfl rfl ct rfl pOr0 ?_
  refine TW.move rfl rfl rfl ct ?_
  refine TW.move rfl rfl rfl ct ?_
  refine TW.lenSlice rfl rfl Try.underlying24 rfl id ?_
  refine TW.move rfl rfl rfl ct ?_
  refine TW.lenSlice rfl rfl Try.underlying23 rfl id ?_
  refine TW.neq rfl rfl rfl id rfl id ?_
  refine TW.pickOr rfl rfl rfl ct rfl pOr0 ?_
  refine TW.nil (KW.pick [0, 1, 2, 3, 4, 10, 11, 35] [(0, _, _), (1, _, _), (2, _, _), (3, _, _), (4, _, _), (10, _, _), (11, _, _), (35, _, _)] rfl (KW.then_ ?_))
  refine CW.cond rfl (fun hbad => ?_) (fun hgood => ?_)
  · refine CW.seq (CW.region ?_)
    refine TW.move rfl rfl rfl ct ?_
    refine TW.assign rfl rfl rfl ct ?_
    refine TW.nil (KW.pick [0, 1, 2, 3, 4, 10, 11] [(0, _, _), (1, _, _), (2, _, _), (3, _, _), (4, _, _), (10, _, _), (11, _, _)] rfl (KW.then_ ?_))
    refine CW.ret (KW.thenR ?_)
    refine ret1 Try.results9 rfl (⟨b2, rfl⟩)
  have hf : FineP d l most := dec_iff.1 (by cases hq : dec (FineP d l most) <;> simp_all)
  have hgood' : (S.length : Int) ≤ most ∧ ts.length = l.length := by
    rw [dec_pos hf] at hgood
    simp at hgood
    omega
  obtain ⟨hsl, hlen⟩ := hgood'
  have hsm := fine_small hf
  have hm3 := hf.m3
  have hll := hsm.1
  have hIt := ht.allI
  refine CW.skip (KW.then_ (CW.seq (CW.region ?_)))
  refine TW.buildSlice0 43 rfl rfl eo23 ?_
  rintro g3 w3 f3
  refine TW.assign rfl rfl rfl ct ?_
  refine TW.nil (KW.pick [0, 1, 2, 3, 4, 10, 11, 12] [(0, _, _), (1, _, _), (2, _, _), (3, _, _), (4, _, _), (10, _, _), (11, _, _), (12, _, _)] rfl (KW.then_ ?_))
  refine CW.seq (CW.region ?_)
  refine TW.buildSlice0 3 rfl rfl eo24 ?_
  rintro g4 w4 f4
  refine TW.assign rfl rfl rfl ct ?_
  refine TW.nil (KW.pick [0, 1, 2, 3, 4, 10, 11, 12, 13] [(0, _, _), (1, _, _), (2, _, _), (3, _, _), (4, _, _), (10, _, _), (11, _, _), (12, _, _), (13, _, _)] rfl (KW.then_ ?_))
  refine CW.seq (CW.seq (CW.region ?_))
  refine TW.assign rfl rfl rfl ct ?_
  refine TW.nil (KW.pick [0, 1, 2, 3, 4, 10, 11, 12, 13, 14] [(0, _, _), (1, _, _), (2, _, _), (3, _, _), (4, _, _), (10, _, _), (11, _, _), (12, _, _), (13, _, _), (14, _, _)] rfl (KW.then_ ?_))
  refine CW.block ?_
  have hg3 := f3.at_
  have hg4 := f4.at_
  have hs3 := f3.size
  have q4 := f3.below.step f4.below
  have hR4 : RowL evT w4 43 w2.heap.size (.slice (some ⟨g3, 0, none⟩) 0 0) [] := ⟨OwnS.of_blk (f3.blk.next f4.below) rfl (by omega), (fun p hp => by cases hp), (fun g hg => by simp [Value.ownBlock] at hg; omega)⟩
  refine CW.loopS (fun x : Nat × (Value × List (List Value × Ev)) × Value × List Int => [(0, none, .slice D d.length dcap), (1, none, .slice B l.length bcap), (2, none, .int .i64 most), (3, none, .slice C ts.length ccap), (4, none, .slice X S.length xcap), (11, none, .bool true), (12, none, x.2.1.1), (13, none, x.2.2.1), (14, none, .int .i64 (x.1 : Int))])
    (fun x W => x.1 ≤ l.length ∧ Below w2.heap.size w2 W ∧ RowL evT W 43 w2.heap.size x.2.1.1 x.2.1.2 ∧ x.2.1.2.map (·.2) = restS (l.take x.1) S ∧ OwnS W 3 1 x.2.2.1 x.2.2.2.length (x.2.2.2.map (Value.int .i64)) ∧ x.2.2.2.length = x.2.1.2.length ∧ (∀ y ∈ x.2.2.2, I64 y) ∧ (∀ g, x.2.2.1.ownBlock = some g → w2.heap.size ≤ g ∧ x.2.1.1.ownBlock ≠ some g) ∧ ∀ p ∈ x.2.1.2, evT.rep (fun q => q < w2.heap.size) w2 p.1 p.2) (fun x => l.length - x.1)
    (0, (.slice (some ⟨g3, 0, none⟩) 0 0, []), .slice (some ⟨g4, 0, none⟩) 0 0, []) [0, 1, 2, 3, 4, 11, 12, 13, 14] ⟨Nat.zero_le _, q4, hR4, rfl, OwnS.of_blk f4.blk rfl (by omega), rfl, (fun y hy => by cases hy), (fun g hg => by simp [Value.ownBlock] at hg ⊢; omega), (fun p hp => by cases hp)⟩ rfl ?_
  rintro ⟨k, ⟨rv, ps⟩, av, ys⟩ W ⟨hk, hB, hR, hmap, hO, hyl, hyI, hav, hrep⟩
  dsimp only at hk hB hR hmap hO hyl hyI hav hrep
  refine CW.seq (CW.seq (CW.region ?_))
  refine TW.move rfl rfl rfl ct ?_
  refine TW.move rfl rfl rfl ct ?_
  refine TW.lenSlice rfl rfl Try.underlying23 rfl ct ?_
  refine TW.lss rfl rfl rfl ct rfl ct ?_
  refine TW.nil (KW.pick [0, 1, 2, 3, 4, 11, 12, 13, 14, 42] [(0, _, _), (1, _, _), (2, _, _), (3, _, _), (4, _, _), (11, _, _), (12, _, _), (13, _, _), (14, _, _), (42, _, _)] rfl (KW.then_ ?_))
  refine CW.condP rfl (fun hlt => ?_) (fun hge => ?_)
  · obtain ⟨e, he, hem⟩ := getx (l := l) (k := k) (by omega)
    obtain ⟨t, htt, htm⟩ := getx (l := ts) (k := k) (by omega)
    have htk : restS (l.take (k + 1)) S = restS (l.take k) S ++ if gone S e then [] else [e] := by
      unfold restS
      rw [List.take_add_one, he, List.filter_append]
      cases hq : gone S e <;> simp [List.filter, hq]
    have hfew : ps.length ≤ 8 := by
      have h1 : ps.length = (restS (l.take k) S).length := by rw [← hmap]; simp
      have h2 : (restS (l.take k) S).length ≤ (l.take k).length := List.length_filter_le _ _
      have h3 : (l.take k).length ≤ l.length := by rw [List.length_take]; omega
      omega
    obtain ⟨ad, rfl⟩ := hl2.addr (by omega)
    obtain ⟨nv, hcells0, i1, i2, i3, hn0⟩ := SE.get hl2 he
    obtain ⟨C', ncap, rfl, _⟩ := hn0.form
    have hcells : ∀ W', Below w2.heap.size w2 W' → ∀ j v, [Value.int .i64 e.office, .int .i64 e.low, .int .i64 e.high, .slice C' e.needs.length ncap][j]? = some v → W'.cell? ((ad.add ((k : Int).toNat * 4)).add j) = some v := fun W' hb j v hv => (hb.cell (block_lt_of_cell (hcells0 j v hv))).trans (hcells0 j v hv)
    have hlW := se_step hl2 hB
    refine CW.skip (KW.then_ (CW.seq (CW.block (CW.seq (CW.region ?_)))))
    refine TW.move rfl rfl rfl ct ?_
    refine TW.move rfl rfl rfl ct ?_
    refine TW.move rfl rfl rfl ct ?_
    refine TW.add rfl rfl rfl ct rfl ct (fun _ => by (try dsimp only); omega) ?_
    refine TW.sliceLH rfl rfl Try.underlying23 sz43 rfl ct rfl ct rfl ct (fun _ => by (try dsimp only); omega) ?_
    refine TW.move rfl rfl rfl ct ?_
    refine TW.call0 (cap := []) rfl rfl en17 rfl (Args.cons rfl ct (Args.cons rfl ct Args.nil)) (rrest_c (l := [e]) (one_of hlW he) (hS2.below hB) (by simp)) ?_
    rintro rv0 w5 ⟨c5, hr5⟩
    obtain ⟨R0, rc0, rfl, _⟩ := hr5.form
    have hB5 := hB.step c5
    refine TW.lenSlice rfl rfl Try.underlying23 rfl ct ?_
    refine TW.eql rfl rfl rfl ct rfl ct ?_
    refine TW.nil (KW.pick [0, 1, 2, 3, 4, 11, 12, 13, 14, 53] [(0, _, _), (1, _, _), (2, _, _), (3, _, _), (4, _, _), (11, _, _), (12, _, _), (13, _, _), (14, _, _), (53, _, _)] rfl (KW.then_ ?_))
    have hlen1 : ((restS [e] S).length : Int) = if gone S e then 0 else 1 := by
      rw [rest_one]
      cases gone S e <;> rfl
    rw [hlen1]
    refine CW.condP rfl (fun hin => ?_) (fun hout => ?_)
    · have hg0 : gone S e = false := by
        cases hq : gone S e with
        | false => rfl
        | true => rw [hq] at hin; simp at hin
      rw [hg0] at htk
      have hR5 := hR.step c5
      have hO5 := hO.below c5
      refine CW.seq (CW.region ?_)
      refine TW.move rfl rfl rfl ct ?_
      refine TW.move rfl rfl rfl ct ?_
      refine TW.move rfl rfl rfl ct ?_
      refine TW.indexAddr rfl rfl Try.underlying23 sz43 rfl ct rfl ct (fun _ => by (try dsimp only); omega) ?_
      refine TW.loadS _ rfl rfl Try.underlying43 sz43 rfl ct (fun _ => hcells w5 hB5) rfl ?_
      refine TW.buildSlice 43 _ rfl rfl rfl eo23 (Args.cons rfl ct Args.nil) rfl rfl rfl rfl rfl ?_
      rintro g7 w7 f7
      have hR7 := hR5.step f7.below
      have hB7 := hB5.step f7.below
      refine TW.append [.int .i64 e.office, .int .i64 e.low, .int .i64 e.high, .slice C' e.needs.length ncap] rfl rfl go23 rfl hR7.1 rfl rfl (fun j v hj => ⟨⟨g7, 0, none⟩, rfl, f7.blk.fld hj⟩) (fun v hv => by simp at hv; rcases hv with rfl | rfl | rfl | rfl <;> rfl) (by omega) (by omega) ?_
      rintro rv' w8 hO8 hg8 hnew8
      have hn7 : SL intT (RowF w7 rv) w7 (.slice C' e.needs.length ncap) e.needs := (hn0.below hB7).wider (fun q hq => ⟨by have := hB7.size; omega, fun e => by have := hR.2.2 q e; omega⟩)
      have hR8 : RowL evT w8 43 w2.heap.size rv' (ps ++ [([.int .i64 e.office, .int .i64 e.low, .int .i64 e.high, .slice C' e.needs.length ncap], e)]) := hR7.app hO8 hg8 hnew8 ⟨_, rfl, i1, i2, i3, hn7⟩ hB7.size
      have hB8 := hB7.grown hg8 hB7.size hR.2.2
      have hO7 := hO5.below f7.below
      have hOa : OwnS w8 3 1 av ys.length (ys.map (Value.int .i64)) := hO7.kept fun g hg => hg8.block g (hO7.lt hg) (fun e => (hav g hg).2 e.symm)
      have hav8 : ∀ g, av.ownBlock = some g → w2.heap.size ≤ g ∧ rv'.ownBlock ≠ some g := fun g hg => ⟨(hav g hg).1, fun e => by
        rcases hnew8 with h | h
        · exact (hav g hg).2 (by rw [← h]; exact e)
        · rw [h] at e; cases e; exact absurd (hO7.lt hg) (Nat.lt_irrefl _)⟩
      have htW := ht2.below hB8
      obtain ⟨td, rfl⟩ := htW.addr (by omega)
      refine TW.assign rfl rfl rfl ct ?_
      refine TW.nil (KW.pick [0, 1, 2, 3, 4, 11, 12, 13, 14] [(0, _, _), (1, _, _), (2, _, _), (3, _, _), (4, _, _), (11, _, _), (12, _, _), (13, _, _), (14, _, _)] rfl (KW.then_ ?_))
      refine CW.region ?_
      refine TW.move rfl rfl rfl ct ?_
      refine TW.move rfl rfl rfl ct ?_
      refine TW.move rfl rfl rfl ct ?_
      refine TW.indexAddr rfl rfl Try.underlying24 sz3 rfl ct rfl ct (fun _ => by (try dsimp only); omega) ?_
      refine TW.load rfl rfl one3 rfl ct (fun _ => htW.getI htt) ?_
      refine TW.buildSlice 3 _ rfl rfl rfl eo24 (Args.cons rfl ct Args.nil) rfl rfl rfl rfl rfl ?_
      rintro g9 w9 f9
      refine TW.append [.int .i64 t] rfl rfl go24 rfl (hOa.below f9.below) rfl rfl (fun j v hj => ⟨⟨g9, 0, none⟩, rfl, f9.blk.fld hj⟩) (fun v hv => by simp at hv; subst hv; rfl) (by omega) (by omega) ?_
      rintro av' w10 hO10 hg10 hnew10
      refine TW.assign rfl rfl rfl ct ?_
      refine TW.nil (KW.pick [0, 1, 2, 3, 4, 11, 12, 13, 14] [(0, _, _), (1, _, _), (2, _, _), (3, _, _), (4, _, _), (11, _, _), (12, _, _), (13, _, _), (14, _, _)] rfl (KW.blockN (KW.then_ ?_)))
      refine CW.region ?_
      refine TW.move rfl rfl rfl ct ?_
      refine TW.add rfl rfl rfl ct rfl ct (fun _ => by (try dsimp only); omega) ?_
      refine TW.assign rfl rfl rfl ct ?_
      refine TW.nil (KW.pick [0, 1, 2, 3, 4, 11, 12, 13, 14] [(0, _, _), (1, _, _), (2, _, _), (3, _, _), (4, _, _), (11, _, _), (12, _, _), (13, _, _), (14, _, _)] rfl ?_)
      have hB9 := hB8.step f9.below
      have hR9 := hR8.step f9.below
      have hB10 := hB9.grown hg10 hB9.size (fun q hq => (hav8 q hq).1)
      have hrep' : ∀ p ∈ ps ++ [([.int .i64 e.office, .int .i64 e.low, .int .i64 e.high, .slice C' e.needs.length ncap], e)], evT.rep (fun q => q < w2.heap.size) w2 p.1 p.2 := fun p hp => by
        rcases List.mem_append.1 hp with h | h
        · exact hrep p h
        · rw [List.mem_singleton] at h
          subst h
          exact ⟨_, rfl, i1, i2, i3, hn0⟩
      have hR10 : RowL evT w10 43 w2.heap.size rv' (ps ++ [([.int .i64 e.office, .int .i64 e.low, .int .i64 e.high, .slice C' e.needs.length ncap], e)]) := by
        refine ⟨hR9.1.kept fun g hg => hg10.block g (hR9.1.lt hg) (fun e => (hav8 g e.symm).2 hg), fun p hp => ?_, hR9.2.2⟩
        exact evT.wider _ _ _ _ _ (fun q hq => ⟨by have := hB10.size; omega, fun e => by have := hR9.2.2 q e; omega⟩) (evT.mono _ _ _ _ _ (Kept.of_below hB10) (hrep' p hp))
      refine KW.round (k + 1, (rv', ps ++ [([.int .i64 e.office, .int .i64 e.low, .int .i64 e.high, .slice C' e.needs.length ncap], e)]), av', ys ++ [t]) [0, 1, 2, 3, 4, 11, 12, 13, 14] rfl ⟨by show k + 1 ≤ l.length; omega, hB10, hR10, ?_, ?_, ?_, ?_, ?_, hrep'⟩ (by show l.length - (k + 1) < l.length - k; omega)
      · show List.map Prod.snd (ps ++ [_]) = restS (l.take (k + 1)) S
        rw [List.map_append, hmap, htk]
        simp
      · show OwnS w10 3 1 av' (ys ++ [t]).length ((ys ++ [t]).map (Value.int .i64))
        simpa using hO10
      · show (ys ++ [t]).length = (ps ++ [_]).length
        simp [hyl]
      · intro y hy
        rcases List.mem_append.1 hy with h | h
        · exact hyI y h
        · rw [List.mem_singleton] at h; subst h; exact hIt y htm
      · intro g hg
        rcases hnew10 with h | h
        · exact hav8 g (by rw [← h]; exact hg)
        · rw [h] at hg
          cases hg
          exact ⟨hB9.size, fun e => absurd (hR9.1.lt e) (Nat.lt_irrefl _)⟩
    · have hg1 : gone S e = true := by
        cases hq : gone S e with
        | true => rfl
        | false => rw [hq] at hout; simp at hout
      rw [hg1] at htk
      refine CW.skip (KW.blockN (KW.then_ (CW.region ?_)))
      refine TW.move rfl rfl rfl ct ?_
      refine TW.add rfl rfl rfl ct rfl ct (fun _ => by (try dsimp only); omega) ?_
      refine TW.assign rfl rfl rfl ct ?_
      refine TW.nil (KW.pick [0, 1, 2, 3, 4, 11, 12, 13, 14] [(0, _, _), (1, _, _), (2, _, _), (3, _, _), (4, _, _), (11, _, _), (12, _, _), (13, _, _), (14, _, _)] rfl ?_)
      refine KW.round (k + 1, (rv, ps), av, ys) [0, 1, 2, 3, 4, 11, 12, 13, 14] rfl ⟨by show k + 1 ≤ l.length; omega, hB5, hR.step c5, ?_, hO.below c5, hyl, hyI, hav, hrep⟩ (by show l.length - (k + 1) < l.length - k; omega)
      show ps.map (·.2) = restS (l.take (k + 1)) S
      rw [hmap, htk]
      simp
  have hke : k = l.length := by omega
  subst hke
  rw [List.take_length] at hmap
  have hrest : SE W rv (restS l S) := by
    have := hR.sl (by decide)
    rwa [hmap] at this
  have hat : SI W av ys := OwnS.toInts hO hyI (fun g hg => hO.lt hg) (by have : ps.length = (restS l S).length := by rw [← hmap]; simp
                                                                         have : (restS l S).length ≤ l.length := List.length_filter_le _ _
                                                                         omega)
  have hdW := sd_step hd2 hB
  have hlW := se_step hl2 hB
  refine CW.exit (KW.thenX (KW.thenX (KW.blockX (KW.then_ (CW.seq (CW.seq (CW.region ?_)))))))
  refine TW.move rfl rfl rfl ct ?_
  refine TW.move rfl rfl rfl ct ?_
  refine TW.move rfl rfl rfl ct ?_
  refine TW.call0 (cap := []) rfl rfl en26 rfl (Args.cons rfl ct (Args.cons rfl ct (Args.cons rfl ct (Args.cons rfl ct Args.nil)))) (rholds_c hdW hrest hat) ?_
  rintro y w11 ⟨c11, rfl⟩
  have hB11 := hB.step c11
  refine TW.not rfl rfl rfl ct ?_
  refine TW.nil (KW.pick [0, 1, 2, 3, 4, 11, 12, 13, 14, 72] [(0, _, _), (1, _, _), (2, _, _), (3, _, _), (4, _, _), (11, _, _), (12, _, _), (13, _, _), (14, _, _), (72, _, _)] rfl (KW.then_ ?_))
  refine CW.cond rfl (fun hno => ?_) (fun hyes => ?_)
  · refine CW.seq (CW.region ?_)
    refine TW.move rfl rfl rfl ct ?_
    refine TW.assign rfl rfl rfl ct ?_
    refine TW.nil (KW.pick [0, 1, 2, 3, 4, 10, 11, 12, 13, 14] [(0, _, _), (1, _, _), (2, _, _), (3, _, _), (4, _, _), (10, _, _), (11, _, _), (12, _, _), (13, _, _), (14, _, _)] rfl (KW.then_ ?_))
    refine CW.ret (KW.thenR ?_)
    refine ret1 Try.results9 rfl (⟨b2.step hB11, rfl⟩)
  have hH : HoldsI d (restS l S) ys := dec_iff.1 (by simpa using hyes)
  have hp := hH.poss
  refine CW.skip (KW.then_ (CW.seq (CW.region ?_)))
  refine TW.move rfl rfl rfl ct ?_
  refine TW.move rfl rfl rfl ct ?_
  refine TW.move rfl rfl rfl ct ?_
  refine TW.call0 (cap := []) rfl rfl en12 rfl (Args.cons rfl ct (Args.cons rfl ct (Args.cons rfl ct Args.nil))) (worlds_c (sd_step hdW c11) (se_step hlW c11) (fine_needs hf)) ?_
  rintro y w12 ⟨c12, wv, rfl, hw12⟩
  have hB12 := hB11.step c12
  obtain ⟨x, hx, hin⟩ := hf.wok.has hsl hp
  rw [hf.wok.ok hx]
  refine TW.move rfl rfl rfl ct ?_
  refine TW.extract rfl rfl rfl rfl ct ?_
  refine TW.extract rfl rfl rfl rfl ct ?_
  refine TW.assign rfl rfl rfl ct ?_
  refine TW.assign rfl rfl rfl ct ?_
  refine TW.nil (KW.pick [0, 1, 2, 3, 4, 11, 12, 13, 14, 15, 16] [(0, _, _), (1, _, _), (2, _, _), (3, _, _), (4, _, _), (11, _, _), (12, _, _), (13, _, _), (14, _, _), (15, _, _), (16, _, _)] rfl (KW.then_ ?_))
  refine CW.seq (CW.region ?_)
  refine TW.move rfl rfl rfl ct ?_
  refine TW.move rfl rfl rfl ct ?_
  refine TW.known rfl rfl ?_
  refine TW.move rfl rfl rfl ct ?_
  refine TW.known rfl rfl ?_
  refine TW.eql rfl rfl rfl ct rfl ct ?_
  refine TW.pickAnd rfl rfl rfl ct rfl pT ?_
  refine TW.move rfl rfl rfl ct ?_
  refine TW.known rfl rfl ?_
  refine TW.move rfl rfl rfl ct ?_
  refine TW.known rfl rfl ?_
  refine TW.move rfl rfl rfl ct ?_
  refine TW.known rfl rfl ?_
  refine TW.move rfl rfl rfl ct ?_
  refine TW.known rfl rfl ?_
  refine TW.call0 (cap := []) rfl rfl en24 rfl (Args.cons rfl ct (Args.cons rfl ct Args.nil)) (known_c (se_step hl2 hB12) (hS2.below hB12) (by omega) (fine_needs hf) (by omega)) ?_
  rintro kv w13 ⟨c13, hkv⟩
  refine TW.known rfl rfl ?_
  refine TW.call0 (cap := []) rfl rfl en23 rfl (Args.cons rfl ct (Args.cons rfl ct Args.nil)) (rsome_c (hw12.below c13) hkv) ?_
  rintro y w14 ⟨c14, rfl⟩
  have hE : ∃ b ∈ worldsS d l most, ∀ x ∈ S.filter (fun y => decide (y ∈ recsS l)), x ∈ b := ⟨x, hx, hin⟩
  rw [decide_eq_true hE]
  have hb14 := ((c11.step c12).step c13).step c14
  refine TW.pickAnd rfl rfl rfl ct rfl pT ?_
  refine TW.move rfl rfl rfl ct ?_
  refine TW.known rfl rfl ?_
  refine TW.move rfl rfl rfl ct ?_
  refine TW.known rfl rfl ?_
  refine TW.move rfl rfl rfl ct ?_
  refine TW.known rfl rfl ?_
  refine TW.move rfl rfl rfl ct ?_
  refine TW.known rfl rfl ?_
  refine TW.call0 (cap := []) rfl rfl en27 rfl (Args.cons rfl ct (Args.cons rfl ct (Args.cons rfl ct (Args.cons rfl ct Args.nil)))) (oholds_c (sd_step hdW hb14) (se_step hrest hb14) (hat.below hb14)) ?_
  rintro y w15 ⟨c15, rfl⟩
  rw [dec_pos hH]
  refine TW.pickAnd rfl rfl rfl ct rfl pT ?_
  refine TW.assign rfl rfl rfl ct ?_
  refine TW.nil (KW.pick [0, 1, 2, 3, 4, 10, 11, 12, 13, 14, 15, 16] [(0, _, _), (1, _, _), (2, _, _), (3, _, _), (4, _, _), (10, _, _), (11, _, _), (12, _, _), (13, _, _), (14, _, _), (15, _, _), (16, _, _)] rfl (KW.then_ ?_))
  refine CW.ret ?_
  refine ret1 Try.results9 rfl (⟨(b2.step (hB.step hb14)).step c15, rfl⟩)
end Go.Proofs.Ytmdjkgkgpkaliaa
