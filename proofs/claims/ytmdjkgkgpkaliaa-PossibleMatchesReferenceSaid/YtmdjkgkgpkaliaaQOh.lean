/- Texts joined: Ho Hp. -/
import Derived.Test.YtmdjkgkgpkaliaaQSpr
import Derived.Test.YtmdjkgkgpkaliaaQOe
import Derived.Test.YtmdjkgkgpkaliaaQOb
set_option linter.unusedSimpArgs false
set_option linter.unusedVariables false

namespace Go.Proofs.Ytmdjkgkgpkaliaa
open Go.PF Go.RowKit Go.Ord

/-- the time lies in the event's window -/
def Win (e : Ev) (t : Int) : Prop := 0 ≤ t ∧ t ≤ 1000000 ∧ e.low ≤ t ∧ t ≤ e.high
def Two (d : Dist) (l : List Ev) (ts : List Int) (j i : Nat) : Prop := ∀ a s b t, l[j]? = some a → ts[j]? = some s → l[i]? = some b → ts[i]? = some t → Aft d (a, s) (b, t) ∨ Aft d (b, t) (a, s)
structure HoldsI (d : Dist) (l : List Ev) (ts : List Int) : Prop where
  wf : WfE d l
  len : ts.length = l.length
  win : ∀ (i : Nat) e t, l[i]? = some e → ts[i]? = some t → Win e t
  two : ∀ j i, j < i → Two d l ts j i
theorem HoldsI.n {d : Dist} {l : List Ev} {ts : List Int} (h : HoldsI d l ts) : HoldsN d (l.zip ts) := by
  refine ⟨fun x hx => ?_, List.pairwise_iff_getElem.2 fun i j hi hj hij => ?_⟩
  · obtain ⟨i, hi⟩ := List.mem_iff_getElem?.1 hx
    rw [List.getElem?_zip_eq_some] at hi
    exact h.win i _ _ hi.1 hi.2
  · have hi' := List.getElem?_eq_getElem hi
    have hj' := List.getElem?_eq_getElem hj
    rw [List.getElem?_zip_eq_some] at hi' hj'
    exact h.two i j hij _ _ _ _ hi'.1 hi'.2 hj'.1 hj'.2
theorem HoldsI.poss {d : Dist} {l : List Ev} {ts : List Int} (h : HoldsI d l ts) : Poss d l := ⟨l.zip ts, by rw [List.map_fst_zip]; exact Nat.le_of_eq h.len.symm, h.n⟩
theorem Two.symm {d : Dist} {l : List Ev} {ts : List Int} {j i : Nat} (h : Two d l ts j i) : Two d l ts i j := fun a s b t h1 h2 h3 h4 => (h b t a s h3 h4 h1 h2).symm

/-- from an office at a time to an office at a time -/
def AftO (d : Dist) (a : Nat) (x : Int) (b : Nat) (y : Int) : Prop := at2 d a b ≠ -1 ∧ at2 d a b ≤ y - x
theorem aft_iff {d : Dist} {e f : Ev} {x y : Int} : Aft d (e, x) (f, y) ↔ AftO d e.office.toNat x f.office.toNat y := Iff.rfl

set_option maxRecDepth 20000 in
theorem rafter_c {w : World} {v : Value} {d : Dist} (hd : SD w v d) (hw : WfD d) {a b : Nat} {x y : Int} (ha : a < d.length) (hb : b < d.length) (hx : 0 ≤ x ∧ x ≤ 1000000) (hy : 0 ≤ y ∧ y ≤ 1000000) :
    Gives Try.prog 50 #[v, .int .i64 (a : Int), .int .i64 x, .int .i64 (b : Int), .int .i64 y] w fun u w' => Below w.heap.size w w' ∧ u = .bool (dec (AftO d a x b y)) := by
  obtain ⟨A, cap, rfl, _⟩ := hd.form
  obtain ⟨r, hr⟩ : ∃ r, d[a]? = some r := ⟨d[a], List.getElem?_eq_getElem ha⟩
  have hrl := hw.row _ _ hr
  obtain ⟨z, hz⟩ : ∃ z, r[b]? = some z := ⟨r[b]'(by omega), List.getElem?_eq_getElem (by omega)⟩
  have hat : at2 d a b = z := at2_eq hr hz
  have hrng := hw.rng a b ha hb
  rw [hat] at hrng
  obtain ⟨ad, rfl⟩ := hd.addr (by omega)
  obtain ⟨rv, hcell, hrow⟩ := hd.row hr
  obtain ⟨R, rcap, rfl, _⟩ := hrow.form
  obtain ⟨rd, rfl⟩ := hrow.addr (by omega)
  refine gives_of (vs := [.slice (some ad) d.length cap, .int .i64 (a : Int), .int .i64 x, .int .i64 (b : Int), .int .i64 y]) [(0, none, _), (1, none, _), (2, none, _), (3, none, _), (4, none, _)] Try.func50 rfl Try.ntmps50 rfl rfl ?_
  refine CW.seq (CW.region ?_)
  refine TW.assign rfl rfl rfl ct ?_
  refine TW.nil (KW.pick [0, 1, 2, 3, 4, 10] [(0, _, _), (1, _, _), (2, _, _), (3, _, _), (4, _, _), (10, _, _)] rfl (KW.then_ ?_))
  refine CW.seq (CW.region ?_)
  refine TW.move rfl rfl rfl ct ?_
  refine TW.move rfl rfl rfl ct ?_
  refine TW.indexAddr rfl rfl Try.underlying22 sz24 rfl ct rfl ct (fun _ => by (try dsimp only); omega) ?_
  refine TW.load rfl rfl one24 rfl ct (fun _ => hcell) ?_
  refine TW.move rfl rfl rfl ct ?_
  refine TW.indexAddr rfl rfl Try.underlying24 sz3 rfl ct rfl ct (fun _ => by (try dsimp only); omega) ?_
  refine TW.load rfl rfl one3 rfl ct (fun _ => hrow.getI hz) ?_
  refine TW.geq rfl rfl rfl ct rfl ct ?_
  refine TW.move rfl rfl rfl ct ?_
  refine TW.move rfl rfl rfl ct ?_
  refine TW.move rfl rfl rfl ct ?_
  refine TW.sub rfl rfl rfl id rfl id (fun _ => by omega) ?_
  refine TW.move rfl rfl rfl ct ?_
  refine TW.move rfl rfl rfl ct ?_
  refine TW.indexAddr rfl rfl Try.underlying22 sz24 rfl id rfl id (fun h => by (try dsimp only); first | omega | (simp [Cnd] at h; omega)) ?_
  refine TW.load rfl rfl one24 rfl id (fun _ => hcell) ?_
  refine TW.move rfl rfl rfl ct ?_
  refine TW.indexAddr rfl rfl Try.underlying24 sz3 rfl id rfl id (fun h => by (try dsimp only); first | omega | (simp [Cnd] at h; omega)) ?_
  refine TW.load rfl rfl one3 rfl id (fun _ => hrow.getI hz) ?_
  refine TW.geq rfl rfl rfl id rfl id ?_
  refine TW.pickAnd rfl rfl rfl ct rfl pAnd0 ?_
  refine TW.assign rfl rfl rfl ct ?_
  refine TW.nil (KW.pick [0, 1, 2, 3, 4, 10] [(0, _, _), (1, _, _), (2, _, _), (3, _, _), (4, _, _), (10, _, _)] rfl (KW.then_ ?_))
  refine CW.ret ?_
  refine ret1 Try.results50 rfl (⟨Below.refl _ _, ?_⟩)
  congr 1
  unfold AftO
  rw [hat, dec_eq_decide]
  by_cases h1 : z ≥ 0
  · by_cases h2 : y - x ≥ z
    · have h3 : z ≠ -1 := by omega
      simp [h1, h2, h3]
    · simp [h1, h2]
  · have h3 : z = -1 := by omega
    simp [h1, h3]

set_option maxRecDepth 20000 in
set_option maxHeartbeats 1000000 in
theorem rholds_c {w : World} {dv lv tv : Value} {d : Dist} {l : List Ev} {ts : List Int} {F : Nat → Prop} (hd : SD w dv d) (hl : SE w lv l) (ht : SL intT F w tv ts) :
    Gives Try.prog 26 #[dv, lv, .slice none 0 0, tv] w fun u w' => Below w.heap.size w w' ∧ u = .bool (dec (HoldsI d l ts)) := by
  obtain ⟨A, cap, rfl, _⟩ := hd.form
  obtain ⟨B, bcap, rfl, _⟩ := hl.form
  obtain ⟨C, ccap, rfl, _⟩ := ht.form
  have htmax := ht.len.2.2
  refine gives_of (vs := [.slice A d.length cap, .slice B l.length bcap, .slice none 0 0, .slice C ts.length ccap]) [(0, none, _), (1, none, _), (2, none, _), (3, none, _)] Try.func26 rfl Try.ntmps26 rfl rfl ?_
  refine CW.seq (CW.region ?_)
  refine TW.assign rfl rfl rfl ct ?_
  refine TW.nil (KW.pick [0, 1, 2, 3, 8] [(0, _, _), (1, _, _), (2, _, _), (3, _, _), (8, _, _)] rfl (KW.then_ ?_))
  refine CW.seq (CW.seq (CW.region ?_))
  refine TW.move rfl rfl rfl ct ?_
  refine TW.move rfl rfl rfl ct ?_
  refine TW.move rfl rfl rfl ct ?_
  refine TW.call0 (cap := []) rfl rfl en49 rfl (Args.cons rfl ct (Args.cons rfl ct (Args.cons rfl ct Args.nil))) (rvalid27_c hd hl) ?_
  rintro y w1 ⟨c1, rfl⟩
  have hd1 := sd_step hd c1
  have hl1 := se_step hl c1
  refine TW.not rfl rfl rfl ct ?_
  refine TW.move rfl rfl rfl ct ?_
  refine TW.move rfl rfl rfl ct ?_
  refine TW.lenSlice rfl rfl Try.underlying24 rfl id ?_
  refine TW.move rfl rfl rfl ct ?_
  refine TW.lenSlice rfl rfl Try.underlying23 rfl id ?_
  refine TW.neq rfl rfl rfl id rfl id ?_
  refine TW.pickOr rfl rfl rfl ct rfl pOr0 ?_
  refine TW.nil (KW.pick [0, 1, 2, 3, 8, 29] [(0, _, _), (1, _, _), (2, _, _), (3, _, _), (8, _, _), (29, _, _)] rfl (KW.then_ ?_))
  refine CW.cond rfl (fun hbad => ?_) (fun hgood => ?_)
  · refine CW.seq (CW.region ?_)
    refine TW.assign rfl rfl rfl ct ?_
    refine TW.nil (KW.pick [0, 1, 2, 3, 8] [(0, _, _), (1, _, _), (2, _, _), (3, _, _), (8, _, _)] rfl (KW.then_ ?_))
    refine CW.ret (KW.thenR ?_)
    refine ret1 Try.results26 rfl (⟨c1, ?_⟩)
    rw [dec_neg]
    intro h
    simp [dec_pos h.wf] at hbad
    have := h.len
    omega
  have hwf : WfE d l := dec_iff.1 (by cases hq : dec (WfE d l) <;> simp_all)
  have hlen : ts.length = l.length := by
    simp [dec_pos hwf] at hgood
    omega
  have hl16 := hwf.few
  refine CW.skip (KW.then_ (CW.seq (CW.seq (CW.region ?_))))
  refine TW.assign rfl rfl rfl ct ?_
  refine TW.nil (KW.pick [0, 1, 2, 3, 8, 9] [(0, _, _), (1, _, _), (2, _, _), (3, _, _), (8, _, _), (9, _, _)] rfl (KW.then_ ?_))
  refine CW.block ?_
  refine CW.loopS (fun k : Nat => [(0, none, .slice A d.length cap), (1, none, .slice B l.length bcap), (2, none, .slice none 0 0), (3, none, .slice C ts.length ccap), (9, none, .int .i64 (k : Int))])
    (fun k W => k ≤ ts.length ∧ Below w1.heap.size w1 W ∧ ∀ (i : Nat) e t, i < k → l[i]? = some e → ts[i]? = some t → Win e t) (fun k => ts.length - k) 0 [0, 1, 2, 3, 9] ⟨by omega, Below.refl _ _, fun i e t hi => by omega⟩ rfl ?_
  rintro k W ⟨hk, hB, hwin⟩
  refine CW.seq (CW.seq (CW.region ?_))
  refine TW.move rfl rfl rfl ct ?_
  refine TW.move rfl rfl rfl ct ?_
  refine TW.lenSlice rfl rfl Try.underlying24 rfl ct ?_
  refine TW.lss rfl rfl rfl ct rfl ct ?_
  refine TW.nil (KW.pick [0, 1, 2, 3, 9, 33] [(0, _, _), (1, _, _), (2, _, _), (3, _, _), (9, _, _), (33, _, _)] rfl (KW.then_ ?_))
  refine CW.condP rfl (fun hlt => ?_) (fun hge => ?_)
  · obtain ⟨e, he, hem⟩ := getx (l := l) (k := k) (by omega)
    obtain ⟨t, htt, _⟩ := getx (l := ts) (k := k) (by omega)
    have hlW := se_step hl1 hB
    have htW := (ht.below c1).below hB
    obtain ⟨ad, rfl⟩ := hlW.addr (by omega)
    obtain ⟨td, rfl⟩ := htW.addr (by omega)
    obtain ⟨nv, hcells, i1, i2, i3, hneeds⟩ := SE.get hlW he
    refine CW.skip (KW.then_ (CW.seq (CW.block (CW.seq (CW.draw mixed (by kernel_rfl) ?_)))))
    refine DW.move rfl rfl rfl ct ?_
    refine DW.move rfl rfl rfl ct ?_
    refine DW.indexAddr rfl rfl Try.underlying24 sz3 rfl ct rfl ct (fun _ => by (try dsimp only); omega) ?_
    refine DW.load rfl rfl one3 rfl ct (fun _ => htW.getI htt) ?_
    refine DW.lss rfl rfl rfl ct rfl ct ?_
    refine DW.move rfl rfl rfl ct ?_
    refine DW.move rfl rfl rfl ct ?_
    refine DW.move rfl rfl rfl ct ?_
    refine DW.indexAddr rfl rfl Try.underlying24 sz3 rfl id rfl id (fun h => by (try dsimp only); first | omega | (simp [Cnd] at h; omega)) ?_
    refine DW.load rfl rfl one3 rfl id (fun _ => htW.getI htt) ?_
    refine DW.gtr rfl rfl rfl id rfl ct ?_
    refine DW.pickOr rfl rfl rfl ct rfl pOr0 ?_
    refine DW.move rfl rfl rfl ct ?_
    refine DW.move rfl rfl rfl ct ?_
    refine DW.move rfl rfl rfl ct ?_
    refine DW.indexAddr rfl rfl Try.underlying24 sz3 rfl id rfl id (fun h => by (try dsimp only); first | omega | (simp [Cnd] at h; omega)) ?_
    refine DW.load rfl rfl one3 rfl id (fun _ => htW.getI htt) ?_
    refine DW.move rfl rfl rfl ct ?_
    refine DW.move rfl rfl rfl ct ?_
    refine DW.indexAddr rfl rfl Try.underlying23 sz43 rfl id rfl id (fun h => by (try dsimp only); first | omega | (simp [Cnd] at h; omega)) ?_
    refine DW.fieldAddr rfl rfl fo43_1 rfl id ?_
    refine DW.load rfl rfl one3 rfl id (fun _ => hcells 1 _ rfl) ?_
    refine DW.lss rfl rfl rfl id rfl id ?_
    refine DW.pickOr rfl rfl rfl ct rfl pOr0 ?_
    refine DW.move rfl rfl rfl ct ?_
    refine DW.move rfl rfl rfl ct ?_
    refine DW.move rfl rfl rfl ct ?_
    refine DW.indexAddr rfl rfl Try.underlying24 sz3 rfl id rfl id (fun h => by (try dsimp only); first | omega | (simp [Cnd] at h; omega)) ?_
    refine DW.load rfl rfl one3 rfl id (fun _ => htW.getI htt) ?_
    refine DW.move rfl rfl rfl ct ?_
    refine DW.move rfl rfl rfl ct ?_
    refine DW.indexAddr rfl rfl Try.underlying23 sz43 rfl id rfl id (fun h => by (try dsimp only); first | omega | (simp [Cnd] at h; omega)) ?_
    refine DW.fieldAddr rfl rfl fo43_2 rfl id ?_
    refine DW.load rfl rfl one3 rfl id (fun _ => hcells 2 _ rfl) ?_
    refine DW.gtr rfl rfl rfl id rfl id ?_
    refine DW.pickOr rfl rfl rfl ct rfl pOr0 ?_
    refine DW.nil (DW.fin [0, 1, 2, 3, 9, 71] [(0, _, _), (1, _, _), (2, _, _), (3, _, _), (9, _, _), (71, _, _)] rfl (fun w2 b2 => KW.then_ ?_))
    refine CW.cond rfl (fun hbad2 => ?_) (fun hgood2 => ?_)
    · refine CW.seq (CW.region ?_)
      refine TW.assign rfl rfl rfl ct ?_
      refine TW.nil (KW.pick [0, 1, 2, 3, 8, 9] [(0, _, _), (1, _, _), (2, _, _), (3, _, _), (8, _, _), (9, _, _)] rfl (KW.then_ ?_))
      refine CW.ret (KW.blockR (KW.thenR (KW.thenR (KW.blockR (KW.thenR ?_)))))
      refine ret1 Try.results26 rfl (⟨c1.step (hB.step b2), ?_⟩)
      rw [dec_neg]
      intro h
      obtain ⟨q1, q2, q3, q4⟩ := h.win k e t he htt
      simp at hbad2
      omega
    · refine CW.skip (KW.blockN (KW.then_ (CW.region ?_)))
      refine TW.move rfl rfl rfl ct ?_
      refine TW.add rfl rfl rfl ct rfl ct (fun _ => by (try dsimp only); omega) ?_
      refine TW.assign rfl rfl rfl ct ?_
      refine TW.nil (KW.pick [0, 1, 2, 3, 9] [(0, _, _), (1, _, _), (2, _, _), (3, _, _), (9, _, _)] rfl ?_)
      refine KW.round (k + 1) [0, 1, 2, 3, 9] rfl ⟨by omega, hB.step b2, fun i e' t' hi he' ht' => ?_⟩ (by omega)
      by_cases hik : i < k
      · exact hwin i e' t' hik he' ht'
      · have : i = k := by omega
        subst this
        rw [he] at he'
        rw [htt] at ht'
        cases he'
        cases ht'
        simp at hgood2
        unfold Win
        omega
  have hwin' : ∀ (i : Nat) e t, l[i]? = some e → ts[i]? = some t → Win e t := fun i e t h1 h2 => hwin i e t (by have := (List.getElem?_eq_some_iff.1 h2).1; omega) h1 h2
  refine CW.exit (KW.thenX (KW.thenX (KW.blockX (KW.then_ (CW.seq (CW.seq (CW.region ?_)))))))
  refine TW.assign rfl rfl rfl ct ?_
  refine TW.nil (KW.pick [0, 1, 2, 3, 9, 10] [(0, _, _), (1, _, _), (2, _, _), (3, _, _), (9, _, _), (10, _, _)] rfl (KW.then_ ?_))
  refine CW.block ?_
  refine CW.loopS (fun k : Nat => [(0, none, .slice A d.length cap), (1, none, .slice B l.length bcap), (2, none, .slice none 0 0), (3, none, .slice C ts.length ccap), (10, none, .int .i64 (k : Int))])
    (fun k W => k ≤ ts.length ∧ Below w1.heap.size w1 W ∧ ∀ j i, j < i → i < k → Two d l ts j i) (fun k => ts.length - k) 0 [0, 1, 2, 3, 10] ⟨by omega, hB, fun j i _ hi => by omega⟩ rfl ?_
  rintro i W2 ⟨hi, hB2, htwo⟩
  refine CW.seq (CW.seq (CW.region ?_))
  refine TW.move rfl rfl rfl ct ?_
  refine TW.move rfl rfl rfl ct ?_
  refine TW.lenSlice rfl rfl Try.underlying24 rfl ct ?_
  refine TW.lss rfl rfl rfl ct rfl ct ?_
  refine TW.nil (KW.pick [0, 1, 2, 3, 10, 75] [(0, _, _), (1, _, _), (2, _, _), (3, _, _), (10, _, _), (75, _, _)] rfl (KW.then_ ?_))
  refine CW.condP rfl (fun hlt2 => ?_) (fun hge2 => ?_)
  · refine CW.skip (KW.then_ (CW.seq (CW.block (CW.seq (CW.region ?_)))))
    refine TW.assign rfl rfl rfl ct ?_
    refine TW.nil (KW.pick [0, 1, 2, 3, 10, 11] [(0, _, _), (1, _, _), (2, _, _), (3, _, _), (10, _, _), (11, _, _)] rfl (KW.then_ ?_))
    refine CW.block ?_
    refine CW.loopS (fun k : Nat => [(0, none, .slice A d.length cap), (1, none, .slice B l.length bcap), (2, none, .slice none 0 0), (3, none, .slice C ts.length ccap), (10, none, .int .i64 (i : Int)), (11, none, .int .i64 (k : Int))])
      (fun k W => k ≤ i ∧ Below w1.heap.size w1 W ∧ ∀ j, j < k → Two d l ts j i) (fun k => i - k) 0 [0, 1, 2, 3, 10, 11] ⟨by omega, hB2, fun j hj => by omega⟩ rfl ?_
    rintro k W3 ⟨hk3, hB3, htw⟩
    refine CW.seq (CW.seq (CW.region ?_))
    refine TW.move rfl rfl rfl ct ?_
    refine TW.move rfl rfl rfl ct ?_
    refine TW.lss rfl rfl rfl ct rfl ct ?_
    refine TW.nil (KW.pick [0, 1, 2, 3, 10, 11, 80] [(0, _, _), (1, _, _), (2, _, _), (3, _, _), (10, _, _), (11, _, _), (80, _, _)] rfl (KW.then_ ?_))
    refine CW.condP rfl (fun hlt3 => ?_) (fun hge3 => ?_)
    · obtain ⟨e, he, hem⟩ := getx (l := l) (k := i) (by omega)
      obtain ⟨f, hf, hfm⟩ := getx (l := l) (k := k) (by omega)
      obtain ⟨t, htt, _⟩ := getx (l := ts) (k := i) (by omega)
      obtain ⟨s, hss, _⟩ := getx (l := ts) (k := k) (by omega)
      have hwe := hwin' i e t he htt
      have hwf' := hwin' k f s hf hss
      have hee := hwf.each e hem
      have hff := hwf.each f hfm
      have hlW := se_step hl1 hB3
      have hdW := sd_step hd1 hB3
      have htW := (ht.below c1).below hB3
      obtain ⟨ad, rfl⟩ := hlW.addr (by omega)
      obtain ⟨td, rfl⟩ := htW.addr (by omega)
      obtain ⟨nv, hce, _, _, _, _⟩ := SE.get hlW he
      obtain ⟨nv', hcf, _, _, _, _⟩ := SE.get hlW hf
      obtain ⟨eo, e1, e2, e3⟩ := e
      obtain ⟨fo, f1, f2, f3⟩ := f
      obtain ⟨o, rfl⟩ : ∃ o : Nat, eo = o := ⟨eo.toNat, by have : 0 ≤ eo := hee.o1; omega⟩
      obtain ⟨p, rfl⟩ : ∃ o : Nat, fo = o := ⟨fo.toNat, by have : 0 ≤ fo := hff.o1; omega⟩
      have ho : o < d.length := by have : (o : Int) < d.length := hee.o2; omega
      have hp : p < d.length := by have : (p : Int) < d.length := hff.o2; omega
      have hte : 0 ≤ t ∧ t ≤ 1000000 := ⟨hwe.1, hwe.2.1⟩
      have htf : 0 ≤ s ∧ s ≤ 1000000 := ⟨hwf'.1, hwf'.2.1⟩
      refine CW.skip (KW.then_ (CW.seq (CW.block (CW.seq (CW.draw mixed (by kernel_rfl) ?_)))))
      refine DW.move rfl rfl rfl ct ?_
      refine DW.move rfl rfl rfl ct ?_
      refine DW.move rfl rfl rfl ct ?_
      refine DW.indexAddr rfl rfl Try.underlying23 sz43 rfl ct rfl ct (fun _ => by (try dsimp only); omega) ?_
      refine DW.fieldAddr rfl rfl fo43_0 rfl ct ?_
      refine DW.load rfl rfl one3 rfl ct (fun _ => hce 0 _ rfl) ?_
      refine DW.move rfl rfl rfl ct ?_
      refine DW.move rfl rfl rfl ct ?_
      refine DW.indexAddr rfl rfl Try.underlying24 sz3 rfl ct rfl ct (fun _ => by (try dsimp only); omega) ?_
      refine DW.load rfl rfl one3 rfl ct (fun _ => htW.getI htt) ?_
      refine DW.move rfl rfl rfl ct ?_
      refine DW.move rfl rfl rfl ct ?_
      refine DW.indexAddr rfl rfl Try.underlying23 sz43 rfl ct rfl ct (fun _ => by (try dsimp only); omega) ?_
      refine DW.fieldAddr rfl rfl fo43_0 rfl ct ?_
      refine DW.load rfl rfl one3 rfl ct (fun _ => hcf 0 _ rfl) ?_
      refine DW.move rfl rfl rfl ct ?_
      refine DW.move rfl rfl rfl ct ?_
      refine DW.indexAddr rfl rfl Try.underlying24 sz3 rfl ct rfl ct (fun _ => by (try dsimp only); omega) ?_
      refine DW.load rfl rfl one3 rfl ct (fun _ => htW.getI hss) ?_
      refine DW.call (.ex (.bool (dec (AftO d o t p s)))) trivial rfl rfl en50 rfl ct (DArgs.cons rfl ct (DArgs.cons rfl ct (DArgs.cons rfl ct (DArgs.cons rfl ct (DArgs.cons rfl ct DArgs.nil))))) (fun _ w' hb' => (rafter_c (sd_step hdW hb') hwf.wd ho hp hte htf).mono fun u w'' ⟨h1, h2⟩ => ⟨h1, h2⟩) ?_
      refine DW.not rfl rfl rfl ct ?_
      refine DW.move rfl rfl rfl ct ?_
      refine DW.move rfl rfl rfl ct ?_
      refine DW.move rfl rfl rfl ct ?_
      refine DW.move rfl rfl rfl ct ?_
      refine DW.indexAddr rfl rfl Try.underlying23 sz43 rfl id rfl id (fun h => by (try dsimp only); first | omega | (simp [Cnd] at h; omega)) ?_
      refine DW.fieldAddr rfl rfl fo43_0 rfl id ?_
      refine DW.load rfl rfl one3 rfl id (fun _ => hcf 0 _ rfl) ?_
      refine DW.move rfl rfl rfl ct ?_
      refine DW.move rfl rfl rfl ct ?_
      refine DW.indexAddr rfl rfl Try.underlying24 sz3 rfl id rfl id (fun h => by (try dsimp only); first | omega | (simp [Cnd] at h; omega)) ?_
      refine DW.load rfl rfl one3 rfl id (fun _ => htW.getI hss) ?_
      refine DW.move rfl rfl rfl ct ?_
      refine DW.move rfl rfl rfl ct ?_
      refine DW.indexAddr rfl rfl Try.underlying23 sz43 rfl id rfl id (fun h => by (try dsimp only); first | omega | (simp [Cnd] at h; omega)) ?_
      refine DW.fieldAddr rfl rfl fo43_0 rfl id ?_
      refine DW.load rfl rfl one3 rfl id (fun _ => hce 0 _ rfl) ?_
      refine DW.move rfl rfl rfl ct ?_
      refine DW.move rfl rfl rfl ct ?_
      refine DW.indexAddr rfl rfl Try.underlying24 sz3 rfl id rfl id (fun h => by (try dsimp only); first | omega | (simp [Cnd] at h; omega)) ?_
      refine DW.load rfl rfl one3 rfl id (fun _ => htW.getI htt) ?_
      refine DW.call (.ex (.bool (dec (AftO d p s o t)))) trivial rfl rfl en50 rfl ct (DArgs.cons rfl id (DArgs.cons rfl id (DArgs.cons rfl id (DArgs.cons rfl id (DArgs.cons rfl id DArgs.nil))))) (fun _ w' hb' => (rafter_c (sd_step hdW hb') hwf.wd hp ho htf hte).mono fun u w'' ⟨h1, h2⟩ => ⟨h1, h2⟩) ?_
      refine DW.not rfl rfl rfl id ?_
      refine DW.pickAnd rfl rfl rfl ct rfl pAnd0 ?_
      refine DW.nil (DW.fin [0, 1, 2, 3, 10, 11, 126] [(0, _, _), (1, _, _), (2, _, _), (3, _, _), (10, _, _), (11, _, _), (126, _, _)] rfl (fun w4 b4 => KW.then_ ?_))
      refine CW.cond rfl (fun hbad3 => ?_) (fun hgood3 => ?_)
      · refine CW.seq (CW.region ?_)
        refine TW.assign rfl rfl rfl ct ?_
        refine TW.nil (KW.pick [0, 1, 2, 3, 8, 10, 11] [(0, _, _), (1, _, _), (2, _, _), (3, _, _), (8, _, _), (10, _, _), (11, _, _)] rfl (KW.then_ ?_))
        refine CW.ret (KW.blockR (KW.thenR (KW.thenR (KW.blockR (KW.blockR (KW.thenR (KW.thenR (KW.blockR (KW.thenR ?_)))))))))
        refine ret1 Try.results26 rfl (⟨c1.step (hB3.step b4), ?_⟩)
        rw [dec_neg]
        intro h
        have := h.two k i (by omega) _ _ _ _ hf hss he htt
        rw [aft_iff, aft_iff] at this
        have this : AftO d p s o t ∨ AftO d o t p s := this
        rcases this with q | q
        · simp [dec_pos q] at hbad3
        · simp [dec_pos q] at hbad3
      · refine CW.skip (KW.blockN (KW.then_ (CW.region ?_)))
        refine TW.move rfl rfl rfl ct ?_
        refine TW.add rfl rfl rfl ct rfl ct (fun _ => by (try dsimp only); omega) ?_
        refine TW.assign rfl rfl rfl ct ?_
        refine TW.nil (KW.pick [0, 1, 2, 3, 10, 11] [(0, _, _), (1, _, _), (2, _, _), (3, _, _), (10, _, _), (11, _, _)] rfl ?_)
        refine KW.round (k + 1) [0, 1, 2, 3, 10, 11] rfl ⟨by omega, hB3.step b4, fun j hj => ?_⟩ (by omega)
        by_cases hjk : j < k
        · exact htw j hjk
        · have : j = k := by omega
          subst this
          intro a' s' b' t' q1 q2 q3 q4
          rw [hf] at q1; rw [hss] at q2; rw [he] at q3; rw [htt] at q4
          cases q1; cases q2; cases q3; cases q4
          rw [aft_iff, aft_iff]
          show AftO d p s o t ∨ AftO d o t p s
          by_cases h1 : AftO d p s o t
          · exact .inl h1
          · by_cases h2 : AftO d o t p s
            · exact .inr h2
            · rw [dec_neg h1, dec_neg h2] at hgood3
              simp at hgood3
    · refine CW.exit (KW.thenX (KW.thenX (KW.blockX (KW.blockN (KW.then_ (CW.region ?_))))))
      refine TW.move rfl rfl rfl ct ?_
      refine TW.add rfl rfl rfl ct rfl ct (fun _ => by (try dsimp only); omega) ?_
      refine TW.assign rfl rfl rfl ct ?_
      refine TW.nil (KW.pick [0, 1, 2, 3, 10, 11] [(0, _, _), (1, _, _), (2, _, _), (3, _, _), (10, _, _), (11, _, _)] rfl ?_)
      refine KW.round (i + 1) [0, 1, 2, 3, 10] rfl ⟨by omega, hB3, fun j i' hj hi' => ?_⟩ (by omega)
      by_cases hii : i' < i
      · exact htwo j i' hj hii
      · have : i' = i := by omega
        subst this
        exact htw j (by omega)
  have hall : HoldsI d l ts := ⟨hwf, hlen, hwin', fun j i' hj => by
    by_cases hii : i' < ts.length
    · exact htwo j i' hj (by omega)
    · intro a s b t _ _ _ h4
      rw [List.getElem?_eq_none (by omega)] at h4
      cases h4⟩
  refine CW.exit (KW.thenX (KW.thenX (KW.blockX (KW.then_ (CW.seq (CW.seq (CW.region ?_)))))))
  refine TW.assign rfl rfl rfl ct ?_
  refine TW.nil (KW.pick [0, 1, 2, 3, 10, 12] [(0, _, _), (1, _, _), (2, _, _), (3, _, _), (10, _, _), (12, _, _)] rfl (KW.then_ ?_))
  refine CW.block ?_
  refine CW.loopS (fun k : Nat => [(2, none, .slice none 0 0), (12, none, .int .i64 (k : Int))])
    (fun k W => k = 0 ∧ Below w1.heap.size w1 W) (fun k => k) 0 [2, 12] ⟨rfl, hB2⟩ rfl ?_
  rintro k W5 ⟨rfl, hB5⟩
  refine CW.seq (CW.seq (CW.region ?_))
  refine TW.move rfl rfl rfl ct ?_
  refine TW.move rfl rfl rfl ct ?_
  refine TW.lenSlice rfl rfl Try.underlying61 rfl ct ?_
  refine TW.lss rfl rfl rfl ct rfl ct ?_
  refine TW.nil (KW.pick [2, 12, 130] [(2, _, _), (12, _, _), (130, _, _)] rfl (KW.then_ ?_))
  refine CW.condP rfl (fun hlt5 => ?_) (fun hge5 => ?_)
  · exact absurd hlt5 (by decide)
  refine CW.exit (KW.thenX (KW.thenX (KW.blockX (KW.then_ (CW.seq (CW.seq (CW.region ?_)))))))
  refine TW.assign rfl rfl rfl ct ?_
  refine TW.nil (KW.pick [2, 12, 16] [(2, _, _), (12, _, _), (16, _, _)] rfl (KW.then_ ?_))
  refine CW.block ?_
  refine CW.loopS (fun k : Nat => [(2, none, .slice none 0 0), (16, none, .int .i64 (k : Int))])
    (fun k W => k = 0 ∧ Below w1.heap.size w1 W) (fun k => k) 0 [2, 16] ⟨rfl, hB5⟩ rfl ?_
  rintro k W6 ⟨rfl, hB6⟩
  refine CW.seq (CW.seq (CW.region ?_))
  refine TW.move rfl rfl rfl ct ?_
  refine TW.move rfl rfl rfl ct ?_
  refine TW.lenSlice rfl rfl Try.underlying61 rfl ct ?_
  refine TW.lss rfl rfl rfl ct rfl ct ?_
  refine TW.nil (KW.pick [2, 16, 256] [(2, _, _), (16, _, _), (256, _, _)] rfl (KW.then_ ?_))
  refine CW.condP rfl (fun hlt6 => ?_) (fun hge6 => ?_)
  · exact absurd hlt6 (by decide)
  refine CW.exit (KW.thenX (KW.thenX (KW.blockX (KW.then_ (CW.seq (CW.region ?_))))))
  refine TW.assign rfl rfl rfl ct ?_
  refine TW.nil (KW.pick [2, 8, 16] [(2, _, _), (8, _, _), (16, _, _)] rfl (KW.then_ ?_))
  refine CW.ret ?_
  refine ret1 Try.results26 rfl (⟨c1.step hB6, by rw [dec_pos hall]⟩)
end Go.Proofs.Ytmdjkgkgpkaliaa

namespace Go.Proofs.Ytmdjkgkgpkaliaa
open Go.PF Go.RowKit Go.Ord

set_option maxRecDepth 20000 in
theorem oholds1_c {w : World} {dv lv tv : Value} {d : Dist} {l : List Ev} {ts : List Int} {F : Nat → Prop} {g1 g2 g3 : Nat} (hd : SD w dv d) (hl : SE w lv l) (ht : SL intT F w tv ts) (hw : WfE d l) (hB1 : Blk w g1 22 [dv]) (hB2 : Blk w g2 23 [lv]) (hB3 : Blk w g3 24 [tv])
    {i j : Nat} {a b : Ev} {s t : Int} (ha : l[i]? = some a) (hs : ts[i]? = some s) (hb : l[j]? = some b) (htt : ts[j]? = some t) (hws : 0 ≤ s ∧ s ≤ 1000000) (hwt : 0 ≤ t ∧ t ≤ 1000000) :
    Gives Try.prog 52 #[.int .i64 (i : Int), .int .i64 (j : Int), .pointer (some ⟨g1, 0, none⟩), .pointer (some ⟨g2, 0, none⟩), .pointer (some ⟨g3, 0, none⟩)] w fun u w' => Below w.heap.size w w' ∧ u = .bool (dec (Aft d (a, s) (b, t))) := by
  obtain ⟨A, cap, rfl, _⟩ := hd.form
  obtain ⟨B, bcap, rfl, _⟩ := hl.form
  obtain ⟨C, ccap, rfl, _⟩ := ht.form
  have hil := (List.getElem?_eq_some_iff.1 ha).1
  have hjl := (List.getElem?_eq_some_iff.1 hb).1
  have hil' := (List.getElem?_eq_some_iff.1 hs).1
  have hjl' := (List.getElem?_eq_some_iff.1 htt).1
  have hea := hw.each a (List.mem_of_getElem? ha)
  have heb := hw.each b (List.mem_of_getElem? hb)
  obtain ⟨ad, rfl⟩ := hl.addr (by omega)
  obtain ⟨td, rfl⟩ := ht.addr (by omega)
  obtain ⟨nv, hca, _, _, _, _⟩ := SE.get hl ha
  obtain ⟨nv', hcb, _, _, _, _⟩ := SE.get hl hb
  obtain ⟨ao, a1, a2, a3⟩ := a
  obtain ⟨bo, b1, b2, b3⟩ := b
  obtain ⟨o, rfl⟩ : ∃ o : Nat, ao = o := ⟨ao.toNat, by have : 0 ≤ ao := hea.o1; omega⟩
  obtain ⟨p, rfl⟩ : ∃ o : Nat, bo = o := ⟨bo.toNat, by have : 0 ≤ bo := heb.o1; omega⟩
  have ho : o < d.length := by have : (o : Int) < d.length := hea.o2; omega
  have hp : p < d.length := by have : (p : Int) < d.length := heb.o2; omega
  obtain ⟨r, hr⟩ : ∃ r, d[o]? = some r := ⟨d[o], List.getElem?_eq_getElem ho⟩
  have hrl := hw.wd.row _ _ hr
  obtain ⟨z, hz⟩ : ∃ z, r[p]? = some z := ⟨r[p]'(by omega), List.getElem?_eq_getElem (by omega)⟩
  have hat : at2 d o p = z := at2_eq hr hz
  have hrng := hw.wd.rng o p ho hp
  rw [hat] at hrng
  obtain ⟨dd, rfl⟩ := hd.addr (by omega)
  obtain ⟨rv, hcell, hrow⟩ := hd.row hr
  obtain ⟨R, rcap, rfl, _⟩ := hrow.form
  obtain ⟨rd, rfl⟩ := hrow.addr (by omega)
  refine gives_of (vs := [.int .i64 (i : Int), .int .i64 (j : Int), .pointer (some ⟨g1, 0, none⟩), .pointer (some ⟨g2, 0, none⟩), .pointer (some ⟨g3, 0, none⟩)]) [(0, none, _), (1, none, _), (2, none, _), (3, none, _), (4, none, _)] Try.func52 rfl Try.ntmps52 rfl rfl ?_
  refine CW.seq (CW.region ?_)
  refine TW.assign rfl rfl rfl ct ?_
  refine TW.nil (KW.pick [0, 1, 2, 3, 4, 7] [(0, _, _), (1, _, _), (2, _, _), (3, _, _), (4, _, _), (7, _, _)] rfl (KW.then_ ?_))
  refine CW.seq (CW.draw mixed (by kernel_rfl) ?_)
  refine DW.load rfl rfl one22 rfl ct (fun _ => hB1.cell 0) ?_
  refine DW.load rfl rfl one23 rfl ct (fun _ => hB2.cell 0) ?_
  refine DW.move rfl rfl rfl ct ?_
  refine DW.indexAddr rfl rfl Try.underlying23 sz43 rfl ct rfl ct (fun _ => by (try dsimp only); omega) ?_
  refine DW.fieldAddr rfl rfl fo43_0 rfl ct ?_
  refine DW.load rfl rfl one3 rfl ct (fun _ => hca 0 _ rfl) ?_
  refine DW.indexAddr rfl rfl Try.underlying22 sz24 rfl ct rfl ct (fun _ => by (try dsimp only); omega) ?_
  refine DW.load rfl rfl one24 rfl ct (fun _ => hcell) ?_
  refine DW.load rfl rfl one23 rfl ct (fun _ => hB2.cell 0) ?_
  refine DW.move rfl rfl rfl ct ?_
  refine DW.indexAddr rfl rfl Try.underlying23 sz43 rfl ct rfl ct (fun _ => by (try dsimp only); omega) ?_
  refine DW.fieldAddr rfl rfl fo43_0 rfl ct ?_
  refine DW.load rfl rfl one3 rfl ct (fun _ => hcb 0 _ rfl) ?_
  refine DW.indexAddr rfl rfl Try.underlying24 sz3 rfl ct rfl ct (fun _ => by (try dsimp only); omega) ?_
  refine DW.load rfl rfl one3 rfl ct (fun _ => hrow.getI hz) ?_
  refine DW.assign rfl rfl rfl ct ?_
  refine DW.nil (DW.fin [0, 1, 2, 3, 4, 7, 8] [(0, _, _), (1, _, _), (2, _, _), (3, _, _), (4, _, _), (7, _, _), (8, _, _)] rfl (fun w1 c1 => KW.then_ ?_))
  refine CW.seq (CW.draw mixed (by kernel_rfl) ?_)
  refine DW.move rfl rfl rfl ct ?_
  refine DW.geq rfl rfl rfl ct rfl ct ?_
  refine DW.move rfl rfl rfl ct ?_
  have hB31 := hB3.next c1
  have ht1 := ht.below c1
  refine DW.load rfl rfl one24 rfl ct (fun _ => hB31.cell 0) ?_
  refine DW.move rfl rfl rfl ct ?_
  refine DW.indexAddr rfl rfl Try.underlying24 sz3 rfl id rfl id (fun h => by (try dsimp only); first | omega | (simp [Cnd] at h; omega)) ?_
  refine DW.load rfl rfl one3 rfl id (fun _ => ht1.getI htt) ?_
  refine DW.load rfl rfl one24 rfl ct (fun _ => hB31.cell 0) ?_
  refine DW.move rfl rfl rfl ct ?_
  refine DW.indexAddr rfl rfl Try.underlying24 sz3 rfl id rfl id (fun h => by (try dsimp only); first | omega | (simp [Cnd] at h; omega)) ?_
  refine DW.load rfl rfl one3 rfl id (fun _ => ht1.getI hs) ?_
  refine DW.sub rfl rfl rfl id rfl id (fun _ => by omega) ?_
  refine DW.move rfl rfl rfl ct ?_
  refine DW.geq rfl rfl rfl id rfl id ?_
  refine DW.pickAnd rfl rfl rfl ct rfl pAnd0 ?_
  refine DW.assign rfl rfl rfl ct ?_
  refine DW.nil (DW.fin [0, 1, 2, 3, 4, 7, 8] [(0, _, _), (1, _, _), (2, _, _), (3, _, _), (4, _, _), (7, _, _), (8, _, _)] rfl (fun w2 c2 => KW.then_ ?_))
  refine CW.ret ?_
  refine ret1 Try.results52 rfl (⟨c1.step c2, ?_⟩)
  congr 1
  rw [dec_congr aft_iff]
  show _ = dec (AftO d o s p t)
  unfold AftO
  rw [hat, dec_eq_decide]
  by_cases h1 : z ≥ 0
  · by_cases h2 : t - s ≥ z
    · have h3 : z ≠ -1 := by omega
      simp [h1, h2, h3]
    · simp [h1, h2]
  · have h3 : z = -1 := by omega
    simp [h1, h3]

set_option maxRecDepth 20000 in
set_option maxHeartbeats 1000000 in
theorem oholds_c {w : World} {dv lv tv : Value} {d : Dist} {l : List Ev} {ts : List Int} {F : Nat → Prop} (hd : SD w dv d) (hl : SE w lv l) (ht : SL intT F w tv ts) :
    Gives Try.prog 27 #[dv, lv, .slice none 0 0, tv] w fun u w' => Below w.heap.size w w' ∧ u = .bool (dec (HoldsI d l ts)) := by
  obtain ⟨A, cap, rfl, _⟩ := hd.form
  obtain ⟨B, bcap, rfl, _⟩ := hl.form
  obtain ⟨C, ccap, rfl, _⟩ := ht.form
  have htmax := ht.len.2.2
  have hlmax := hl.len.2.2
  refine gives_of (vs := [.slice A d.length cap, .slice B l.length bcap, .slice none 0 0, .slice C ts.length ccap]) [(0, none, _), (1, none, _), (2, none, _), (3, none, _)] Try.func27 rfl Try.ntmps27 rfl rfl ?_
  refine CW.seq (CW.region ?_)
  refine TW.box rfl rfl rfl rfl ?_
  rintro g1 w1 f1
  refine TW.box rfl rfl rfl rfl ?_
  rintro g2 w2 f2
  refine TW.box rfl rfl rfl rfl ?_
  rintro g3 w3 f3
  refine TW.assign rfl rfl rfl ct ?_
  refine TW.nil (KW.pick [0, 1, 2, 3, 4, 5, 7, 8] [(0, _, _), (1, _, _), (2, _, _), (3, _, _), (4, _, _), (5, _, _), (7, _, _), (8, _, _)] rfl (KW.then_ ?_))
  refine CW.seq (CW.seq (CW.region ?_))
  have q2 := f1.below.step f2.below
  have q3 := q2.step f3.below
  have hB1 := (f1.blk.next f2.below).next f3.below
  have hB2 := f2.blk.next f3.below
  have hB3 := f3.blk
  have hd3 := sd_step hd q3
  have hl3 := se_step hl q3
  have ht3 := ht.below q3
  refine TW.load rfl rfl one22 rfl ct (fun _ => hB1.cell 0) ?_
  refine TW.load rfl rfl one23 rfl ct (fun _ => hB2.cell 0) ?_
  refine TW.move rfl rfl rfl ct ?_
  refine TW.call0 (cap := []) rfl rfl en42 rfl (Args.cons rfl ct (Args.cons rfl ct (Args.cons rfl ct Args.nil))) (owell_c hd3 hl3) ?_
  rintro y w4 ⟨c4, rfl⟩
  have q4 := q3.step c4
  have hB14 := hB1.next c4
  have hB24 := hB2.next c4
  have hB34 := hB3.next c4
  refine TW.not rfl rfl rfl ct ?_
  refine TW.move rfl rfl rfl ct ?_
  refine TW.load rfl rfl one24 rfl ct (fun _ => hB34.cell 0) ?_
  refine TW.lenSlice rfl rfl Try.underlying24 rfl id ?_
  refine TW.load rfl rfl one23 rfl ct (fun _ => hB24.cell 0) ?_
  refine TW.lenSlice rfl rfl Try.underlying23 rfl id ?_
  refine TW.neq rfl rfl rfl id rfl id ?_
  refine TW.pickOr rfl rfl rfl ct rfl pOr0 ?_
  refine TW.nil (KW.pick [0, 1, 2, 3, 4, 5, 7, 8, 30] [(0, _, _), (1, _, _), (2, _, _), (3, _, _), (4, _, _), (5, _, _), (7, _, _), (8, _, _), (30, _, _)] rfl (KW.then_ ?_))
  refine CW.cond rfl (fun hbad => ?_) (fun hgood => ?_)
  · refine CW.seq (CW.region ?_)
    refine TW.assign rfl rfl rfl ct ?_
    refine TW.nil (KW.pick [0, 1, 2, 3, 4, 5, 7, 8] [(0, _, _), (1, _, _), (2, _, _), (3, _, _), (4, _, _), (5, _, _), (7, _, _), (8, _, _)] rfl (KW.then_ ?_))
    refine CW.ret (KW.thenR ?_)
    refine ret1 Try.results27 rfl (⟨q4, ?_⟩)
    rw [dec_neg]
    intro h
    simp [dec_pos h.wf] at hbad
    have := h.len
    omega
  have hwf : WfE d l := dec_iff.1 (by cases hq : dec (WfE d l) <;> simp_all)
  have hlen : ts.length = l.length := by
    simp [dec_pos hwf] at hgood
    omega
  have hl16 := hwf.few
  have hd4 := sd_step hd3 c4
  have hl4 := se_step hl3 c4
  have ht4 := ht3.below c4
  refine CW.skip (KW.then_ (CW.seq (CW.seq (CW.region ?_))))
  refine TW.load rfl rfl one23 rfl ct (fun _ => hB24.cell 0) ?_
  refine TW.lenSlice rfl rfl Try.underlying23 rfl ct ?_
  refine TW.move rfl rfl rfl ct ?_
  refine TW.nil (KW.pick [0, 1, 2, 3, 4, 5, 7, 8, 31, 32, 33] [(0, _, _), (1, _, _), (2, _, _), (3, _, _), (4, _, _), (5, _, _), (7, _, _), (8, _, _), (31, _, _), (32, _, _), (33, _, _)] rfl (KW.then_ ?_))
  refine CW.block ?_
  refine CW.loopS (fun k : Nat => [(2, none, .slice none 0 0), (4, none, .pointer (some ⟨g1, 0, none⟩)), (5, none, .pointer (some ⟨g2, 0, none⟩)), (7, none, .pointer (some ⟨g3, 0, none⟩)), (31, none, .slice B l.length bcap), (32, none, .int .i64 (l.length : Int)), (33, none, .int .i64 (k : Int))])
    (fun k W => k ≤ l.length ∧ Below w4.heap.size w4 W ∧ ∀ (i : Nat) e t, i < k → l[i]? = some e → ts[i]? = some t → Win e t) (fun k => l.length - k) 0 [2, 4, 5, 7, 31, 32, 33] ⟨by omega, Below.refl _ _, fun i e t hi => by omega⟩ rfl ?_
  rintro k W ⟨hk, hB, hwin⟩
  refine CW.seq (CW.region ?_)
  refine TW.lss rfl rfl rfl ct rfl ct ?_
  refine TW.nil (KW.pick [2, 4, 5, 7, 31, 32, 33, 34] [(2, _, _), (4, _, _), (5, _, _), (7, _, _), (31, _, _), (32, _, _), (33, _, _), (34, _, _)] rfl (KW.then_ ?_))
  refine CW.seq ?_
  refine CW.condP rfl (fun hlt => ?_) (fun hge => ?_)
  · obtain ⟨e, he, hem⟩ := getx (l := l) (k := k) (by omega)
    obtain ⟨t, htt, _⟩ := getx (l := ts) (k := k) (by omega)
    have hlW := se_step hl4 hB
    have htW := ht4.below hB
    obtain ⟨ad, rfl⟩ := hlW.addr (by omega)
    obtain ⟨td, rfl⟩ := htW.addr (by omega)
    obtain ⟨nv, hcells, i1, i2, i3, hneeds⟩ := SE.get hlW he
    obtain ⟨N, ncap, rfl, _⟩ := hneeds.form
    have hBW := hB34.next hB
    refine CW.skip (KW.then_ (CW.seq (CW.block (CW.seq (CW.region ?_)))))
    refine TW.move rfl rfl rfl ct ?_
    refine TW.indexAddr rfl rfl Try.underlying23 sz43 rfl ct rfl ct (fun _ => by (try dsimp only); omega) ?_
    refine TW.loadS _ rfl rfl Try.underlying43 sz43 rfl ct (fun _ => hcells) rfl ?_
    refine TW.alloc rfl rfl zc43 ?_
    rintro g5 w5 f5
    refine TW.assign rfl rfl rfl ct ?_
    refine TW.storeBlkF rfl rfl rfl f5.blk sz43 rfl rfl rfl ?_
    rintro w6 hB6 hbut6 hsz6
    refine TW.nil (KW.pick [2, 4, 5, 7, 9, 10, 31, 32, 33] [(2, _, _), (4, _, _), (5, _, _), (7, _, _), (9, _, _), (10, _, _), (31, _, _), (32, _, _), (33, _, _)] rfl (KW.then_ ?_))
    refine CW.seq (CW.draw mixed (by kernel_rfl) ?_)
    have ha5 := f5.at_
    have hs5 := f5.size
    have hW6 : Below W.heap.size W w6 := f5.below.grown hbut6 f5.below.size (fun q hq => by cases hq; omega)
    have hBW6 := hBW.next hW6
    have htW6 := htW.below hW6
    refine DW.load rfl rfl one24 rfl ct (fun _ => hBW6.cell 0) ?_
    refine DW.move rfl rfl rfl ct ?_
    refine DW.indexAddr rfl rfl Try.underlying24 sz3 rfl ct rfl ct (fun _ => by (try dsimp only); omega) ?_
    refine DW.load rfl rfl one3 rfl ct (fun _ => htW6.getI htt) ?_
    refine DW.fieldAddr rfl rfl fo43_1 rfl ct ?_
    refine DW.load rfl rfl one3 rfl ct (fun _ => hB6.fld rfl) ?_
    refine DW.maxI rfl rfl rfl ct rfl ct ?_
    refine DW.lss rfl rfl rfl ct rfl ct ?_
    refine DW.move rfl rfl rfl ct ?_
    refine DW.load rfl rfl one24 rfl ct (fun _ => hBW6.cell 0) ?_
    refine DW.move rfl rfl rfl ct ?_
    refine DW.indexAddr rfl rfl Try.underlying24 sz3 rfl id rfl id (fun h => by (try dsimp only); first | omega | (simp [Cnd] at h; omega)) ?_
    refine DW.load rfl rfl one3 rfl id (fun _ => htW6.getI htt) ?_
    refine DW.fieldAddr rfl rfl fo43_2 rfl ct ?_
    refine DW.load rfl rfl one3 rfl id (fun _ => hB6.fld rfl) ?_
    refine DW.minI rfl rfl rfl id rfl ct ?_
    refine DW.gtr rfl rfl rfl id rfl id ?_
    refine DW.pickOr rfl rfl rfl ct rfl pOr0 ?_
    refine DW.nil (DW.fin [2, 4, 5, 7, 9, 10, 31, 32, 33, 55] [(2, _, _), (4, _, _), (5, _, _), (7, _, _), (9, _, _), (10, _, _), (31, _, _), (32, _, _), (33, _, _), (55, _, _)] rfl (fun w7 b7 => KW.then_ ?_))
    have hB7 := hB.step (hW6.step b7)
    refine CW.cond rfl (fun hbad2 => ?_) (fun hgood2 => ?_)
    · refine CW.seq (CW.region ?_)
      refine TW.assign rfl rfl rfl ct ?_
      refine TW.nil (KW.pick [2, 4, 5, 7, 8, 9, 10, 31, 32, 33] [(2, _, _), (4, _, _), (5, _, _), (7, _, _), (8, _, _), (9, _, _), (10, _, _), (31, _, _), (32, _, _), (33, _, _)] rfl (KW.then_ ?_))
      refine CW.ret (KW.blockR (KW.thenR (KW.thenR (KW.blockR (KW.thenR ?_)))))
      refine ret1 Try.results27 rfl (⟨q4.step hB7, ?_⟩)
      rw [dec_neg]
      intro h
      obtain ⟨q1, q2, q3, q4⟩ := h.win k e t he htt
      simp at hbad2
      omega
    · refine CW.skip (KW.blockN (KW.then_ (CW.region ?_)))
      refine TW.add rfl rfl rfl ct rfl ct (fun _ => by (try dsimp only); omega) ?_
      refine TW.move rfl rfl rfl ct ?_
      refine TW.nil (KW.pick [2, 4, 5, 7, 9, 10, 31, 32, 33] [(2, _, _), (4, _, _), (5, _, _), (7, _, _), (9, _, _), (10, _, _), (31, _, _), (32, _, _), (33, _, _)] rfl ?_)
      refine KW.round (k + 1) [2, 4, 5, 7, 31, 32, 33] rfl ⟨by omega, hB7, fun i e' t' hi he' ht' => ?_⟩ (by omega)
      by_cases hik : i < k
      · exact hwin i e' t' hik he' ht'
      · have : i = k := by omega
        subst this
        rw [he] at he'
        rw [htt] at ht'
        cases he'
        cases ht'
        simp at hgood2
        unfold Win
        omega
  have hwin' : ∀ (i : Nat) e t, l[i]? = some e → ts[i]? = some t → Win e t := fun i e t h1 h2 => hwin i e t (by have := (List.getElem?_eq_some_iff.1 h1).1; omega) h1 h2
  have hB2W := hB24.next hB
  refine CW.exit (KW.thenX (KW.thenX (KW.blockX (KW.then_ (CW.seq (CW.region ?_))))))
  refine TW.makeFunc rfl rfl (Args.cons rfl ct (Args.cons rfl ct (Args.cons rfl ct Args.nil))) ?_
  refine TW.assign rfl rfl rfl ct ?_
  refine TW.nil (KW.pick [2, 4, 5, 7, 11, 31, 32, 33] [(2, _, _), (4, _, _), (5, _, _), (7, _, _), (11, _, _), (31, _, _), (32, _, _), (33, _, _)] rfl (KW.then_ ?_))
  refine CW.seq (CW.seq (CW.region ?_))
  refine TW.load rfl rfl one23 rfl ct (fun _ => hB2W.cell 0) ?_
  refine TW.lenSlice rfl rfl Try.underlying23 rfl ct ?_
  refine TW.move rfl rfl rfl ct ?_
  refine TW.nil (KW.pick [2, 4, 5, 7, 11, 31, 32, 33, 59, 60] [(2, _, _), (4, _, _), (5, _, _), (7, _, _), (11, _, _), (31, _, _), (32, _, _), (33, _, _), (59, _, _), (60, _, _)] rfl (KW.then_ ?_))
  refine CW.block ?_
  refine CW.loopS (fun k : Nat => [(2, none, .slice none 0 0), (11, none, .func (.func 52) #[] #[.pointer (some ⟨g1, 0, none⟩), .pointer (some ⟨g2, 0, none⟩), .pointer (some ⟨g3, 0, none⟩)]), (59, none, .int .i64 (l.length : Int)), (60, none, .int .i64 (k : Int))])
    (fun k W => k ≤ l.length ∧ Below w4.heap.size w4 W ∧ ∀ j i, j < i → i < k → Two d l ts j i) (fun k => l.length - k) 0 [2, 11, 59, 60] ⟨by omega, hB, fun j i _ hi => by omega⟩ rfl ?_
  rintro i W2 ⟨hi, hB2', htwo⟩
  refine CW.seq (CW.region ?_)
  refine TW.lss rfl rfl rfl ct rfl ct ?_
  refine TW.nil (KW.pick [2, 11, 59, 60, 61] [(2, _, _), (11, _, _), (59, _, _), (60, _, _), (61, _, _)] rfl (KW.then_ ?_))
  refine CW.seq ?_
  refine CW.condP rfl (fun hlt2 => ?_) (fun hge2 => ?_)
  · refine CW.skip (KW.then_ (CW.seq (CW.block (CW.seq (CW.region ?_)))))
    refine TW.move rfl rfl rfl ct ?_
    refine TW.assign rfl rfl rfl ct ?_
    refine TW.nil (KW.pick [2, 11, 12, 59, 60] [(2, _, _), (11, _, _), (12, _, _), (59, _, _), (60, _, _)] rfl (KW.then_ ?_))
    refine CW.seq (CW.region ?_)
    refine TW.move rfl rfl rfl ct ?_
    refine TW.move rfl rfl rfl ct ?_
    refine TW.nil (KW.pick [2, 11, 12, 59, 60, 63, 64] [(2, _, _), (11, _, _), (12, _, _), (59, _, _), (60, _, _), (63, _, _), (64, _, _)] rfl (KW.then_ ?_))
    refine CW.block ?_
    refine CW.loopS (fun k : Nat => [(2, none, .slice none 0 0), (11, none, .func (.func 52) #[] #[.pointer (some ⟨g1, 0, none⟩), .pointer (some ⟨g2, 0, none⟩), .pointer (some ⟨g3, 0, none⟩)]), (12, none, .int .i64 (i : Int)), (59, none, .int .i64 (l.length : Int)), (60, none, .int .i64 (i : Int)), (63, none, .int .i64 (i : Int)), (64, none, .int .i64 (k : Int))])
      (fun k W => k ≤ i ∧ Below w4.heap.size w4 W ∧ ∀ j, j < k → Two d l ts j i) (fun k => i - k) 0 [2, 11, 12, 59, 60, 63, 64] ⟨by omega, hB2', fun j hj => by omega⟩ rfl ?_
    rintro k W3 ⟨hk3, hB3', htw⟩
    refine CW.seq (CW.region ?_)
    refine TW.lss rfl rfl rfl ct rfl ct ?_
    refine TW.nil (KW.pick [2, 11, 12, 59, 60, 63, 64, 65] [(2, _, _), (11, _, _), (12, _, _), (59, _, _), (60, _, _), (63, _, _), (64, _, _), (65, _, _)] rfl (KW.then_ ?_))
    refine CW.seq ?_
    refine CW.condP rfl (fun hlt3 => ?_) (fun hge3 => ?_)
    · obtain ⟨e, he, hem⟩ := getx (l := l) (k := i) (by omega)
      obtain ⟨f, hf, hfm⟩ := getx (l := l) (k := k) (by omega)
      obtain ⟨t, htt, _⟩ := getx (l := ts) (k := i) (by omega)
      obtain ⟨s, hss, _⟩ := getx (l := ts) (k := k) (by omega)
      have hwe := hwin' i e t he htt
      have hwf' := hwin' k f s hf hss
      have hte : 0 ≤ t ∧ t ≤ 1000000 := ⟨hwe.1, hwe.2.1⟩
      have htf : 0 ≤ s ∧ s ≤ 1000000 := ⟨hwf'.1, hwf'.2.1⟩
      refine CW.skip (KW.then_ (CW.seq (CW.block (CW.seq (CW.region ?_)))))
      refine TW.move rfl rfl rfl ct ?_
      refine TW.assign rfl rfl rfl ct ?_
      refine TW.nil (KW.pick [2, 11, 12, 13, 59, 60, 63, 64] [(2, _, _), (11, _, _), (12, _, _), (13, _, _), (59, _, _), (60, _, _), (63, _, _), (64, _, _)] rfl (KW.then_ ?_))
      refine CW.seq (CW.region ?_)
      refine TW.move rfl rfl rfl ct ?_
      refine TW.move rfl rfl rfl ct ?_
      refine TW.move rfl rfl rfl ct ?_
      refine TW.call0 rfl rfl en52 rfl (Args.cons rfl ct (Args.cons rfl ct Args.nil)) (oholds1_c (sd_step hd4 hB3') (se_step hl4 hB3') (ht4.below hB3') hwf (hB14.next hB3') (hB24.next hB3') (hB34.next hB3') hf hss he htt htf hte) ?_
      rintro y w5 ⟨c5, rfl⟩
      have hB5 := hB3'.step c5
      refine TW.not rfl rfl rfl ct ?_
      refine TW.move rfl rfl rfl ct ?_
      refine TW.move rfl rfl rfl ct ?_
      refine TW.move rfl rfl rfl ct ?_
      refine TW.move rfl rfl rfl ct ?_
      refine TW.callF rfl rfl en52 rfl id (Args.cons rfl id (Args.cons rfl id Args.nil)) (fun _ => oholds1_c (sd_step hd4 hB5) (se_step hl4 hB5) (ht4.below hB5) hwf (hB14.next hB5) (hB24.next hB5) (hB34.next hB5) he htt hf hss hte htf) ?_
      rintro w6 c6
      refine TW.not rfl rfl rfl id ?_
      refine TW.pickAnd rfl rfl rfl ct rfl pAnd0 ?_
      refine TW.nil (KW.pick [2, 11, 12, 13, 59, 60, 63, 64, 78] [(2, _, _), (11, _, _), (12, _, _), (13, _, _), (59, _, _), (60, _, _), (63, _, _), (64, _, _), (78, _, _)] rfl (KW.then_ ?_))
      have hB6 := hB5.step c6
      refine CW.cond rfl (fun hbad3 => ?_) (fun hgood3 => ?_)
      · refine CW.seq (CW.region ?_)
        refine TW.assign rfl rfl rfl ct ?_
        refine TW.nil (KW.pick [2, 8, 11, 12, 13, 59, 60, 63, 64] [(2, _, _), (8, _, _), (11, _, _), (12, _, _), (13, _, _), (59, _, _), (60, _, _), (63, _, _), (64, _, _)] rfl (KW.then_ ?_))
        refine CW.ret (KW.blockR (KW.thenR (KW.thenR (KW.blockR (KW.blockR (KW.thenR (KW.thenR (KW.blockR (KW.thenR ?_)))))))))
        refine ret1 Try.results27 rfl (⟨q4.step hB6, ?_⟩)
        rw [dec_neg]
        intro h
        have := h.two k i (by omega) _ _ _ _ hf hss he htt
        rcases this with q | q
        · simp [dec_pos q] at hbad3
        · simp [dec_pos q] at hbad3
      · refine CW.skip (KW.blockN (KW.then_ (CW.region ?_)))
        refine TW.add rfl rfl rfl ct rfl ct (fun _ => by (try dsimp only); omega) ?_
        refine TW.move rfl rfl rfl ct ?_
        refine TW.nil (KW.pick [2, 11, 12, 13, 59, 60, 63, 64] [(2, _, _), (11, _, _), (12, _, _), (13, _, _), (59, _, _), (60, _, _), (63, _, _), (64, _, _)] rfl ?_)
        refine KW.round (k + 1) [2, 11, 12, 59, 60, 63, 64] rfl ⟨by omega, hB6, fun j hj => ?_⟩ (by omega)
        by_cases hjk : j < k
        · exact htw j hjk
        · have : j = k := by omega
          subst this
          intro a' s' b' t' q1 q2 q3 q4
          rw [hf] at q1; rw [hss] at q2; rw [he] at q3; rw [htt] at q4
          cases q1; cases q2; cases q3; cases q4
          by_cases h1 : Aft d (f, s) (e, t)
          · exact .inl h1
          · by_cases h2 : Aft d (e, t) (f, s)
            · exact .inr h2
            · rw [dec_neg h1, dec_neg h2] at hgood3
              simp at hgood3
    · refine CW.exit (KW.thenX (KW.thenX (KW.blockX (KW.blockN (KW.then_ (CW.region ?_))))))
      refine TW.add rfl rfl rfl ct rfl ct (fun _ => by (try dsimp only); omega) ?_
      refine TW.move rfl rfl rfl ct ?_
      refine TW.nil (KW.pick [2, 11, 12, 59, 60, 63, 64] [(2, _, _), (11, _, _), (12, _, _), (59, _, _), (60, _, _), (63, _, _), (64, _, _)] rfl ?_)
      refine KW.round (i + 1) [2, 11, 59, 60] rfl ⟨by omega, hB3', fun j i' hj hi' => ?_⟩ (by omega)
      by_cases hii : i' < i
      · exact htwo j i' hj hii
      · have : i' = i := by omega
        subst this
        exact htw j (by omega)
  have hall : HoldsI d l ts := ⟨hwf, hlen, hwin', fun j i' hj => by
    by_cases hii : i' < ts.length
    · exact htwo j i' hj (by omega)
    · intro a s b t _ _ _ h4
      rw [List.getElem?_eq_none (by omega)] at h4
      cases h4⟩
  refine CW.exit (KW.thenX (KW.thenX (KW.blockX (KW.then_ (CW.seq (CW.seq (CW.region ?_)))))))
  refine TW.move rfl rfl rfl ct ?_
  refine TW.lenSlice rfl rfl Try.underlying61 rfl ct ?_
  refine TW.move rfl rfl rfl ct ?_
  refine TW.nil (KW.pick [2, 11, 59, 60, 81, 82, 83] [(2, _, _), (11, _, _), (59, _, _), (60, _, _), (81, _, _), (82, _, _), (83, _, _)] rfl (KW.then_ ?_))
  refine CW.block ?_
  refine CW.loopS (fun k : Nat => [(2, none, .slice none 0 0), (81, none, .slice none 0 0), (82, none, .int .i64 0), (83, none, .int .i64 (k : Int))])
    (fun k W => k = 0 ∧ Below w4.heap.size w4 W) (fun k => k) 0 [2, 81, 82, 83] ⟨rfl, hB2'⟩ rfl ?_
  rintro k W5 ⟨rfl, hB5⟩
  refine CW.seq (CW.region ?_)
  refine TW.lss rfl rfl rfl ct rfl ct ?_
  refine TW.nil (KW.pick [2, 81, 82, 83, 84] [(2, _, _), (81, _, _), (82, _, _), (83, _, _), (84, _, _)] rfl (KW.then_ ?_))
  refine CW.seq ?_
  refine CW.condP rfl (fun hlt5 => ?_) (fun hge5 => ?_)
  · exact absurd hlt5 (by decide)
  refine CW.exit (KW.thenX (KW.thenX (KW.blockX (KW.then_ (CW.seq (CW.region ?_))))))
  refine TW.assign rfl rfl rfl ct ?_
  refine TW.nil (KW.pick [2, 8, 81, 82, 83] [(2, _, _), (8, _, _), (81, _, _), (82, _, _), (83, _, _)] rfl (KW.then_ ?_))
  refine CW.ret ?_
  refine ret1 Try.results27 rfl (⟨q4.step hB5, by rw [dec_pos hall]⟩)

set_option maxRecDepth 20000 in
theorem rrest_c {w : World} {v u : Value} {l : List Ev} {S : List Int} {F : Nat → Prop} (hl : SE w v l) (hS : SL intT F w u S) (hsm : l.length ≤ 1000000) :
    Gives Try.prog 17 #[v, u] w fun x w' => Below w.heap.size w w' ∧ SE w' x (restS l S) := by
  obtain ⟨A, cap, rfl, _⟩ := hl.form
  obtain ⟨B, bcap, rfl, _⟩ := hS.form
  refine gives_of (vs := [.slice A l.length cap, .slice B S.length bcap]) [(0, none, _), (1, none, _)] Try.func17 rfl Try.ntmps17 rfl rfl ?_
  refine CW.seq (CW.region ?_)
  refine TW.assign rfl rfl rfl ct ?_
  refine TW.nil (KW.pick [0, 1, 4] [(0, _, _), (1, _, _), (4, _, _)] rfl (KW.then_ ?_))
  refine CW.seq (CW.region ?_)
  refine TW.buildSlice0 43 rfl rfl eo23 ?_
  rintro g1 w1 f1
  have hg1 := f1.at_
  refine TW.assign rfl rfl rfl ct ?_
  refine TW.nil (KW.pick [0, 1, 4, 5] [(0, _, _), (1, _, _), (4, _, _), (5, _, _)] rfl (KW.then_ ?_))
  refine CW.seq (CW.seq (CW.region ?_))
  refine TW.assign rfl rfl rfl ct ?_
  refine TW.nil (KW.pick [0, 1, 4, 5, 6] [(0, _, _), (1, _, _), (4, _, _), (5, _, _), (6, _, _)] rfl (KW.then_ ?_))
  refine CW.block ?_
  refine CW.loopS (fun x : Nat × Value × List (List Value × Ev) => [(0, none, .slice A l.length cap), (1, none, .slice B S.length bcap), (5, none, x.2.1), (6, none, .int .i64 (x.1 : Int))])
    (fun x W' => x.1 ≤ l.length ∧ Below w.heap.size w W' ∧ RowL evT W' 43 w.heap.size x.2.1 x.2.2 ∧ x.2.2.map (·.2) = restS (l.take x.1) S) (fun x => l.length - x.1) (0, .slice (some ⟨g1, 0, none⟩) 0 0, []) [0, 1, 5, 6] ⟨Nat.zero_le _, f1.below, ⟨OwnS.of_blk f1.blk rfl (by omega), (fun p hp => by cases hp), (fun g hg => by simp [Value.ownBlock] at hg; omega)⟩, rfl⟩ rfl ?_
  rintro ⟨k, rv, ps⟩ W ⟨hk, hB, hR, hmap⟩
  dsimp only at hk hB hR hmap
  refine CW.seq (CW.seq (CW.region ?_))
  refine TW.move rfl rfl rfl ct ?_
  refine TW.move rfl rfl rfl ct ?_
  refine TW.lenSlice rfl rfl Try.underlying23 rfl ct ?_
  refine TW.lss rfl rfl rfl ct rfl ct ?_
  refine TW.nil (KW.pick [0, 1, 5, 6, 13] [(0, _, _), (1, _, _), (5, _, _), (6, _, _), (13, _, _)] rfl (KW.then_ ?_))
  refine CW.condP rfl (fun hlt => ?_) (fun hge => ?_)
  · have hkl : k < l.length := by omega
    obtain ⟨e, he, hem⟩ := getx (l := l) (k := k) (by omega)
    obtain ⟨ad, rfl⟩ := hl.addr (by omega)
    obtain ⟨nv, hcells0, i1, i2, i3, hn0⟩ := SE.get hl he
    obtain ⟨C, ncap, rfl, _⟩ := hn0.form
    have hcells : ∀ j v, [Value.int .i64 e.office, .int .i64 e.low, .int .i64 e.high, .slice C e.needs.length ncap][j]? = some v → W.cell? ((ad.add ((k : Int).toNat * 4)).add j) = some v := fun j v hv => (hB.cell (block_lt_of_cell (hcells0 j v hv))).trans (hcells0 j v hv)
    have hneeds := hn0.below hB
    have hnmax := hneeds.len.2.2
    have cellsW : ∀ W', Below W.heap.size W W' → ∀ j v, [Value.int .i64 e.office, .int .i64 e.low, .int .i64 e.high, .slice C e.needs.length ncap][j]? = some v → W'.cell? ((ad.add ((k : Int).toNat * 4)).add j) = some v := fun W' hb j v hv => (hb.cell (block_lt_of_cell (hcells j v hv))).trans (hcells j v hv)
    have htk : restS (l.take (k + 1)) S = restS (l.take k) S ++ if gone S e then [] else [e] := by
      unfold restS
      rw [List.take_add_one, he, List.filter_append]
      cases hq : gone S e <;> simp [List.filter, hq]
    refine CW.skip (KW.then_ (CW.seq (CW.block (CW.seq (CW.region ?_)))))
    refine TW.assign rfl rfl rfl ct ?_
    refine TW.nil (KW.pick [0, 1, 5, 6, 7] [(0, _, _), (1, _, _), (5, _, _), (6, _, _), (7, _, _)] rfl (KW.then_ ?_))
    refine CW.seq (CW.seq (CW.region ?_))
    refine TW.assign rfl rfl rfl ct ?_
    refine TW.nil (KW.pick [0, 1, 5, 6, 7, 8] [(0, _, _), (1, _, _), (5, _, _), (6, _, _), (7, _, _), (8, _, _)] rfl (KW.then_ ?_))
    refine CW.block ?_
    refine CW.loopS (fun j : Nat => [(0, none, .slice (some ad) l.length cap), (1, none, .slice B S.length bcap), (5, none, rv), (6, none, .int .i64 (k : Int)), (7, none, .bool (!(e.needs.take j).any fun r => S.contains r)), (8, none, .int .i64 (j : Int))])
      (fun j W' => j ≤ e.needs.length ∧ Below W.heap.size W W') (fun j => e.needs.length - j) 0 [0, 1, 5, 6, 7, 8] ⟨Nat.zero_le _, Below.refl _ _⟩ rfl ?_
    rintro j W2 ⟨hj, hB2⟩
    refine CW.seq (CW.seq (CW.region ?_))
    refine TW.move rfl rfl rfl ct ?_
    refine TW.move rfl rfl rfl ct ?_
    refine TW.move rfl rfl rfl ct ?_
    refine TW.indexAddr rfl rfl Try.underlying23 sz43 rfl ct rfl ct (fun _ => by (try dsimp only); omega) ?_
    refine TW.fieldAddr rfl rfl fo43_3 rfl ct ?_
    refine TW.load rfl rfl one24 rfl ct (fun _ => cellsW W2 hB2 3 _ rfl) ?_
    refine TW.lenSlice rfl rfl Try.underlying24 rfl ct ?_
    refine TW.lss rfl rfl rfl ct rfl ct ?_
    refine TW.nil (KW.pick [0, 1, 5, 6, 7, 8, 23] [(0, _, _), (1, _, _), (5, _, _), (6, _, _), (7, _, _), (8, _, _), (23, _, _)] rfl (KW.then_ ?_))
    refine CW.condP rfl (fun hlt2 => ?_) (fun hge2 => ?_)
    · obtain ⟨x, hx, hxm⟩ := getx (l := e.needs) (k := j) (by omega)
      have hn2 := hneeds.below hB2
      obtain ⟨cd, rfl⟩ := hn2.addr (by omega)
      refine CW.skip (KW.then_ (CW.seq (CW.block (CW.region ?_))))
      refine TW.move rfl rfl rfl ct ?_
      refine TW.move rfl rfl rfl ct ?_
      refine TW.move rfl rfl rfl ct ?_
      refine TW.move rfl rfl rfl ct ?_
      refine TW.move rfl rfl rfl ct ?_
      refine TW.indexAddr rfl rfl Try.underlying23 sz43 rfl id rfl id (fun h => by (try dsimp only); first | omega | (simp [Cnd] at h; omega)) ?_
      refine TW.fieldAddr rfl rfl fo43_3 rfl id ?_
      refine TW.load rfl rfl one24 rfl id (fun _ => cellsW W2 hB2 3 _ rfl) ?_
      refine TW.move rfl rfl rfl ct ?_
      refine TW.indexAddr rfl rfl Try.underlying24 sz3 rfl id rfl id (fun h => by (try dsimp only); first | omega | (simp [Cnd] at h; omega)) ?_
      refine TW.load rfl rfl one3 rfl id (fun _ => hn2.getI hx) ?_
      refine TW.callF (cap := []) rfl rfl en40 rfl ct (Args.cons rfl id (Args.cons rfl id Args.nil)) (fun _ => rin_c ((hS.below hB).below hB2)) ?_
      rintro w3 c3
      refine TW.not rfl rfl rfl id ?_
      refine TW.pickAnd rfl rfl rfl ct rfl pAnd0 ?_
      refine TW.assign rfl rfl rfl ct ?_
      refine TW.nil (KW.pick [0, 1, 5, 6, 7, 8] [(0, _, _), (1, _, _), (5, _, _), (6, _, _), (7, _, _), (8, _, _)] rfl (KW.blockN (KW.then_ ?_)))
      refine CW.region ?_
      refine TW.move rfl rfl rfl ct ?_
      refine TW.add rfl rfl rfl ct rfl ct (fun _ => by (try dsimp only); omega) ?_
      refine TW.assign rfl rfl rfl ct ?_
      refine TW.nil (KW.pick [0, 1, 5, 6, 7, 8] [(0, _, _), (1, _, _), (5, _, _), (6, _, _), (7, _, _), (8, _, _)] rfl ?_)
      refine KW.round (j + 1) [0, 1, 5, 6, 7, 8] ?_ ⟨by omega, hB2.step c3⟩ (by omega)
      have ht : (e.needs.take (j + 1)).any (fun r => S.contains r) = ((e.needs.take j).any (fun r => S.contains r) || S.contains x) := by
        rw [List.take_add_one, hx, List.any_append]
        simp
      rw [ht]
      have hc : S.contains x = decide (x ∈ S) := by simp
      rw [hc]
      cases (e.needs.take j).any (fun r => S.contains r) <;> rfl
    have hjn : j = e.needs.length := by omega
    subst hjn
    rw [List.take_length]
    have hg : (e.needs.any fun r => S.contains r) = gone S e := rfl
    rw [hg]
    have hR2 := hR.step hB2
    refine CW.exit (KW.thenX (KW.thenX (KW.blockX (KW.then_ (CW.seq (CW.region ?_))))))
    refine TW.move rfl rfl rfl ct ?_
    refine TW.nil (KW.pick [0, 1, 5, 6, 7, 8, 40] [(0, _, _), (1, _, _), (5, _, _), (6, _, _), (7, _, _), (8, _, _), (40, _, _)] rfl (KW.then_ ?_))
    refine CW.cond rfl (fun hin => ?_) (fun hout => ?_)
    · have hg0 : gone S e = false := by simpa using hin
      rw [hg0] at htk
      refine CW.region ?_
      refine TW.move rfl rfl rfl ct ?_
      refine TW.move rfl rfl rfl ct ?_
      refine TW.move rfl rfl rfl ct ?_
      refine TW.indexAddr rfl rfl Try.underlying23 sz43 rfl ct rfl ct (fun _ => by (try dsimp only); omega) ?_
      refine TW.loadS _ rfl rfl Try.underlying43 sz43 rfl ct (fun _ => cellsW W2 hB2) rfl ?_
      refine TW.buildSlice 43 _ rfl rfl rfl eo23 (Args.cons rfl ct Args.nil) rfl rfl rfl rfl rfl ?_
      rintro g7 w7 f7
      have hR7 := hR2.step f7.below
      have hW7 := hB2.step f7.below
      have hfew : ps.length ≤ 1000000 := by
        have h1 : ps.length = (restS (l.take k) S).length := by rw [← hmap]; simp
        have h2 : (restS (l.take k) S).length ≤ (l.take k).length := List.length_filter_le _ _
        have h3 : (l.take k).length ≤ l.length := by rw [List.length_take]; omega
        omega
      refine TW.append [.int .i64 e.office, .int .i64 e.low, .int .i64 e.high, .slice C e.needs.length ncap] rfl rfl go23 rfl hR7.1 rfl rfl (fun j v hj => ⟨⟨g7, 0, none⟩, rfl, f7.blk.fld hj⟩) (fun v hv => by simp at hv; rcases hv with rfl | rfl | rfl | rfl <;> rfl) (by omega) (by omega) ?_
      rintro rv' w8 hO8 hg8 hnew8
      refine TW.assign rfl rfl rfl ct ?_
      refine TW.nil (KW.pick [0, 1, 5, 6, 7, 8] [(0, _, _), (1, _, _), (5, _, _), (6, _, _), (7, _, _), (8, _, _)] rfl (KW.blockN (KW.then_ ?_)))
      refine CW.region ?_
      refine TW.move rfl rfl rfl ct ?_
      refine TW.add rfl rfl rfl ct rfl ct (fun _ => by (try dsimp only); omega) ?_
      refine TW.assign rfl rfl rfl ct ?_
      refine TW.nil (KW.pick [0, 1, 5, 6, 7, 8] [(0, _, _), (1, _, _), (5, _, _), (6, _, _), (7, _, _), (8, _, _)] rfl ?_)
      have hBW7 := hB.step hW7
      have hn7 : SL intT (RowF w7 rv) w7 (.slice C e.needs.length ncap) e.needs := (hn0.below hBW7).wider (fun q hq => ⟨by have := hBW7.size; omega, fun e => by have := hR.2.2 q e; omega⟩)
      have hR8 : RowL evT w8 43 w.heap.size rv' (ps ++ [([.int .i64 e.office, .int .i64 e.low, .int .i64 e.high, .slice C e.needs.length ncap], e)]) := hR7.app hO8 hg8 hnew8 ⟨_, rfl, i1, i2, i3, hn7⟩ hBW7.size
      refine KW.round (k + 1, rv', ps ++ [([.int .i64 e.office, .int .i64 e.low, .int .i64 e.high, .slice C e.needs.length ncap], e)]) [0, 1, 5, 6] rfl ⟨by show k + 1 ≤ l.length; omega, hBW7.grown hg8 hBW7.size hR.2.2, hR8, ?_⟩ (by show l.length - (k + 1) < l.length - k; omega)
      show List.map Prod.snd (ps ++ [_]) = restS (l.take (k + 1)) S
      rw [List.map_append, hmap, htk]
      simp
    · have hg1 : gone S e = true := by simpa using hout
      rw [hg1] at htk
      refine CW.skip (KW.blockN (KW.then_ (CW.region ?_)))
      refine TW.move rfl rfl rfl ct ?_
      refine TW.add rfl rfl rfl ct rfl ct (fun _ => by (try dsimp only); omega) ?_
      refine TW.assign rfl rfl rfl ct ?_
      refine TW.nil (KW.pick [0, 1, 5, 6, 7, 8] [(0, _, _), (1, _, _), (5, _, _), (6, _, _), (7, _, _), (8, _, _)] rfl ?_)
      refine KW.round (k + 1, rv, ps) [0, 1, 5, 6] rfl ⟨by show k + 1 ≤ l.length; omega, hB.step hB2, hR2, ?_⟩ (by show l.length - (k + 1) < l.length - k; omega)
      show ps.map (·.2) = restS (l.take (k + 1)) S
      rw [hmap, htk]
      simp
  · refine CW.exit (KW.thenX (KW.thenX (KW.blockX (KW.then_ (CW.seq (CW.region ?_))))))
    refine TW.move rfl rfl rfl ct ?_
    refine TW.assign rfl rfl rfl ct ?_
    refine TW.nil (KW.pick [0, 1, 4, 5, 6] [(0, _, _), (1, _, _), (4, _, _), (5, _, _), (6, _, _)] rfl (KW.then_ ?_))
    refine CW.ret ?_
    have hke : k = l.length := by omega
    subst hke
    refine ret1 Try.results17 rfl (⟨hB, ?_⟩)
    have := hR.sl (by decide)
    rw [hmap, List.take_length] at this
    exact this
end Go.Proofs.Ytmdjkgkgpkaliaa
