/- Texts of this claim, joined. -/
import Derived.Test.YtnjknkgomhmlfaaGreatDoorQM
import Derived.Shelf.Sort.Plain
import Derived.Shelf.Slices.In.SortNone
import Derived.Test.YtnjknkgomhmlfaaGreatDoorProg
import Derived.Sort.OwnSortedInts
set_option linter.unusedSimpArgs false
set_option linter.unusedVariables false
set_option maxRecDepth 100000
set_option maxHeartbeats 4000000
namespace Go.Proofs.YtnjknkgomhmlfaaGreatDoor
open Go.PF Go.RowKit Go.Ord
attribute [local irreducible] TW CW KW DW
variable {w : World} {N : Net} {g a b : Nat} {M : Tab12}
def tabV (M : Tab12) : List Value := M.map (Value.int .i64)
theorem tab_ad : (Addr.add ⟨g, 0, none⟩ ((a : Int).toNat * 12)).add ((b : Int).toNat * 1) = ⟨g, 12 * a + b, none⟩ := by
 rw [add_add, addr0]
 congr 1
 omega
theorem tab_cell {t : TypeId} (h : Blk w g t (tabV M)) (hl : M.length = 144) (ha : a < 12) (hb : b < 12) : w.cell? ((Addr.add ⟨g, 0, none⟩ ((a : Int).toNat * 12)).add ((b : Int).toNat * 1)) = some (.int .i64 (g12 M a b)) := by
 rw [tab_ad, ← addr0]
 refine h.fld ?_
 unfold tabV g12
 rw [List.getElem?_map, List.getD_eq_getElem?_getD, List.getElem?_eq_getElem (by omega)]
 rfl
theorem relax1_c {t : Int} (hB : Blk w g 124 (tabV M)) (hl : M.length = 144) (ha : a < 12) (hb : b < 12) : Gives Tryz.prog 112 #[.int .i64 (a : Int), .int .i64 (b : Int), .int .i64 t, .pointer (some ⟨g, 0, none⟩)] w fun _ w' => But g w w' ∧ w'.heap.size = w.heap.size ∧ Blk w' g 124 (tabV (relax12 M a b t)) := by
 have hc := tab_cell hB hl ha hb
 refine gv Tryz.func112 Tryz.ntmps112 ?_
 refine CW.seq (CW.region ?_)
 refine TW.move rfl rfl rfl ct ?_
 refine TW.move rfl rfl rfl ct ?_
 refine TW.indexAddrA rfl rfl Tryz.underlying124 sz123 rfl ct rfl ct (fun _ => by (try dsimp only); omega) ?_
 refine TW.indexAddrA rfl rfl Tryz.underlying123 sz3 rfl ct rfl ct (fun _ => by (try dsimp only); omega) ?_
 refine TW.ld rfl (hc) ?_
 refine TW.eql rfl rfl rfl ct rfl ct ?_
 refine TW.move rfl rfl rfl ct ?_
 refine TW.move rfl rfl rfl ct ?_
 refine TW.move rfl rfl rfl ct ?_
 refine TW.move rfl rfl rfl ct ?_
 refine TW.indexAddrA rfl rfl Tryz.underlying124 sz123 rfl ct rfl id (fun h => by (try dsimp only); first | omega | (simp [Cnd] at h; omega)) ?_
 refine TW.indexAddrA rfl rfl Tryz.underlying123 sz3 rfl id rfl id (fun h => by (try dsimp only); first | omega | (simp [Cnd] at h; omega)) ?_
 refine TW.ld rfl (hc) ?_
 refine rnT ?_
 refine CW.pk [0, 1, 2, 3, 21] rfl ?_
 refine CW.cond rfl (fun h1 => ?_) (fun h2 => ?_)
 ·have hr : relax12 M a b t = M.set (12 * a + b) t := by
   unfold relax12
   rw [if_pos (by simpa using h1)]
  refine CW.region ?_
  refine TW.move rfl rfl rfl ct ?_
  refine TW.move rfl rfl rfl ct ?_
  refine TW.move rfl rfl rfl ct ?_
  refine TW.indexAddrA rfl rfl Tryz.underlying124 sz123 rfl ct rfl ct (fun _ => by (try dsimp only); omega) ?_
  refine TW.indexAddrA rfl rfl Tryz.underlying123 sz3 rfl ct rfl ct (fun _ => by (try dsimp only); omega) ?_
  rw [tab_ad]
  have hlt : (12 * a + b) < (tabV M).length := by unfold tabV; rw [List.length_map]; omega
  refine TW.store1 rfl sz3 rfl rfl (by rw [← tab_ad]; exact hc) (hB.frozen _) rfl ?_
  refine rnT ?_
  refine end0 Tryz.results112 (⟨.setCell, by simp [World.setCell], by rw [hr]; have := hB.set (12 * a + b) (.int .i64 t); rw [show (tabV M).set (12 * a + b) (.int .i64 t) = tabV (M.set (12 * a + b) t) from by unfold tabV; rw [List.map_set]] at this; exact this⟩)
 ·have hr : relax12 M a b t = M := by
   unfold relax12
   rw [if_neg (by simpa using h2)]
  refine CW.skip ?_
  refine end0 Tryz.results112 (⟨But.of_below (Below.refl _ _), rfl, by rw [hr]; exact hB⟩)
theorem tabV_one (M : Tab12) : (tabV M).all (·.oneCell') = true := by
 rw [List.all_eq_true]
 intro u hu
 obtain ⟨x, _, rfl⟩ := List.mem_map.1 hu
 rfl
theorem tabV_len (h : M.length = 144) : (tabV M).length = 144 := by unfold tabV; rw [List.length_map]; exact h
structure RS12 (w W : World) (g2 g3 : Nat) (M : Tab12) : Prop where
 b : Below w.heap.size w W
 z : Blk W g2 124 (tabV (initL 0))
 t : Blk W g3 124 (tabV M)
theorem relaxed_c {v : NV} (hN : NetAt w v N) (hL : LnOK 12 (lnOf N)) (hli : ∀ l ∈ N.lines, 0 ≤ l.frm ∧ 0 ≤ l.to) : Gives Tryz.prog 64 #[.agg v.cells.toArray] w fun u w' => Below w.heap.size w w' ∧ u = .agg (tabV (relaxed12 (lnOf N))).toArray := by
 have hform := NetIn.form hN
 obtain ⟨vc, vn, vo, vf, vl, vk⟩ := v
 obtain ⟨_, _, _, _, ⟨A5, c5, e5⟩, _⟩ := id hform
 dsimp only at e5
 subst e5
 have hl := hN.l
 have hmax := hl.len.2.2
 have hz0 : ∀ (t : TypeId) (w' : World) (g : Nat), Blk w' g t (List.replicate 144 (Value.int .i64 0)) → Blk w' g t (tabV (initL 0)) := fun t w' g h => by
  rw [initL_zero]
  unfold tabV
  rw [List.map_replicate]
  exact h
 refine gv Tryz.func64 Tryz.ntmps64 ?_
 refine rnT ?_
 refine TW.box rfl rfl rfl rfl ?_
 rintro g1 w1 f1
 refine TW.alloc rfl rfl zc124 ?_
 rintro g2 w2 f2
 refine rnT ?_
 refine TW.pk [0, 1, 2] rfl ?_
 refine TW.alloc rfl rfl zc124 ?_
 rintro g3 w3 f3
 refine rnT ?_
 refine CW.pk [0, 1, 2, 3, 12] rfl ?_
 have k1 := f1.at_
 have k2 := f2.at_
 have k3 := f3.at_
 have s1 := f1.size
 have s2 := f2.size
 have hg23 : g2 ≠ g3 := by omega
 have hB13 := (f1.blk.next f2.below).next f3.below
 have b3 := (f1.below.step f2.below).step f3.below
 have hl3 := hl.below b3
 have hput : ∀ {W W' : World} {M M' : Tab12}, RS12 w W g2 g3 M → But g3 W W' → Blk W' g3 124 (tabV M') → RS12 w W' g2 g3 M' := fun h hb hB => ⟨h.b.grown hb h.b.size (fun k hk => by cases hk; omega), hb.blk h.z hg23, hB⟩
 have h0 : RS12 w w3 g2 g3 (initL 0) := ⟨b3, hz0 _ _ _ (f2.blk.next f3.below), hz0 _ _ _ f3.blk⟩
 have hg1 : g1 ≠ g3 := by omega
 refine CW.loopS (fun a : Nat => [(1, none, .pointer (some ⟨g1, 0, none⟩)), (2, none, .pointer (some ⟨g2, 0, none⟩)), (3, none, .pointer (some ⟨g3, 0, none⟩)), (12, none, .int .i64 (a : Int))])
  (fun a W => a ≤ 12 ∧ RS12 w W g2 g3 (initL (12 * a)) ∧ But g3 w3 W) (fun a => 12 - a) 0 [1, 2, 3, 12] ⟨Nat.zero_le _, h0, But.of_below (Below.refl _ _)⟩ rfl ?_
 rintro a W ⟨ha, hR, hbut⟩
 refine rnT ?_
 refine CW.pk [1, 2, 3, 12, 13] rfl ?_
 refine CW.condP rfl (fun hlt => ?_) (fun hge => ?_)
 ·refine rnT ?_
  refine CW.pk [1, 2, 3, 4, 12, 15] rfl ?_
  refine CW.loopS (fun b : Nat => [(1, none, .pointer (some ⟨g1, 0, none⟩)), (2, none, .pointer (some ⟨g2, 0, none⟩)), (3, none, .pointer (some ⟨g3, 0, none⟩)), (4, none, .int .i64 (a : Int)), (12, none, .int .i64 (a : Int)), (15, none, .int .i64 (b : Int))])
   (fun b W => b ≤ 12 ∧ RS12 w W g2 g3 (initL (12 * a + b)) ∧ But g3 w3 W) (fun b => 12 - b) 0 [1, 2, 3, 4, 12, 15] ⟨Nat.zero_le _, hR, hbut⟩ rfl ?_
  rintro b W' ⟨hb, hR', hbut'⟩
  refine rnT ?_
  refine CW.pk [1, 2, 3, 4, 12, 15, 16] rfl ?_
  refine CW.condP rfl (fun hlt2 => ?_) (fun hge2 => ?_)
  ·have hs := initL_succ (k := 12 * a + b) (by omega)
   have hdm : (12 * a + b) / 12 = (12 * a + b) % 12 ↔ a = b := by omega
   refine rnT ?_
   refine CW.pk [1, 2, 3, 4, 5, 12, 15, 20] rfl ?_
   refine CW.condP rfl (fun hne => ?_) (fun heq => ?_)
   ·rw [if_neg (by omega)] at hs
    have hc := tab_cell (a := a) (b := b) hR'.t (initL_len _) (by omega) (by omega)
    refine CW.region ?_
    refine TW.move rfl rfl rfl ct ?_
    refine TW.move rfl rfl rfl ct ?_
    refine TW.indexAddrA rfl rfl Tryz.underlying124 sz123 rfl ct rfl ct (fun _ => by (try dsimp only); omega) ?_
    refine TW.indexAddrA rfl rfl Tryz.underlying123 sz3 rfl ct rfl ct (fun _ => by (try dsimp only); omega) ?_
    rw [tab_ad]
    refine TW.store1 rfl sz3 rfl rfl (by rw [← tab_ad]; exact hc) (hR'.t.frozen _) rfl ?_
    refine rnT ?_
    refine KW.round (b + 1) [1, 2, 3, 4, 12, 15] rfl ⟨by omega, hput hR' .setCell ?_, hbut'.trans .setCell⟩ (by omega)
    have := hR'.t.set (12 * a + b) (.int .i64 (-1))
    rw [show 12 * a + (b + 1) = 12 * a + b + 1 by omega, hs]
    rw [show (tabV (initL (12 * a + b))).set (12 * a + b) (.int .i64 (-1)) = tabV ((initL (12 * a + b)).set (12 * a + b) (-1)) from by unfold tabV; rw [List.map_set]] at this
    exact this
   ·rw [if_pos (by omega)] at hs
    refine rnT ?_
    refine KW.round (b + 1) [1, 2, 3, 4, 12, 15] rfl ⟨by omega, ?_, hbut'⟩ (by omega)
    rw [show 12 * a + (b + 1) = 12 * a + b + 1 by omega, hs]
    exact hR'
  ·refine rnT ?_
   refine KW.round (a + 1) [1, 2, 3, 12] rfl ⟨by omega, ?_, hbut'⟩ (by omega)
   rw [show 12 * (a + 1) = 12 * a + b by omega]
   exact hR'
 have ha12 : a = 12 := by omega
 subst ha12
 rw [show initL (12 * 12) = init12 from initL_all] at hR
 have hlW : SL liT (fun k => k < w.heap.size) W (.slice A5 N.lines.length c5) N.lines := hl.below hR.b
 refine rnT ?_
 refine TW.makeFunc rfl rfl (Args.cons rfl ct Args.nil) ?_
 refine rnT ?_
 refine TW.ld rfl ((hbut.blk hB13 hg1).fld rfl) ?_
 refine rnT ?_
 refine CW.pk [1, 2, 3, 6, 12, 29, 30, 31] rfl ?_
 obtain ⟨L, hLe⟩ : ∃ L, L = lnOf N := ⟨_, rfl⟩
 have hLl : L.length = N.lines.length := by rw [hLe]; simp [lnOf]
 rw [← hLe] at hL ⊢
 refine CW.loopS (fun j : Nat => [(1, none, .pointer (some ⟨g1, 0, none⟩)), (2, none, .pointer (some ⟨g2, 0, none⟩)), (3, none, .pointer (some ⟨g3, 0, none⟩)), (6, none, .func (.func 112) #[] #[.pointer (some ⟨g3, 0, none⟩)]), (29, none, .slice A5 N.lines.length c5), (30, none, .int .i64 (N.lines.length : Int)), (31, none, .int .i64 (j : Int))])
  (fun j W => j ≤ N.lines.length ∧ RS12 w W g2 g3 (lines12 init12 (L.take j))) (fun j => N.lines.length - j) 0 [1, 2, 3, 6, 29, 30, 31] ⟨Nat.zero_le _, hR⟩ rfl ?_
 rintro j W2 ⟨hj, hR2⟩
 refine rnT ?_
 refine CW.pk [1, 2, 3, 6, 29, 30, 31, 32] rfl ?_
 refine CW.condP rfl (fun hlt => ?_) (fun hge => ?_)
 ·obtain ⟨l, hll, hlm⟩ := getx (l := N.lines) (k := j) (by omega)
  have hl2 := hl.below hR2.b
  obtain ⟨ad, rfl⟩ := hl2.addr (by omega)
  obtain ⟨ad', cs, e1, hF, hrep, hc⟩ := hl2.at hll
  cases e1
  obtain ⟨rfl, _⟩ := hrep
  have hln : L[j]? = some (l.frm.toNat, l.to.toNat, l.trav) := by rw [hLe]; unfold lnOf; rw [List.getElem?_map, hll]; rfl
  have hlk := hL _ (List.mem_of_getElem? hln)
  dsimp only at hlk
  obtain ⟨p1, p2⟩ := hli l hlm
  have q1 : l.frm = ((l.frm.toNat : Nat) : Int) := by omega
  have q2 : l.to = ((l.to.toNat : Nat) : Int) := by omega
  refine rnT ?_
  refine TW.loadS _ rfl rfl Tryz.underlying53 sz53 rfl ct (fun _ => hc) rfl ?_
  refine TW.newVar rfl zc53 rfl sz53 rfl rfl ?_
  rintro g8 w8 f8
  refine rnT ?_
  refine TW.ld rfl (f8.blk.fld rfl) ?_
  refine rnT ?_
  refine TW.ld rfl (f8.blk.fld rfl) ?_
  refine rnT ?_
  refine TW.ld rfl (f8.blk.fld rfl) ?_
  rw [q1, q2]
  have hT8 := hR2.t.next f8.below
  have hlen2 := (lines12_at hL (L.take j) (fun x hx => List.mem_of_mem_take hx)).len
  refine TW.call0 rfl rfl en112 rfl (Args.cons rfl ct (Args.cons rfl ct (Args.cons rfl ct Args.nil))) (relax1_c (t := l.trav) hT8 hlen2 hlk.1 hlk.2.1) ?_
  rintro y9 w9 ⟨hbut9, hsz9, hB9⟩
  refine rnT ?_
  have hR8 : RS12 w w8 g2 g3 (lines12 init12 (L.take j)) := ⟨hR2.b.step f8.below, hR2.z.next f8.below, hT8⟩
  refine KW.round (j + 1) [1, 2, 3, 6, 29, 30, 31] rfl ⟨by omega, ?_⟩ (by omega)
  rw [List.take_add_one, hln]
  have hh := hput hR8 hbut9 hB9
  rw [← lines12_snoc init12 (L.take j) (l.frm.toNat, l.to.toNat, l.trav)] at hh
  exact hh
 have hjl : L.take j = L := List.take_of_length_le (by omega)
 rw [hjl] at hR2
 obtain ⟨M1, hM1⟩ : ∃ M, M = lines12 init12 L := ⟨_, rfl⟩
 rw [← hM1] at hR2
 refine rnT ?_
 refine CW.pk [1, 2, 3, 6, 29, 30, 31, 44] rfl ?_
 have hT : ∀ {o a b : Nat}, o < 12 → a < 12 → b ≤ 12 → T12 L 40960000 (row12 o (rnd12 (all12 M1 o) o a) a b) := fun h1 h2 h3 => by rw [hM1]; exact table_at hL h1 h2 h3
 refine CW.loopS (fun o : Nat => [(2, none, .pointer (some ⟨g2, 0, none⟩)), (3, none, .pointer (some ⟨g3, 0, none⟩)), (6, none, .func (.func 112) #[] #[.pointer (some ⟨g3, 0, none⟩)]), (44, none, .int .i64 (o : Int))])
  (fun o W => o ≤ 12 ∧ RS12 w W g2 g3 (all12 M1 o)) (fun o => 12 - o) 0 [2, 3, 6, 44] ⟨Nat.zero_le _, by rw [all12_zero]; exact hR2⟩ rfl ?_
 rintro o W3 ⟨ho, hR3⟩
 refine rnT ?_
 refine CW.pk [2, 3, 6, 44, 45] rfl ?_
 refine CW.condP rfl (fun hlto => ?_) (fun hgeo => ?_)
 ·refine rnT ?_
  refine CW.pk [2, 3, 6, 9, 44, 47] rfl ?_
  refine CW.loopS (fun a : Nat => [(2, none, .pointer (some ⟨g2, 0, none⟩)), (3, none, .pointer (some ⟨g3, 0, none⟩)), (6, none, .func (.func 112) #[] #[.pointer (some ⟨g3, 0, none⟩)]), (9, none, .int .i64 (o : Int)), (44, none, .int .i64 (o : Int)), (47, none, .int .i64 (a : Int))])
   (fun a W => a ≤ 12 ∧ RS12 w W g2 g3 (rnd12 (all12 M1 o) o a)) (fun a => 12 - a) 0 [2, 3, 6, 9, 44, 47] ⟨Nat.zero_le _, by rw [rnd12_zero]; exact hR3⟩ rfl ?_
  rintro a W4 ⟨ha, hR4⟩
  refine rnT ?_
  refine CW.pk [2, 3, 6, 9, 44, 47, 48] rfl ?_
  refine CW.condP rfl (fun hlta => ?_) (fun hgea => ?_)
  ·refine rnT ?_
   refine CW.pk [2, 3, 6, 9, 10, 44, 47, 50] rfl ?_
   refine CW.loopS (fun b : Nat => [(2, none, .pointer (some ⟨g2, 0, none⟩)), (3, none, .pointer (some ⟨g3, 0, none⟩)), (6, none, .func (.func 112) #[] #[.pointer (some ⟨g3, 0, none⟩)]), (9, none, .int .i64 (o : Int)), (10, none, .int .i64 (a : Int)), (44, none, .int .i64 (o : Int)), (47, none, .int .i64 (a : Int)), (50, none, .int .i64 (b : Int))])
    (fun b W => b ≤ 12 ∧ RS12 w W g2 g3 (row12 o (rnd12 (all12 M1 o) o a) a b)) (fun b => 12 - b) 0 [2, 3, 6, 9, 10, 44, 47, 50] ⟨Nat.zero_le _, by rw [row12_zero]; exact hR4⟩ rfl ?_
   rintro b W5 ⟨hb, hR5⟩
   refine rnT ?_
   refine CW.pk [2, 3, 6, 9, 10, 44, 47, 50, 51] rfl ?_
   refine CW.condP rfl (fun hltb => ?_) (fun hgeb => ?_)
   ·have ht5 := hT (o := o) (a := a) (b := b) (by omega) (by omega) hb
    have hstep := row12_succ o (rnd12 (all12 M1 o) o a) a b
    obtain ⟨M, hM⟩ : ∃ M, M = row12 o (rnd12 (all12 M1 o) o a) a b := ⟨_, rfl⟩
    rw [← hM] at hR5 ht5 hstep
    have c1 := tab_cell (a := a) (b := o) hR5.t ht5.len (by omega) (by omega)
    have c2 := tab_cell (a := o) (b := b) hR5.t ht5.len (by omega) (by omega)
    have r1 := ht5.rng a o (by omega) (by omega)
    have r2 := ht5.rng o b (by omega) (by omega)
    refine CW.skip (KW.then_ (CW.seq (CW.block (CW.seq (CW.region ?_)))))
    refine TW.move rfl rfl rfl ct ?_
    refine TW.assign rfl rfl rfl ct ?_
    refine TW.nil (KW.pick [2, 3, 6, 9, 10, 11, 44, 47, 50] [(2, _, _), (3, _, _), (6, _, _), (9, _, _), (10, _, _), (11, _, _), (44, _, _), (47, _, _), (50, _, _)] rfl (KW.then_ ?_))
    refine CW.seq (CW.region ?_)
    refine TW.move rfl rfl rfl ct ?_
    refine TW.move rfl rfl rfl ct ?_
    refine TW.indexAddrA rfl rfl Tryz.underlying124 sz123 rfl ct rfl ct (fun _ => by (try dsimp only); omega) ?_
    refine TW.indexAddrA rfl rfl Tryz.underlying123 sz3 rfl ct rfl ct (fun _ => by (try dsimp only); omega) ?_
    refine TW.ld rfl (c1) ?_
    refine TW.neq rfl rfl rfl ct rfl ct ?_
    refine TW.move rfl rfl rfl ct ?_
    refine TW.move rfl rfl rfl ct ?_
    refine TW.move rfl rfl rfl ct ?_
    refine TW.indexAddrA rfl rfl Tryz.underlying124 sz123 rfl ct rfl id (fun h => by (try dsimp only); first | omega | (simp [Cnd] at h; omega)) ?_
    refine TW.indexAddrA rfl rfl Tryz.underlying123 sz3 rfl id rfl id (fun h => by (try dsimp only); first | omega | (simp [Cnd] at h; omega)) ?_
    refine TW.ld rfl (c2) ?_
    refine rnT ?_
    refine CW.pk [2, 3, 6, 9, 10, 11, 44, 47, 50, 66] rfl ?_
    refine CW.cond rfl (fun hboth => ?_) (fun hnot => ?_)
    ·have hv : via12 o a M b = relax12 M a b (g12 M a o + g12 M o b) := by unfold via12; rw [if_pos (by simpa using hboth)]
     refine CW.drawR mixed fun W6 hb6 => ?_
     refine RW.draw .weak 14 (by kernel_rfl) (by kernel_rfl) rfl rfl hb6 ?_
     refine DW.move rfl rfl rfl ct ?_
     refine DW.move rfl rfl rfl ct ?_
     refine DW.move rfl rfl rfl ct ?_
     refine DW.move rfl rfl rfl ct ?_
     refine DW.move rfl rfl rfl ct ?_
     refine DW.indexAddrA rfl rfl Tryz.underlying124 sz123 rfl ct rfl ct (fun _ => by (try dsimp only); omega) ?_
     refine DW.indexAddrA rfl rfl Tryz.underlying123 sz3 rfl ct rfl ct (fun _ => by (try dsimp only); omega) ?_
     refine DW.ld rfl (c1) ?_
     refine DW.move rfl rfl rfl ct ?_
     refine DW.move rfl rfl rfl ct ?_
     refine DW.indexAddrA rfl rfl Tryz.underlying124 sz123 rfl ct rfl ct (fun _ => by (try dsimp only); omega) ?_
     refine DW.indexAddrA rfl rfl Tryz.underlying123 sz3 rfl ct rfl ct (fun _ => by (try dsimp only); omega) ?_
     refine DW.ld rfl (c2) ?_
     refine rnD ?_
     refine DW.nil (DW.fin [2, 3, 6, 9, 10, 11, 44, 47, 50, 67, 68, 69, 80] [(2, _, _), (3, _, _), (6, _, _), (9, _, _), (10, _, _), (11, _, _), (44, _, _), (47, _, _), (50, _, _), (67, _, _), (68, _, _), (69, _, _), (80, _, _)] rfl (fun w7 b7 => KW.rk' ?_))
     refine RW.one (by kernel_rfl) (by kernel_rfl) rfl ?_
     have hT7 := hR5.t.next b7
     refine TW.call0 rfl rfl en112 rfl (Args.cons rfl ct (Args.cons rfl ct (Args.cons rfl ct Args.nil))) (relax1_c (t := g12 M a o + g12 M o b) hT7 ht5.len (by omega) (by omega)) ?_
     rintro y9 w9 ⟨hbut9, hsz9, hB9⟩
     refine TW.nil (KW.pick [2, 3, 6, 9, 10, 11, 44, 47, 50] [(2, _, _), (3, _, _), (6, _, _), (9, _, _), (10, _, _), (11, _, _), (44, _, _), (47, _, _), (50, _, _)] rfl (KW.rk ?_))
     refine RW.end rfl (KW.pick [2, 3, 6, 9, 10, 11, 44, 47, 50] [(2, _, _), (3, _, _), (6, _, _), (9, _, _), (10, _, _), (11, _, _), (44, _, _), (47, _, _), (50, _, _)] rfl (KW.blockN (KW.then_ ?_)))
     refine rnT ?_
     have hR7 : RS12 w w7 g2 g3 M := ⟨hR5.b.step b7, hR5.z.next b7, hT7⟩
     refine KW.round (b + 1) [2, 3, 6, 9, 10, 44, 47, 50] rfl ⟨by omega, ?_⟩ (by omega)
     rw [hstep, hv]
     exact hput hR7 hbut9 hB9
    ·have hv : via12 o a M b = M := by unfold via12; rw [if_neg (by simpa using hnot)]
     refine rnT ?_
     refine KW.round (b + 1) [2, 3, 6, 9, 10, 44, 47, 50] rfl ⟨by omega, ?_⟩ (by omega)
     rw [hstep, hv]
     exact hR5
   ·have hb12 : b = 12 := by omega
    subst hb12
    refine rnT ?_
    refine KW.round (a + 1) [2, 3, 6, 9, 44, 47] rfl ⟨by omega, ?_⟩ (by omega)
    rw [rnd12_succ]
    exact hR5
  ·have ha12 : a = 12 := by omega
   subst ha12
   refine rnT ?_
   refine KW.round (o + 1) [2, 3, 6, 44] rfl ⟨by omega, ?_⟩ (by omega)
   rw [all12_succ]
   exact hR4
 have ho12 : o = 12 := by omega
 subst ho12
 have hend : all12 M1 12 = relaxed12 L := by rw [hM1, relaxed12]
 rw [hend] at hR3
 have hlenE := tabV_len (relaxed12_ok hL).1.len
 refine rnT ?_
 refine TW.loadA (tabV (relaxed12 L)) rfl rfl Tryz.underlying124 sz124 rfl ct (fun _ => fun j v hj => hR3.t.fld hj) hlenE ?_
 refine TW.storeBlkF rfl rfl rfl hR3.z sz124 hlenE (tabV_len (initL_len 0)) (tabV_one _) ?_
 rintro w9 hB9 hbut9 hsz9
 refine rnT ?_
 exact retCA Tryz.results64 Tryz.underlying124 sz124 hlenE rfl hB9 ⟨hR3.b.grown hbut9 hR3.b.size (fun k hk => by cases hk; omega), rfl⟩
theorem cons_ln12 (h : ConsOK keys11 N) : LnOK 12 (lnOf N) := h.ln.1.more h.ln.2.1
theorem cons_nat (h : ConsOK keys11 N) : ∀ l ∈ N.lines, 0 ≤ l.frm ∧ 0 ≤ l.to := fun l hl => ⟨(h.lines.good l hl).f1, (h.lines.good l hl).t1⟩
theorem check_c {v : NV} (ht : Tabs w) (hN : NetAt w v N) : Gives Tryz.prog 34 #[.agg v.cells.toArray] w fun u w' => Below w.heap.size w w' ∧ ∃ A n c, u = .slice A n c ∧ (n = 0 ↔ SoundOK keys11 N) := by
 have hform := NetIn.form hN
 obtain ⟨vc, vn, vo, vf, vl, vk⟩ := v
 obtain ⟨⟨A1, c1, e1⟩, ⟨A2, c2, e2⟩, ⟨A3, c3, e3⟩, ⟨A4, c4, e4⟩, ⟨A5, c5, e5⟩, ⟨A6, c6, e6⟩⟩ := id hform
 dsimp only at e1 e2 e3 e4 e5 e6
 subst e1 e2 e3 e4 e5 e6
 have m4 := hN.f.len.2.2
 refine gv Tryz.func34 Tryz.ntmps34 ?_
 refine rnT ?_
 refine TW.box rfl rfl rfl rfl ?_
 rintro g1 w1 f1
 refine rnT ?_
 refine TW.pk [0, 1, 2] rfl ?_
 have hB1 := f1.blk
 have hN1 := net_step hN f1.below
 refine TW.loadS _ rfl rfl Tryz.underlying29 sz29 rfl ct (fun _ => (fun _ _ hv => hB1.fld hv)) rfl ?_
 refine TW.cl en63 rfl (incon_c (v := ⟨.slice A1 N.cals.length c1, .slice A2 N.names.length c2, .slice A3 N.ops.length c3, .slice A4 N.offs.length c4, .slice A5 N.lines.length c5, .slice A6 N.classes.length c6⟩) (ht.below f1.below) hN1) ?_
 rintro y2 w2 ⟨d2, n, hR, hn, hiff⟩
 obtain ⟨Y, yc, rfl⟩ := FRow.form hR
 have b2 := f1.below.step d2
 have hB2 := hB1.next d2
 refine rnT ?_
 refine CW.pk [0, 1, 2, 3, 11] rfl ?_
 refine CW.condP rfl (fun hbad => ?_) (fun hgood => ?_)
 ·refine rnT ?_
  refine ret1 Tryz.results34 rfl (⟨b2, _, _, _, rfl, ⟨fun h => by omega, fun h => hiff.2 h.cons⟩⟩)
 have hcons : ConsOK keys11 N := hiff.1 (by omega)
 have hL := cons_ln12 hcons
 have hn12 := hcons.ln.2.1
 obtain ⟨rel, hrel⟩ : ∃ r, r = relaxed12 (lnOf N) := ⟨_, rfl⟩
 have hok := relaxed12_ok hL
 rw [← hrel] at hok
 have hlen := tabV_len hok.1.len
 have hn0 : n = 0 := by omega
 subst hn0
 refine rnT ?_
 refine TW.loadS _ rfl rfl Tryz.underlying29 sz29 rfl ct (fun _ => (fun _ _ hv => hB2.fld hv)) rfl ?_
 refine TW.cl en64 rfl (relaxed_c (v := ⟨.slice A1 N.cals.length c1, .slice A2 N.names.length c2, .slice A3 N.ops.length c3, .slice A4 N.offs.length c4, .slice A5 N.lines.length c5, .slice A6 N.classes.length c6⟩) (net_step hN1 d2) hL (cons_nat hcons)) ?_
 rintro y3 w3 ⟨d3, rfl⟩
 rw [← hrel]
 refine TW.newVar rfl zc124 rfl (hlen ▸ sz124) (by rw [hlen]; rfl) (tabV_one _) ?_
 rintro g4 w4 f4
 refine rnT ?_
 have hB4 := (hB2.next d3).next f4.below
 have hR4 := (hR.below d3).below f4.below
 have b4 := (b2.step d3).step f4.below
 have b14 : Below w1.heap.size w1 w4 := (d2.step d3).step f4.below
 have hYg : ∀ g, (Value.slice Y 0 yc).ownBlock = some g → g ≠ g4 := fun g hg e => by
  obtain ⟨zs, q1, _⟩ := hR
  have := q1.lt hg
  have := f4.at_
  have := d3.size
  omega
 refine TW.ld rfl (hB4.fld rfl) ?_
 refine rnT ?_
 refine CW.pk [0, 1, 2, 3, 4, 17, 18] rfl ?_
 refine CW.loopS (fun z : Nat × Value × Nat => [(1, none, .pointer (some ⟨g1, 0, none⟩)), (3, none, z.2.1), (4, none, .pointer (some ⟨g4, 0, none⟩)), (17, none, .int .i64 (N.offs.length : Int)), (18, none, .int .i64 (z.1 : Int))])
  (fun z W => z.1 ≤ N.offs.length ∧ Below w1.heap.size w1 W ∧ Blk W g4 124 (tabV rel) ∧ FRow W w1.heap.size z.2.1 z.2.2 ∧ (∀ g, z.2.1.ownBlock = some g → g ≠ g4) ∧ z.2.2 ≤ z.1 ∧ (z.2.2 = 0 ↔ ∀ a b, b < z.1 → a < N.offs.length → ReachL (lnOf N) a b)) (fun z => N.offs.length - z.1) (0, .slice Y 0 yc, 0) [1, 3, 4, 17, 18]
  ⟨Nat.zero_le _, b14, f4.blk, hR4, hYg, Nat.le_refl _, ⟨fun _ a b hb => by omega, fun _ => rfl⟩⟩ rfl ?_
 rintro ⟨b, fv, n⟩ W ⟨hb, hW, hTW, ⟨zs, hO, h2, h3⟩, h4g, hnb, hre⟩
 dsimp only at hb hO h3 h4g hnb hre
 have hB1W := hB1.next hW
 refine rnT ?_
 refine CW.pk [1, 3, 4, 17, 18, 19] rfl ?_
 refine CW.condP rfl (fun hlt => ?_) (fun hge => ?_)
 ·refine rnT ?_
  refine TW.ld rfl (hB1W.fld rfl) ?_
  refine rnT ?_
  refine CW.pk [1, 3, 4, 5, 17, 18, 23, 24] rfl ?_
  refine CW.loopS (fun a : Nat => [(1, none, .pointer (some ⟨g1, 0, none⟩)), (3, none, fv), (4, none, .pointer (some ⟨g4, 0, none⟩)), (5, none, .int .i64 (b : Int)), (17, none, .int .i64 (N.offs.length : Int)), (18, none, .int .i64 (b : Int)), (23, none, .int .i64 (N.offs.length : Int)), (24, none, .int .i64 (a : Int))])
   (fun a W' => a ≤ N.offs.length ∧ W' = W ∧ ∀ i, i < a → ReachL (lnOf N) i b) (fun a => N.offs.length - a) 0 [1, 3, 4, 5, 17, 18, 23, 24] ⟨Nat.zero_le _, rfl, fun i hi => by omega⟩ rfl ?_
  rintro a W' ⟨ha, rfl, hall⟩
  refine rnT ?_
  refine CW.pk [1, 3, 4, 5, 17, 18, 23, 24, 25] rfl ?_
  refine CW.condP rfl (fun hlt2 => ?_) (fun hge2 => ?_)
  ·have hc := tab_cell (a := a) (b := b) hTW hok.1.len (by omega) (by omega)
   have hiffab := hok.2 a b (by omega) (by omega)
   refine CW.skip (KW.then_ (CW.seq (CW.block (CW.seq (CW.region ?_)))))
   refine TW.move rfl rfl rfl ct ?_
   refine TW.assign rfl rfl rfl ct ?_
   refine TW.nil (KW.pick [1, 3, 4, 5, 6, 17, 18, 23, 24] [(1, _, _), (3, _, _), (4, _, _), (5, _, _), (6, _, _), (17, _, _), (18, _, _), (23, _, _), (24, _, _)] rfl (KW.then_ ?_))
   refine CW.seq (CW.region ?_)
   refine TW.move rfl rfl rfl ct ?_
   refine TW.move rfl rfl rfl ct ?_
   refine TW.indexAddrA rfl rfl Tryz.underlying124 sz123 rfl ct rfl ct (fun _ => by (try dsimp only); omega) ?_
   refine TW.indexAddrA rfl rfl Tryz.underlying123 sz3 rfl ct rfl ct (fun _ => by (try dsimp only); omega) ?_
   refine TW.ld rfl (hc) ?_
   refine rnT ?_
   refine CW.pk [1, 3, 4, 5, 6, 17, 18, 23, 24, 32] rfl ?_
   refine CW.condP rfl (fun hno => ?_) (fun hyes => ?_)
   ·have hnr := hiffab.1 hno
    refine rnT ?_
    refine TW.build [0, 1, 2] _ [.int .i64 3, .int .i64 (b : Int), .int .i64 111] rfl rfl rfl (Args.cons rfl ct (Args.cons rfl ct (Args.cons rfl ct Args.nil))) (by kernel_rfl) ?_
    refine TW.buildSlice 129 _ rfl rfl rfl eo72 (Args.cons rfl ct Args.nil) rfl rfl rfl rfl rfl ?_
    rintro g5 w5 f5
    refine TW.append [.int .i64 3, .int .i64 (b : Int), .int .i64 111] rfl rfl go72 rfl (hO.below f5.below) rfl rfl (fun j u hj => ⟨_, rfl, f5.blk.fld hj⟩) (fun u hu => by simp at hu; rcases hu with rfl | rfl | rfl <;> rfl) (by omega) (by omega) ?_
    rintro fv' w6 hO6 hg6 hn6
    refine rnT ?_
    have hW2 := hW.step f5.below
    refine KW.round (b + 1, fv', n + 1) [1, 3, 4, 17, 18] rfl ⟨by show b + 1 ≤ _; omega, ?_, GB.blk hg6 (hTW.next f5.below) (fun e => h4g _ e rfl), FRow.app (w := w5) h3 h2 (fun u hu => by simp at hu; rcases hu with rfl | rfl | rfl <;> rfl) hO6 hn6 hW2.size, fun g hg => ?_, by show n + 1 ≤ b + 1; omega, ⟨fun h => absurd h (Nat.succ_ne_zero n), fun h => absurd (h a b (by show b < b + 1; omega) (by omega)) hnr⟩⟩ (by show N.offs.length - (b + 1) < N.offs.length - b; omega)
    ·exact hW2.grown hg6 hW2.size h3
    ·rcases hn6 with h | h
     ·exact h4g g (by rw [← h]; exact hg)
     ·rw [h] at hg
      cases hg
      have := hTW.lt
      have := f5.below.size
      omega
   ·have hr : ReachL (lnOf N) a b := Classical.byContradiction fun h => hyes (hiffab.2 h)
    refine rnT ?_
    refine KW.round (a + 1) [1, 3, 4, 5, 17, 18, 23, 24] rfl ⟨by omega, rfl, fun i hi => ?_⟩ (by omega)
    rcases Nat.lt_or_ge i a with h | h
    ·exact hall i h
    ·have : i = a := by omega
     subst this
     exact hr
  ·refine rnT ?_
   refine KW.round (b + 1, fv, n) [1, 3, 4, 17, 18] rfl ⟨by show b + 1 ≤ _; omega, hW, hTW, ⟨zs, hO, h2, h3⟩, h4g, by show n ≤ b + 1; omega, ?_⟩ (by show N.offs.length - (b + 1) < N.offs.length - b; omega)
   show n = 0 ↔ ∀ x y, y < b + 1 → x < N.offs.length → ReachL (lnOf N) x y
   rw [hre]
   refine ⟨fun h x y hy hx => ?_, fun h x y hy hx => h x y (by omega) hx⟩
   rcases Nat.lt_or_ge y b with h' | h'
   ·exact h x y h' hx
   ·have : y = b := by omega
    subst this
    exact hall x (by omega)
 ·have hbl : b = N.offs.length := by omega
  subst hbl
  obtain ⟨Z, zc, hzv, _⟩ := hO.form
  subst hzv
  refine rnT ?_
  refine ret1 Tryz.results34 rfl (⟨f1.below.step hW, _, _, _, rfl, ?_⟩)
  rw [hre]
  exact ⟨fun h => ⟨hcons, fun a b ha hb => h a b hb ha⟩, fun h a b hb ha => h.all a b ha hb⟩
end Go.Proofs.YtnjknkgomhmlfaaGreatDoor
namespace Go.Proofs
open Go.Shelf
def Tryz.lays189_ren : Go.Shelf.Ren := ⟨fun | 189 => 128 | 125 => 161 | 257 => 160 | 128 => 176 | 129 => 177 | 294 => 167 | 295 => 168 | 296 => 169 | 297 => 170 | 298 => 171 | 299 => 172 | 216 => 173 | 300 => 174 | 301 => 175 | 328 => 185 | 329 => 186 | 330 => 187 | 331 => 188 | 332 => 189 | 215 => 125 | 343 => 192 | n => n, fun | 28 => 48 | 3 => 3 | 46 => 202 | 0 => 0 | 51 => 96 | 53 => 223 | 4 => 4 | 183 => 215 | 182 => 214 | 131 => 219 | 5 => 5 | 9 => 9 | 218 => 224 | 222 => 228 | 228 => 231 | 229 => 144 | n => n, fun | n => n⟩
theorem Tryz.lays189 : Go.Proofs.Lays.n189 Tryz.prog Tryz.lays189_ren := {
 mixed := by kernel_rfl
 f125 := Tryz.func161.trans (congrArg some (by kernel_rfl))
 f128 := Tryz.func176.trans (congrArg some (by kernel_rfl))
 f129 := Tryz.func177.trans (congrArg some (by kernel_rfl))
 f189 := Tryz.func128.trans (congrArg some (by kernel_rfl))
 f215 := Tryz.func125.trans (congrArg some (by kernel_rfl))
 f216 := Tryz.func173.trans (congrArg some (by kernel_rfl))
 f257 := Tryz.func160.trans (congrArg some (by kernel_rfl))
 f294 := Tryz.func167.trans (congrArg some (by kernel_rfl))
 f295 := Tryz.func168.trans (congrArg some (by kernel_rfl))
 f296 := Tryz.func169.trans (congrArg some (by kernel_rfl))
 f297 := Tryz.func170.trans (congrArg some (by kernel_rfl))
 f298 := Tryz.func171.trans (congrArg some (by kernel_rfl))
 f299 := Tryz.func172.trans (congrArg some (by kernel_rfl))
 f300 := Tryz.func174.trans (congrArg some (by kernel_rfl))
 f301 := Tryz.func175.trans (congrArg some (by kernel_rfl))
 f328 := Tryz.func185.trans (congrArg some (by kernel_rfl))
 f329 := Tryz.func186.trans (congrArg some (by kernel_rfl))
 f330 := Tryz.func187.trans (congrArg some (by kernel_rfl))
 f331 := Tryz.func188.trans (congrArg some (by kernel_rfl))
 f332 := Tryz.func189.trans (congrArg some (by kernel_rfl))
 f343 := Tryz.func192.trans (congrArg some (by kernel_rfl))
 t0 := Tryz.underlying0
 a0 := Tryz.isAgg0
 z0 := Tryz.sizeOf0
 v0 := Tryz.zeroValue0
 t3 := Tryz.underlying3
 a3 := Tryz.isAgg3
 z3 := Tryz.sizeOf3
 v3 := Tryz.zeroValue3
 t4 := Tryz.underlying4
 a4 := Tryz.isAgg4
 z4 := Tryz.sizeOf4
 v4 := Tryz.zeroValue4
 t5 := Tryz.underlying5
 a5 := Tryz.isAgg5
 z5 := Tryz.sizeOf5
 v5 := Tryz.zeroValue5
 t9 := Tryz.underlying9
 a9 := Tryz.isAgg9
 z9 := Tryz.sizeOf9
 v9 := Tryz.zeroValue9
 t28 := Tryz.underlying48
 a28 := Tryz.isAgg48
 z28 := Tryz.sizeOf48
 v28 := Tryz.zeroValue48
 t46 := Tryz.underlying202
 a46 := Tryz.isAgg202
 z46 := Tryz.sizeOf202
 v46 := Tryz.zeroValue202
 t51 := Tryz.underlying96
 a51 := Tryz.isAgg96
 z51 := Tryz.sizeOf96
 v51 := Tryz.zeroValue96
 t53 := Tryz.underlying223
 a53 := Tryz.isAgg223
 z53 := Tryz.sizeOf223
 v53 := Tryz.zeroValue223
 t131 := Tryz.underlying219
 a131 := Tryz.isAgg219
 z131 := Tryz.sizeOf219
 v131 := Tryz.zeroValue219
 t182 := Tryz.underlying214
 a182 := Tryz.isAgg214
 z182 := Tryz.sizeOf214
 v182 := Tryz.zeroValue214
 t183 := Tryz.underlying215
 a183 := Tryz.isAgg215
 z183 := Tryz.sizeOf215
 v183 := Tryz.zeroValue215
 t218 := Tryz.underlying224
 a218 := Tryz.isAgg224
 z218 := Tryz.sizeOf224
 v218 := Tryz.zeroValue224
 t222 := Tryz.underlying228
 a222 := Tryz.isAgg228
 z222 := Tryz.sizeOf228
 v222 := Tryz.zeroValue228
 t228 := Tryz.underlying231
 a228 := Tryz.isAgg231
 z228 := Tryz.sizeOf231
 v228 := Tryz.zeroValue231
 t229 := Tryz.underlying144
 a229 := Tryz.isAgg144
 z229 := Tryz.sizeOf144
 v229 := Tryz.zeroValue144 }
open Go.Sort Go.RowKit in
theorem Tryz.slices_Sort_int (blk off cap : Nat) (zs : List Int) (w : World) (hH : Holds (Value.int .i64) w blk off zs.toArray) (hblk : blk < w.heap.size) (hsz : zs.length < 4611686018427387904) :
  Calls Tryz.prog 128 #[.slice (some ⟨blk, off, none⟩) zs.length cap] w fun e w' =>
   e = .returned (.tuple #[]) ∧ ∃ n os, w' = grow (putRow (Value.int .i64) (Sort.ahead w n) blk off (zs.mergeSort fun x y => decide (x ≤ y)).toArray) os := Any.slices_Sort_int Tryz.lays189 blk off cap zs w hH hblk hsz
open Go.RowKit Go.Sort in
theorem Tryz.slices_Sort_int_none (p : Option Addr) (cap : Nat) (w : World) :
  Calls Tryz.prog 128 #[.slice p 0 cap] w fun e w' => e = .returned (.tuple #[]) ∧ w' = w := Any.slices_Sort_int_none Tryz.lays189 p cap w
end Go.Proofs
namespace Go.Proofs.YtnjknkgomhmlfaaGreatDoor
open Go.PF Go.RowKit Go.Ord
attribute [local irreducible] TW CW KW DW
variable {w : World} {gf : FuncId} {cap : List Value} {own : Nat → Prop} {Pos : List Int → Int → Prop} {Done : List Int → Prop}
theorem Below.putCtl {n D : Nat} {w0 : World} {o : Obj} (h : Below n w0 w) (hD : n ≤ D) : Below n w0 (w.putObj D o) :=
 ⟨h.os, h.tape, h.output, by simpa [World.putObj] using h.size, fun i hi => (World.putObj_heap_other (by omega)).trans (h.block i hi)⟩
theorem sort_c {v : Value} {xs : List Int} (h : OwnS w 3 1 v xs.length (xs.map (Value.int .i64))) (hn : xs.length < 4611686018427387904) :
  Gives Tryz.prog 128 #[v] w fun _ w' => w.grownBy w' v.ownBlock ∧ OwnS w' 3 1 v xs.length ((xs.mergeSort fun x y => decide (x ≤ y)).map (Value.int .i64)) := by
 rcases h.2 with ⟨rfl, h0⟩ | ⟨g, cap, cur, rfl, hg, hh, h1, h2, h3, h4⟩
 ·have hx : xs = [] := List.eq_nil_of_length_eq_zero h0
  subst hx
  refine (Tryz.slices_Sort_int_none none 0 w).mono ?_
  rintro e w' ⟨rfl, rfl⟩
  exact ⟨_, rfl, ⟨rfl, rfl, rfl, Nat.le_refl _, fun _ _ _ => rfl⟩, by simpa using OwnS.nil w' _ 1⟩
 ·have hH := holds_of_blockI (ss := xs) hh (by rw [Nat.mul_one] at h4; exact h4)
  refine (Tryz.slices_Sort_int g 0 cap xs w hH (Array.getElem?_eq_some_iff.1 hh).1 hn).mono ?_
  rintro e w' ⟨rfl, n, os, rfl⟩
  exact ⟨_, rfl, grownBy_sortedI _, ownsRow_sortedI (by simp [List.length_mergeSort]) hg hh h1 h2 h3⟩
def keyPos (ks : List Int) (pre : List Int) (x : Int) : Prop := (pre ++ [x]).Nodup ∧ ∀ y ∈ pre ++ [x], y ∈ ks
def keyAll (ks : List Int) (xs : List Int) : Prop := xs.Nodup ∧ ∀ y, y ∈ xs ↔ y ∈ ks
theorem keys_iter {g bm : Nat} {m : List (Int × Value)} (hg : Blk w g 155 [.map (some bm)]) (hm : MapL intK w bm m) :
  IterOK Tryz.prog 129 [.pointer (some ⟨g, 0, none⟩)] (fun x : Int => [.int .i64 x]) (keyPos (m.map (·.1))) (keyAll (m.map (·.1))) (fun k => k = g ∨ k = bm) w := by
 intro yl J Jx W M hown hsz hyl hM hMlt hJ hJx hy h0
 have hgW : Blk W g 155 [.map (some bm)] := (hown g (.inl rfl) hg.lt).trans hg
 have hmW : MapL intK W bm m := hm.kept (hown bm (.inr rfl) hm.lt)
 have hkn := hm.keys
 refine gv Tryz.func129 Tryz.ntmps129 ?_
 refine rnT ?_
 refine TW.ld rfl (hgW.cell 0) ?_
 refine TW.rangeM intK rfl rfl Tryz.underlying155 rfl hmW ?_
 rintro it w1 hit hw1 hb1 hwk
 refine rnT ?_
 refine CW.pk [0, 1, 5] rfl ?_
 refine CW.loopS (fun x : List Int × (Nat → Prop) × Option (Int × Value) => [(0, none, .func (.yield yl) #[] #[]), (5, none, .pointer (some ⟨it, 0, none⟩))])
  (fun x W' => J x.1 x.2.1 W' ∧ WalkM intK W' it bm m x.1 x.2.2 ∧ W.heap.size < W'.heap.size ∧ (∀ k, x.2.1 k → k < W'.heap.size) ∧ ¬ x.2.1 it ∧ ¬ x.2.1 bm ∧ x.1.Nodup ∧ ∀ y ∈ x.1, y ∈ m.map (·.1))
  (fun x => m.length - x.1.length) ([], M, none) [0, 5]
  ⟨hJ _ _ _ _ h0 (.of_below hb1), hwk, by show W.heap.size < w1.heap.size; omega, fun k hk => by have := hMlt k hk; show k < w1.heap.size; omega, fun h => by have := hMlt _ h; omega, (hM bm (.inr rfl)).1, List.nodup_nil, fun y hy => by cases hy⟩ rfl ?_
 rintro ⟨pre, M1, lst⟩ W1 ⟨hj, hwk1, hsz1, hM1, hMit, hMbm, hnd, hsub⟩
 dsimp only at hj hwk1 hM1 hMit hMbm hnd hsub hsz1
 refine rnT ?_
 refine TW.nextM intK rfl rfl rfl hwk1 (fun hall => ?_) (fun k v w2 hkv hkn' hs2 hbut2 hext2 hwk2 => ?_)
 ·skip
  refine rnT ?_
  refine CW.pk [0, 5, 7] rfl ?_
  refine CW.cond rfl (fun h1 => ?_) (fun h2 => ?_)
  ·exact absurd h1 (by simp)
  ·refine rnT ?_
   refine end0 Tryz.results129 (.inl ⟨pre, M1, ⟨hnd, fun y => ⟨fun h => hsub y h, fun h => ?_⟩⟩, hj⟩)
   rw [List.mem_map] at h
   obtain ⟨p, hp, rfl⟩ := h
   exact hall p hp
 ·skip
  refine rnT ?_
  refine CW.pk [0, 5, 7] rfl ?_
  refine CW.cond rfl (fun h1 => ?_) (fun h2 => ?_)
  ·refine rnT ?_
   refine TW.entryM intK rfl rfl rfl hwk2 ?_
   refine rnT ?_
   have hpos : keyPos (m.map (·.1)) pre k := by
    refine ⟨List.nodup_append.2 ⟨hnd, by simp, fun a ha b hb e => ?_⟩, fun y hy => ?_⟩
    ·rw [List.mem_singleton] at hb
     subst hb
     subst e
     exact hkn' ha
    ·rcases List.mem_append.1 hy with h | h
     ·exact hsub y h
     ·rw [List.mem_singleton] at h
      subst h
      exact List.mem_map.2 ⟨(y, v), hkv, rfl⟩
   have hj2 : J pre M1 w2 := hJ _ _ _ _ hj (hext2.less (by omega))
   refine TW.yield rfl rfl rfl (Args.cons rfl ct Args.nil) (hy pre k M1 w2 hj2 hpos (fun q hq => by have := hM1 q hq; omega) (by omega)) ?_
   rintro yb W3 hR
   refine rnT ?_
   refine CW.pk [0, 3, 5, 13] rfl ?_
   refine CW.cond rfl (fun hno => ?_) (fun hgo => ?_)
   ·refine rnT ?_
    refine ret0 Tryz.results129 (.inr ?_)
    obtain ⟨M', hx⟩ := hR.no (by simpa using hno)
    exact ⟨_, M', hx⟩
   ·refine rnT ?_
    obtain ⟨M', hj3, hm3⟩ := hR.yes (by simpa using hgo)
    have hitlt : it < w2.heap.size := by obtain ⟨o, ho, _⟩ := hwk2.iter; exact (Array.getElem?_eq_some_iff.1 ho).1
    have hbmlt : bm < w2.heap.size := by have := hmW.lt; omega
    refine KW.round (pre ++ [k], M', some (k, v)) [0, 5] rfl ⟨hj3, hwk2.kept (hR.kept it hitlt hMit (by omega)) (hR.kept bm hbmlt hMbm (hM bm (.inr rfl)).2), by have := hR.size; show W.heap.size < W3.heap.size; omega, fun q hq => (hm3 q hq).2, fun h => ?_, fun h => ?_, hpos.1, hpos.2⟩ ?_
    ·rcases (hm3 _ h).1 with h | h
     ·exact hMit h
     ·omega
    ·rcases (hm3 _ h).1 with h | h
     ·exact hMbm h
     ·omega
    ·have hle := nodup_len (l := pre ++ [k]) (k := m.map (·.1)) hpos.1 hpos.2
     show m.length - (pre ++ [k]).length < m.length - pre.length
     simp at hle ⊢
     omega
  ·exact absurd h2 (by simp)
theorem keys_c {bm : Nat} : Gives Tryz.prog 91 #[.map (some bm)] w fun u w' => Below w.heap.size w w' ∧ ∃ g, u = .func (.func 129) #[] [.pointer (some ⟨g, 0, none⟩)].toArray ∧ Blk w' g 155 [.map (some bm)] := by
 refine gv Tryz.func91 Tryz.ntmps91 ?_
 refine rnT ?_
 refine TW.box rfl rfl rfl rfl ?_
 rintro g w1 f1
 refine rnT ?_
 refine TW.pk [0, 1, 2] rfl ?_
 refine TW.makeFunc rfl rfl (Args.cons rfl ct Args.nil) ?_
 refine rnT ?_
 refine ret1 Tryz.results91 rfl (⟨f1.below, g, rfl, f1.blk⟩)
theorem IterOK.later {α : Type} {enc : α → List Value} {Pos : List α → α → Prop} {Done : List α → Prop} {w' : World} (h : IterOK Tryz.prog gf cap enc Pos Done own w) (hb : Below w.heap.size w w') : IterOK Tryz.prog gf cap enc Pos Done own w' := by
 intro l J Jx W M h1 h2
 exact h l J Jx W M (fun k hk hlt => (h1 k hk (Nat.lt_of_lt_of_le hlt hb.size)).trans (hb.block k hlt)) (Nat.le_trans hb.size h2)
theorem appendSeq_c (hit : IterOK Tryz.prog gf cap (fun x : Int => [.int .i64 x]) Pos Done own w) (hen : enters Tryz.prog gf = true) (hown : ∀ k, own k → k < w.heap.size) (hbd : ∀ pre x, Pos pre x → pre.length ≤ 1000000000) :
  Gives Tryz.prog 159 #[.slice none 0 0, .func (.func gf) #[] cap.toArray] w fun v w' => Below w.heap.size w w' ∧ ∃ xs, Done xs ∧ OwnS w' 3 1 v xs.length (xs.map (Value.int .i64)) ∧ ∀ g, v.ownBlock = some g → w.heap.size ≤ g := by
 refine gvM Tryz.func159 Tryz.ntmps159 ?_
 refine rnT ?_
 refine TW.box rfl rfl rfl rfl ?_
 rintro g2 w1 f1
 refine rnT ?_
 refine CW.pk [0, 1, 2, 4, 6] rfl ?_
 have hg2 := f1.at_
 have hs1 := f1.size
 refine CW.range rfl hen (IterOK.later hit f1.below) rfl (fun _ => rfl)
  (fun pre M W => Below w.heap.size w W ∧ ∃ vf, Blk W g2 48 [vf] ∧ OwnS W 3 1 vf pre.length (pre.map (Value.int .i64)) ∧ (∀ q, vf.ownBlock = some q → w1.heap.size ≤ q) ∧ M = fun k => k = g2 ∨ vf.ownBlock = some k)
  (fun c pre M W => False) (fun k => k = g2)
  (fun k hk => by subst hk; exact ⟨by omega, fun h => by have := hown _ h; omega⟩) (fun k hk => by have := hown k hk; omega)
  (fun pre M W1 W2 ⟨a1, vf, a2, a3, a4, a5⟩ hx => ⟨(hx.less (by omega)).below a1 (Nat.le_refl _), vf, a2.ext hx, a3.ext hx, a4, a5⟩)
  (fun c pre M W1 W2 h hx => h)
  ⟨f1.below, .slice none 0 0, f1.blk, OwnS.nil _ _ _, fun q hq => by simp [Value.ownBlock] at hq, by funext k; simp [Value.ownBlock]⟩ ?_ ?_ ?_
 ·rintro D L pre p M W hD hL ⟨a1, vf, a2, a3, a4, rfl⟩ hpos hMlt hML hMD hrec
  have hpl := hbd pre p hpos
  refine rnT ?_
  refine KW.begin hrec fun W2 hx hsz hk hrec2 => ?_
  have a2' : Blk W2 g2 48 [vf] := a2.ext hx
  have a3' := a3.ext hx
  have a1' : Below w.heap.size w W2 := (hx.less (by omega)).below a1 (Nat.le_refl _)
  refine rnT ?_
  refine TW.ld rfl (a2'.cell 0) ?_
  refine rnT ?_
  refine TW.buildSlice 3 _ rfl rfl rfl eo48 (Args.cons rfl ct Args.nil) rfl rfl rfl rfl rfl ?_
  rintro g3 w3 f3
  have o3 := a3'.below f3.below
  refine TW.append [.int .i64 p] rfl rfl go48 rfl o3 rfl rfl (fun j v hj => ⟨⟨g3, 0, none⟩, rfl, f3.blk.fld hj⟩) (fun v hv => by simp at hv; subst hv; rfl) (by omega) (by omega) ?_
  rintro vf' w4 o4 hg4 hn4
  have s3 := f3.below.size
  have hL2 : L < W2.heap.size := hrec2.lt
  have hvlt : ∀ q, vf.ownBlock = some q → q < W2.heap.size := fun q hq => a3'.lt hq
  have hLv : vf.ownBlock ≠ some L := fun e => hML (.inr e)
  have hDv : vf.ownBlock ≠ some D := fun e => hMD (.inr e)
  have hLg : L ≠ g2 := fun e => hML (.inl e)
  have hDg : D ≠ g2 := fun e => hMD (.inl e)
  have b4 : Blk w4 g2 48 [vf] := Blk.keptO (a2'.next f3.below) hg4 (fun e => by have := a4 _ e; omega)
  obtain ⟨A4, c4, hv4, _⟩ := o4.form
  have h14 : vf'.oneCell' = true := by rw [hv4]; rfl
  refine TW.store1 rfl sz48 rfl rfl (b4.cell 0) (b4.frozen 0) h14 ?_
  refine rnT ?_
  have rec4 : w4.heap[L]? = W2.heap[L]? := (hg4.block L (by omega) (fun e => hLv e.symm)).trans (f3.below.block L hL2)
  have hw4 : Below w.heap.size w w4 := (a1'.step f3.below).grown hg4 (a1'.step f3.below).size (fun q hq => by have := a4 q hq; omega)
  have hsz4 : W2.heap.size ≤ w4.heap.size := Nat.le_trans s3 hg4.size
  have hnew : ∀ q, vf'.ownBlock = some q → vf.ownBlock = some q ∨ q = w3.heap.size := fun q hq => by
   rcases hn4 with h | h
   ·exact .inl (by rw [← h]; exact hq)
   ·rw [h] at hq; cases hq; exact .inr rfl
  have hw1 : w1.heap.size ≤ W2.heap.size := by omega
  have o5 : OwnS (w4.setCell ⟨g2, 0, none⟩ vf') 3 1 vf' (pre.length + 1) (pre.map (Value.int .i64) ++ [.int .i64 p]) := o4.kept fun q hq => Below.heap_setCell _ _ _ _ (fun e => by
   have e : q = g2 := e
   rcases hnew q hq with h | h
   ·have := a4 q h; omega
   ·omega)
  refine KW.endN (hrec2.kept ((Below.heap_setCell _ _ _ _ (by show L ≠ g2; exact hLg)).trans rec4)) fun W5 hx5 hsz5 hk5 hrec5 => ?_
  have hs5 : W5.heap.size = w4.heap.size := by rw [hsz5]; simp
  refine ⟨by omega, fun k hk1 hk2 hk3 => ?_, fun _ => ⟨fun k => k = g2 ∨ vf'.ownBlock = some k, ⟨⟨(hx5.less (by omega)).below (hw4.setCell (by show w.heap.size ≤ g2; omega) _) (Nat.le_refl _), vf', (b4.set 0 vf').ext hx5, by simpa using o5.ext hx5, fun q hq => ?_, rfl⟩, fun h => ?_, fun h => ?_, hrec5⟩, fun k hk => ?_⟩, fun h => by cases h⟩
  ·refine (hk5 k hk3).trans ((Below.heap_setCell _ _ _ _ (fun e => hk2 (.inl e))).trans ((hg4.block k (by omega) (fun e => hk2 (.inr e.symm))).trans ((f3.below.block k (by omega)).trans (hk k hk3))))
  ·rcases hnew q hq with h | h
   ·exact a4 q h
   ·omega
  ·rcases h with h | h
   ·exact hLg h
   ·rcases hnew L h with h | h
    ·exact hLv h
    ·omega
  ·rcases h with h | h
   ·exact hDg h
   ·rcases hnew D h with h | h
    ·exact hDv h
    ·omega
  ·rcases hk with rfl | hk
   ·exact ⟨.inl (.inl rfl), by omega⟩
   ·rcases hnew k hk with h | h
    ·exact ⟨.inl (.inr h), by have := hvlt k h; omega⟩
    ·refine ⟨.inr (by omega), ?_⟩
     have := o4.lt hk
     omega
 ·rintro D xs M W hD hdone ⟨a1, vf, a2, a3, a4, rfl⟩ hdef
  refine KW.blockN (KW.then_ ?_)
  refine rnT ?_
  refine TW.ld rfl (a2.cell 0) ?_
  refine rnT ?_
  have hgD : g2 ≠ D := fun e => by subst e; unfold Blk at a2; rw [hdef] at a2; cases a2
  refine ret1M Tryz.results159 rfl hdef ⟨Below.putCtl a1 (by omega), xs, hdone, a3.kept fun q hq => World.putObj_heap_other (fun e => ?_), fun q hq => by have := a4 q hq; omega⟩
  subst e
  rcases a3.2 with ⟨rfl, _⟩ | ⟨g', cap', cur, hv, _, hh, _⟩
  ·simp [Value.ownBlock] at hq
  ·rw [hv] at hq
   simp [Value.ownBlock] at hq
   subst hq
   rw [hdef] at hh
   cases hh
 ·rintro D c pre M W hD h
  exact h.elim
theorem collect_c (hit : IterOK Tryz.prog gf cap (fun x : Int => [.int .i64 x]) Pos Done own w) (hen : enters Tryz.prog gf = true) (hown : ∀ k, own k → k < w.heap.size) (hbd : ∀ pre x, Pos pre x → pre.length ≤ 1000000000) :
  Gives Tryz.prog 127 #[.func (.func gf) #[] cap.toArray] w fun v w' => Below w.heap.size w w' ∧ ∃ xs, Done xs ∧ OwnS w' 3 1 v xs.length (xs.map (Value.int .i64)) ∧ ∀ g, v.ownBlock = some g → w.heap.size ≤ g := by
 refine gv Tryz.func127 Tryz.ntmps127 ?_
 refine rnT ?_
 refine TW.cl en159 rfl (appendSeq_c hit hen hown hbd) ?_
 rintro y1 w1 h1
 refine rnT ?_
 refine ret1 Tryz.results127 rfl (h1)
theorem sorted_c (hit : IterOK Tryz.prog gf cap (fun x : Int => [.int .i64 x]) Pos Done own w) (hen : enters Tryz.prog gf = true) (hown : ∀ k, own k → k < w.heap.size) (hbd : ∀ pre x, Pos pre x → pre.length ≤ 1000000000) (hdb : ∀ xs, Done xs → xs.length ≤ 1000000000) :
  Gives Tryz.prog 90 #[.func (.func gf) #[] cap.toArray] w fun v w' => Below w.heap.size w w' ∧ ∃ xs, Done xs ∧ OwnS w' 3 1 v xs.length ((xs.mergeSort fun x y => decide (x ≤ y)).map (Value.int .i64)) ∧ ∀ g, v.ownBlock = some g → w.heap.size ≤ g := by
 refine gv Tryz.func90 Tryz.ntmps90 ?_
 refine rnT ?_
 refine TW.cl en127 rfl (collect_c hit hen hown hbd) ?_
 rintro y1 w1 ⟨hb1, xs, hd, hO, hg⟩
 refine rnT ?_
 have hxl : xs.length < 4611686018427387904 := by have := hdb xs hd; omega
 refine TW.cl en128 rfl (sort_c hO hxl) ?_
 rintro y2 w2 ⟨hg2, hO2⟩
 refine rnT ?_
 refine ret1 Tryz.results90 rfl (⟨hb1.grown hg2 hb1.size hg, xs, hd, hO2, hg⟩)
def Cnts (w : World) (b : Nat) (S : List Int) (T : Int) : Prop := ∃ m, MapL intK w b m ∧ (∀ x, x ∈ m.map (·.1) ↔ x ∈ S) ∧ ∀ p ∈ m, ∃ c : Int, p.2 = .int .i64 c ∧ 0 ≤ c ∧ c ≤ T
theorem recordsOf_c {v : Value} {l : List Ev} (hl : SE w v l) (hsm : l.length ≤ 1000) (hne : ∀ e ∈ l, e.needs.length ≤ 1000) :
  Gives Tryz.prog 55 #[v] w fun x w' => Below w.heap.size w w' ∧ OwnS w' 3 1 x (recsS l).length ((recsS l).map (Value.int .i64)) ∧ ∀ g, x.ownBlock = some g → w.heap.size ≤ g := by
 obtain ⟨A, cap, rfl, _⟩ := hl.form
 refine gv Tryz.func55 Tryz.ntmps55 ?_
 refine rnT ?_
 refine TW.pk [0, 2] rfl ?_
 refine TW.makeMapL intK rfl rfl ?_
 rintro b w1 hbw hw1 hb1 hM1
 refine rnT ?_
 refine CW.pk [0, 2, 3, 9, 10, 11] rfl ?_
 refine CW.loopS (fun i : Nat => [(3, none, .map (some b)), (9, none, .slice A l.length cap), (10, none, .int .i64 (l.length : Int)), (11, none, .int .i64 (i : Int))])
  (fun i W => i ≤ l.length ∧ But b w1 W ∧ Cnts W b (needsOf (l.take i)) (i * 1000)) (fun i => l.length - i) 0 [3, 9, 10, 11] ⟨Nat.zero_le _, But.of_below (Below.refl _ _), [], hM1, fun x => by simp [needsOf], fun p hp => by cases hp⟩ rfl ?_
 rintro i W ⟨hi, hbut, hC⟩
 have hbW : Below w.heap.size w W := But.below hb1 hbut (by omega)
 refine rnT ?_
 refine CW.pk [3, 9, 10, 11, 12] rfl ?_
 refine CW.condP rfl (fun hlt => ?_) (fun hge => ?_)
 ·have hil : i < l.length := by omega
  have hlW := se_step hl hbW
  obtain ⟨ad, rfl⟩ := hlW.addr (by omega)
  obtain ⟨e, he⟩ : ∃ e, l[i]? = some e := ⟨l[i], List.getElem?_eq_getElem hil⟩
  obtain ⟨nv, hcells, i1, i2, i3, hneeds⟩ := SE.get hlW he
  obtain ⟨C, ncap, rfl, _⟩ := hneeds.form
  have hnl := hne e (List.mem_of_getElem? he)
  refine rnT ?_
  refine TW.loadS _ rfl rfl Tryz.underlying50 sz50 rfl ct (fun _ => hcells) rfl ?_
  refine TW.newVar rfl zc50 rfl sz50 rfl rfl ?_
  rintro g2 w2 f2
  refine rnT ?_
  refine TW.ld rfl (f2.blk.fld rfl) ?_
  refine rnT ?_
  refine CW.pk [3, 5, 9, 10, 11, 16, 17, 18] rfl ?_
  refine CW.loopS (fun j : Nat => [(3, none, .map (some b)), (9, none, .slice (some ad) l.length cap), (10, none, .int .i64 (l.length : Int)), (11, none, .int .i64 (i : Int)), (16, none, .slice C e.needs.length ncap), (17, none, .int .i64 (e.needs.length : Int)), (18, none, .int .i64 (j : Int))])
   (fun j W' => j ≤ e.needs.length ∧ But b w1 W' ∧ But b w2 W' ∧ Cnts W' b (needsOf (l.take i) ++ e.needs.take j) (i * 1000 + j)) (fun j => e.needs.length - j) 0 [3, 9, 10, 11, 16, 17, 18] ⟨Nat.zero_le _, hbut.step f2.below, But.of_below (Below.refl _ _), ?_⟩ rfl ?_
  ·obtain ⟨m, h1, h2, h3⟩ := hC
   exact ⟨m, h1.below f2.below, by simpa using h2, by simpa using h3⟩
  rintro j W' ⟨hj, hbut1, hbut2, m, hm, hmk, hmv⟩
  have hbW' : Below w.heap.size w W' := But.below hb1 hbut1 (by omega)
  refine rnT ?_
  refine CW.pk [3, 9, 10, 11, 16, 17, 18, 19] rfl ?_
  refine CW.condP rfl (fun hlt2 => ?_) (fun hge2 => ?_)
  ·have hjl : j < e.needs.length := by omega
   have hn' : SL intT (fun k => k < w.heap.size) W' (.slice C e.needs.length ncap) e.needs := by
    obtain ⟨nv', hcells', _, _, _, hneeds'⟩ := SE.get hl he
    have hcw := hcells' 3 nv' rfl
    have hcW := (hbW.cell (block_lt_of_cell hcw)).trans hcw
    have := hcells 3 _ rfl
    rw [hcW] at this
    cases this
    exact hneeds'.below hbW'
   obtain ⟨ad2, rfl⟩ := hn'.addr (by omega)
   have hx : e.needs[j]? = some e.needs[j] := List.getElem?_eq_getElem hjl
   refine rnT ?_
   refine TW.ld rfl (hn'.getI hx) ?_
   refine rnT ?_
   refine TW.lookup1 intK e.needs[j] rfl rfl Tryz.underlying155 ze3 rfl rfl hm ?_
   rintro vc hvc
   obtain ⟨c, rfl, hc0, hc1⟩ : ∃ c : Int, vc = .int .i64 c ∧ 0 ≤ c ∧ c ≤ i * 1000 + j := by
    rcases hvc with h | ⟨_, rfl⟩
    ·exact hmv _ h
    ·exact ⟨0, rfl, by omega, by omega⟩
   refine rnT ?_
   refine TW.mapUpdateL intK e.needs[j] rfl Tryz.underlying155 rfl rfl rfl hm ?_
   rintro w4 hs4 hbut4 hM4
   refine rnT ?_
   refine KW.round (j + 1) [3, 9, 10, 11, 16, 17, 18] rfl ⟨by omega, hbut1.trans hbut4, hbut2.trans hbut4, _, hM4, fun x => ?_, fun p hp => ?_⟩ (by omega)
   ·rw [List.take_add_one, hx, ← List.append_assoc, List.mem_append, ← hmk x, List.mem_map, List.mem_map]
    constructor
    ·rintro ⟨p, hp, rfl⟩
     rcases mem_lput.1 hp with rfl | ⟨h, _⟩
     ·exact .inr (by simp)
     ·exact .inl ⟨p, h, rfl⟩
    ·rintro (⟨p, hp, rfl⟩ | h)
     ·by_cases hpe : p.1 = e.needs[j]
      ·exact ⟨_, mem_lput.2 (.inl rfl), hpe.symm⟩
      ·exact ⟨p, mem_lput.2 (.inr ⟨hp, hpe⟩), rfl⟩
     ·simp at h
      exact ⟨_, mem_lput.2 (.inl rfl), h.symm⟩
   ·rcases mem_lput.1 hp with rfl | ⟨h, _⟩
    ·exact ⟨c + 1, rfl, by omega, by omega⟩
    ·obtain ⟨c', h1, h2, h3⟩ := hmv p h
     exact ⟨c', h1, h2, by omega⟩
  ·refine rnT ?_
   refine KW.round (i + 1) [3, 9, 10, 11] rfl ⟨by omega, hbut1, m, hm, fun x => ?_, fun p hp => ?_⟩ (by omega)
   ·rw [hmk x, show j = e.needs.length by omega, List.take_length, List.take_add_one, he]
    simp [needsOf, List.flatMap_append]
   ·obtain ⟨c', h1, h2, h3⟩ := hmv p hp
    exact ⟨c', h1, h2, by omega⟩
 ·obtain ⟨m, hm, hmk, hmv⟩ := hC
  rw [show i = l.length by omega, List.take_length] at hmk
  have hmlen : m.length ≤ 1000000 := by
   have h1 := nodup_len (l := m.map (·.1)) (k := needsOf l) hm.keys (fun x hx => (hmk x).1 hx)
   have h2 : ∀ (q : List Ev), (∀ e ∈ q, e.needs.length ≤ 1000) → (needsOf q).length ≤ q.length * 1000 := by
    intro q
    induction q with
    | nil => intro _; simp [needsOf]
    | cons a q ih =>
     intro hq
     have := ih (fun e he => hq e (by simp [he]))
     have h3 := hq a (by simp)
     unfold needsOf at this ⊢
     simp only [List.flatMap_cons, List.length_append, List.length_cons]
     omega
   have := h2 l hne
   simp at h1
   omega
  refine rnT ?_
  refine TW.cl en91 rfl (keys_c) ?_
  rintro y5 w5 ⟨hb5, g5, rfl, hB5⟩
  have q1 : ∀ k, (k = g5 ∨ k = b) → k < w5.heap.size := fun k hk => by
   rcases hk with rfl | rfl
   ·exact hB5.lt
   ·exact (hm.below hb5).lt
  have q2 : ∀ pre x, keyPos (m.map (·.1)) pre x → pre.length ≤ 1000000000 := fun pre x hp => by
   have := nodup_len (l := pre ++ [x]) (k := m.map (·.1)) hp.1 hp.2
   simp at this
   omega
  have q3 : ∀ xs, keyAll (m.map (·.1)) xs → xs.length ≤ 1000000000 := fun xs hx => by
   have := nodup_len (l := xs) (k := m.map (·.1)) hx.1 (fun y hy => (hx.2 y).1 hy)
   simp at this
   omega
  refine TW.cl en90 rfl (sorted_c (keys_iter hB5 (hm.below hb5)) en129 q1 q2 q3) ?_
  rintro y6 w6 ⟨hb6, xs, hxs, hO6, hg6⟩
  have hrec : recsS l = xs.mergeSort fun x y => decide (x ≤ y) := by
   refine inc_ext (recsS_inc l) (inc_sorted hxs.1) (fun x => ?_)
   rw [List.mem_mergeSort, hxs.2 x, hmk x, mem_recsS]
   unfold needsOf
   rw [List.mem_flatMap]
  refine rnT ?_
  refine ret1 Tryz.results55 rfl (⟨(hbW.step hb5).step hb6, ?_, fun q hq => by have := hg6 q hq; have := hb5.size; have := hbW.size; omega⟩)
  rw [hrec, List.length_mergeSort]
  exact hO6
end Go.Proofs.YtnjknkgomhmlfaaGreatDoor
namespace Go.PF
open Go.RowKit
section
variable {P : Program} {r : Option Nat} {Q : Exit → Act → World → Prop} {N : Nat} {ds : List Deferred}
theorem CW.loopD0 {α : Type} {c : Code} {E0 : Env} {w : World} (Dd : α → List Deferred) (E : α → Env) (J : α → World → Prop) (m : α → Nat) (x0 : α) (h0 : J x0 w) (hE : ∀ a, Fit N ds E0 a → Fit N (Dd x0) (E x0) a)
  (round : ∀ x w, J x w → CW P r (Exit.then (fun a' w' => ∃ x', Fit N (Dd x') (E x') a' ∧ J x' w' ∧ m x' < m x) Q) N (Dd x) c (E x) w) : CW P r Q N ds (.loop c) E0 w := by
 classical
 intro a ha
 let I : Act → World → Prop := fun a w => ∃ x, Fit N (Dd x) (E x) a ∧ J x w
 let M : Act → World → Nat → Prop := fun a w n => ∃ x, Fit N (Dd x) (E x) a ∧ J x w ∧ m x = n
 have hex : ∀ a w, I a w → ∃ n, M a w n ∧ ∀ k, M a w k → n ≤ k := by
  intro a w ⟨x, h1, h2⟩
  have key : ∀ k, (∃ j, j ≤ k ∧ M a w j) → ∃ n, M a w n ∧ ∀ k, M a w k → n ≤ k := by
   intro k
   induction k with
   | zero =>
    rintro ⟨j, hj, hm⟩
    have : j = 0 := by omega
    subst this
    exact ⟨0, hm, fun k _ => Nat.zero_le k⟩
   | succ k ih =>
    rintro ⟨j, hj, hm⟩
    by_cases hk : ∃ j, j ≤ k ∧ M a w j
    ·exact ih hk
    ·refine ⟨j, hm, fun i hi => ?_⟩
     rcases Nat.lt_or_ge i j with hlt | hge
     ·exact absurd ⟨i, by omega, hi⟩ hk
     ·exact hge
  exact key (m x) ⟨m x, Nat.le_refl _, x, h1, h2, rfl⟩
 let μ : Act → World → Nat := fun a w => if h : I a w then Classical.choose (hex a w h) else 0
 have hμ : ∀ a w, I a w → ∃ x, Fit N (Dd x) (E x) a ∧ J x w ∧ m x = μ a w := by
  intro a w h
  have := (Classical.choose_spec (hex a w h)).1
  simpa [μ, h] using this
 have hμle : ∀ a w x, Fit N (Dd x) (E x) a → J x w → μ a w ≤ m x := by
  intro a w x h1 h2
  have hI : I a w := ⟨x, h1, h2⟩
  have := (Classical.choose_spec (hex a w hI)).2 (m x) ⟨x, h1, h2, rfl⟩
  simpa [μ, hI] using this
 refine wpIn_loop I μ ⟨x0, hE a ha, h0⟩ fun a1 w1 hI => ?_
 obtain ⟨x, h1, h2, h3⟩ := hμ a1 w1 hI
 refine wpIn_mono (round x w1 h2 a1 h1) fun e a2 w2 hq => ?_
 cases e with
 | normal =>
  obtain ⟨x', q1, q2, q3⟩ := hq
  exact ⟨⟨x', q1, q2⟩, by rw [← h3]; exact Nat.lt_of_le_of_lt (hμle a2 w2 x' q1 q2) q3⟩
 | _ => exact hq
def markOf (D : Nat) : Deferred := { target := .collected D, args := #[] }
theorem CW.loopD {α : Type} {c : Code} {E : Env} {w : World} (Dd : α → List Deferred) (F : α → Env) (J : α → World → Prop) (m : α → Nat) (x0 : α) (is : List Nat) (hD : Dd x0 = ds) (h0 : J x0 w) (hE : PF.pick E is = some (F x0))
  (round : ∀ x w, J x w → CW P r (Exit.then (fun a' w' => ∃ x', Fit N (Dd x') (F x') a' ∧ J x' w' ∧ m x' < m x) Q) N (Dd x) c (F x) w) : CW P r Q N ds (.loop c) E w :=
 CW.loopD0 Dd F J m x0 h0 (fun _ ha => by rw [hD]; exact ha.pick hE) round
theorem KW.roundD {α : Type} {E : Env} {w : World} {Dd : α → List Deferred} {F : α → Env} {J : α → World → Prop} {m : α → Nat} {x : α} (x' : α) (is : List Nat) (hD : Dd x' = ds) (hp : PF.pick E is = some (F x')) (hJ : J x' w) (hm : m x' < m x) :
  KW N ds (Exit.then (fun a' w' => ∃ x', Fit N (Dd x') (F x') a' ∧ J x' w' ∧ m x' < m x) Q .normal) E w :=
 fun _ ha => ⟨x', by rw [hD]; exact ha.pick hp, hJ, hm⟩
variable {fn : Func} {R : Value → World → Prop} {E : Env} {w : World}
theorem leaves_marks (hres : fn.results = #[]) {tmps : Array Value} {n : Nat} : ∀ (Ds : List Nat) (w : World), Ds.Nodup → (∀ D ∈ Ds, n ≤ D ∧ w.heap[D]? = some (.deferred (some []))) → (∀ w', ExtF n w w' → R (.tuple #[]) w') →
  LeavesInM (FR none) 0 P fn tmps (fun e w' => ∃ v, e = .returned v ∧ R v w') (Ds.map markOf) .returning w
 | [], w, _, _, hR => ⟨.tuple #[], results_none hres _ _ _, .tuple #[], rfl, hR w (ExtF.refl _ _)⟩
 | D :: Ds, w, hn, hD, hR => by
  have hn' := List.nodup_cons.1 hn
  obtain ⟨h1, h2⟩ := hD D (by simp)
  have hext : ExtF n w (w.putObj D (.deferred none)) := ExtF.putObj h2 rfl h1
  refine ⟨by simp, .inl ⟨D, _, rfl, run_takeDeferred h2, ?_⟩⟩
  refine leaves_marks hres Ds _ hn'.2 (fun D' hD' => ?_) (fun w' hx => hR w' (hext.trans hx))
  obtain ⟨h3, h4⟩ := hD D' (by simp [hD'])
  exact ⟨h3, (World.putObj_heap_other (fun e => hn'.1 (by rw [← e]; exact hD'))).trans h4⟩
theorem retMs {n : Nat} (Ds : List Nat) (hres : fn.results = #[]) (hn : Ds.Nodup) (hD : ∀ D ∈ Ds, n ≤ D ∧ w.heap[D]? = some (.deferred (some []))) (hR : ∀ w', ExtF n w w' → R (.tuple #[]) w') (e : Exit) (he : e = .ret ∨ e = .normal) :
  KW N (Ds.map markOf) (bodyPostM (FR none) 0 P fn (fun e w' => ∃ v, e = .returned v ∧ R v w') e) E w := by
 intro a ha
 have key : LeavesInM (FR none) 0 P fn a.tmps (fun e w' => ∃ v, e = .returned v ∧ R v w') a.defers .returning w := by
  rw [ha.defers]
  exact leaves_marks hres Ds w hn hD hR
 rcases he with rfl | rfl
 ·exact key
 ·exact key
theorem ret2M0 {s t : Nat} {v u : Value} (hres : fn.results = #[.tmp s, .tmp t]) (hs : look E s = some (none, v)) (ht : look E t = some (none, u)) (hR : R (.tuple #[v, u]) w) : KW N [] (bodyPostM (FR none) 0 P fn (fun e w' => ∃ v, e = .returned v ∧ R v w') .ret) E w := by
 intro a ha
 have key : LeavesInM (FR none) 0 P fn a.tmps (fun e w' => ∃ v, e = .returned v ∧ R v w') a.defers .returning w := by
  rw [ha.defers]
  exact ⟨.tuple #[v, u], by rw [results_tmp2 hres a.tmps P w, (ha.slots s none v hs).1 trivial, (ha.slots t none u ht).1 trivial], _, rfl, hR⟩
 exact key
theorem ret2M {D s t : Nat} {v u : Value} (hres : fn.results = #[.tmp s, .tmp t]) (hs : look E s = some (none, v)) (ht : look E t = some (none, u)) (hD : w.heap[D]? = some (.deferred (some []))) (hR : R (.tuple #[v, u]) (w.putObj D (.deferred none))) :
  KW N ({ target := .collected D, args := #[] } :: []) (bodyPostM (FR none) 0 P fn (fun e w' => ∃ v, e = .returned v ∧ R v w') .ret) E w :=
 retM (fun a W ha _ => by rw [results_tmp2 hres a.tmps P W, (ha.slots s none v hs).1 trivial, (ha.slots t none u ht).1 trivial]) hD hR .ret (.inl rfl)
end
end Go.PF
namespace Go.Proofs.YtnjknkgomhmlfaaGreatDoor
open Go.PF Go.RowKit Go.Ord
attribute [local irreducible] TW CW KW DW
theorem SL.dropS {α : Type} {T : Ty α} {F : Nat → Prop} {w : World} {A : Option Addr} {n c : Nat} {l : List α} (h : SL T F w (.slice A n c) l) {i : Nat} (hi : i ≤ l.length) : SL T F w (.slice (if c = i then A else A.map (·.add (i * T.n))) (n - i) (c - i)) (l.drop i) := by
 obtain ⟨A', c', hv, h1, h2, h3⟩ := h
 simp only [Value.slice.injEq] at hv
 obtain ⟨rfl, rfl, rfl⟩ := hv
 refine ⟨_, _, by rw [List.length_drop], by rw [List.length_drop]; omega, by rw [List.length_drop]; omega, fun j x hx => ?_⟩
 rw [List.getElem?_drop] at hx
 have hlt := (List.getElem?_eq_some_iff.1 hx).1
 obtain ⟨ad, cs, rfl, hF, hc, hr⟩ := h3 (i + j) x hx
 rw [if_neg (by omega)]
 refine ⟨ad.add (i * T.n), cs, rfl, by rw [add_block]; exact hF, fun k u hu => ?_, hr⟩
 have := hc k u hu
 rw [add_add ad (i * T.n) (j * T.n), ← Nat.add_mul]
 exact this
def SetsV (b : Nat) (v : Value) (n : Nat) (u : Value) (W : World) : Prop := ∃ gs gl, u = .func (.func 92) #[] [.pointer (some ⟨gs, 0, none⟩), .pointer (some ⟨gl, 0, none⟩)].toArray ∧ Blk W gs 3 [.int .i64 (n : Int)] ∧ Blk W gl 48 [v] ∧ b ≤ gs ∧ b ≤ gl
theorem SetsV.mono (b : Nat) (v : Value) (n : Nat) : Ent.mono (.pr (SetsV b v n)) := fun _ _ _ hb ⟨gs, gl, h1, h2, h3, h4⟩ => ⟨gs, gl, h1, h2.next hb, h3.next hb, h4⟩
theorem sets_c {w : World} {A : Option Addr} {k c n : Nat} : Gives Tryz.prog 56 #[.slice A k c, .int .i64 (n : Int)] w fun u w' => Below w.heap.size w w' ∧ SetsV w.heap.size (.slice A k c) n u w' := by
 refine gv Tryz.func56 Tryz.ntmps56 ?_
 refine rnT ?_
 refine TW.box rfl rfl rfl rfl ?_
 rintro g1 w1 f1
 refine TW.box rfl rfl rfl rfl ?_
 rintro g2 w2 f2
 refine rnT ?_
 refine TW.pk [0, 1, 2, 3, 4] rfl ?_
 refine TW.makeFunc rfl rfl (Args.cons rfl ct (Args.cons rfl ct Args.nil)) ?_
 refine rnT ?_
 refine ret1 Tryz.results56 rfl (⟨f1.below.step f2.below, g2, g1, rfl, f2.blk, f1.blk.next f2.below, ?_, ?_⟩)
 ·have := f2.at_; have := f1.below.size; omega
 ·have := f1.at_; omega
def setPos (l : List Int) (n : Nat) (w : World) (pre : List (Value × List Int)) (x : Value × List Int) (M : Nat → Prop) (W : World) : Prop := (∃ suf, setsS l n = pre.map (·.2) ++ x.2 :: suf) ∧ SL intT (fun k => w.heap.size ≤ k ∧ ¬ M k) W x.1 x.2
theorem sets_iter : ∀ (n : Nat) {F : Nat → Prop} {v : Value} {l : List Int} {w : World} {gs gl : Nat}, SL intT F w v l → (∀ k, F k → k < w.heap.size) → n ≤ l.length → l.length ≤ 1000 → Blk w gs 3 [.int .i64 (n : Int)] → Blk w gl 48 [v] →
  IterW Tryz.prog 92 [.pointer (some ⟨gs, 0, none⟩), .pointer (some ⟨gl, 0, none⟩)] (fun x : Value × List Int => [x.1]) (setPos l n w) (fun xs => xs.map (·.2) = setsS l n) (fun k => k = gs ∨ k = gl ∨ F k) w := by
 intro n
 induction n with
 | zero =>
  intro F v l w gs gl hl hF hn hsm hgs hgl yl J Jx W M hown hsz hyl hM hMlt hJ hJx hy h0
  have hgsW : Blk W gs 3 [.int .i64 ((0 : Nat) : Int)] := (hown gs (.inl rfl) hgs.lt).trans hgs
  refine gvM Tryz.func92 Tryz.ntmps92 ?_
  refine rnT ?_
  refine TW.box rfl rfl rfl rfl ?_
  rintro g3 w1 f1
  refine rnT ?_
  refine TW.pk [0, 1, 2, 3] rfl ?_
  refine TW.ld rfl ((hgsW.next f1.below).cell 0) ?_
  refine rnT ?_
  refine CW.pk [0, 1, 2, 3, 7] rfl ?_
  refine CW.condP rfl (fun h1 => ?_) (fun h2 => ?_)
  ·refine rnT ?_
   refine TW.ld rfl (f1.blk.cell 0) ?_
   refine TW.buildSlice0 3 rfl rfl eo48 ?_
   rintro g4 w2 f2
   have hb2 := f1.below.step f2.below
   have hj2 : J [] M w2 := hJ _ _ _ _ h0 (.of_below hb2)
   have hs2 := hb2.size
   have hset0 : setsS l 0 = [[]] := by cases l <;> rfl
   refine TW.yield rfl rfl rfl (Args.cons rfl ct Args.nil) (hy [] (.slice (some ⟨g4, 0, none⟩) 0 0, []) M w2 hj2 ⟨⟨[], by rw [hset0]; rfl⟩, ⟨_, _, rfl, Nat.le_refl _, by simp, fun i x hx => by simp at hx⟩⟩ (fun k hk => by have := hMlt k hk; omega) (by omega)) ?_
   rintro yb W3 hR
   refine rnT ?_
   refine retMs (n := W.heap.size) [] Tryz.results92 List.nodup_nil (fun D hD => by cases hD) (fun w' hx => ?_) .ret (.inl rfl)
   cases yb with
   | true =>
    obtain ⟨M', hj3, _⟩ := hR.yes rfl
    exact .inl ⟨_, M', by rw [hset0]; rfl, hJ _ _ _ _ hj3 hx⟩
   | false =>
    obtain ⟨M', hj3⟩ := hR.no rfl
    exact .inr ⟨_, M', hJx _ _ _ _ hj3 hx⟩
  ·exact absurd rfl h2
 | succ m ih =>
  intro F v l w gs gl hl hF hn hsm hgs hgl yl J Jx W M hown hsz hyl hM hMlt hJ hJx hy h0
  obtain ⟨A, cap, rfl, _⟩ := hl.form
  obtain ⟨ad, rfl⟩ := hl.addr (by omega)
  have mem : ∀ W' : World, (∀ k, (k = gs ∨ k = gl ∨ F k) → k < w.heap.size → W'.heap[k]? = w.heap[k]?) → Blk W' gs 3 [.int .i64 ((m + 1 : Nat) : Int)] ∧ Blk W' gl 48 [.slice (some ad) l.length cap] ∧ SL intT F W' (.slice (some ad) l.length cap) l := fun W' h =>
   ⟨(h gs (.inl rfl) hgs.lt).trans hgs, (h gl (.inr (.inl rfl)) hgl.lt).trans hgl, hl.mono (Kept.of_blocks fun k hk hlt => h k (.inr (.inr hk)) hlt)⟩
  obtain ⟨m1, m2, m3⟩ := mem W hown
  refine gvM Tryz.func92 Tryz.ntmps92 ?_
  refine rnT ?_
  refine TW.box rfl rfl rfl rfl ?_
  rintro g3 w1 f1
  refine rnT ?_
  refine TW.pk [0, 1, 2, 3] rfl ?_
  have hg3 := f1.at_
  have hs1 := f1.size
  refine TW.ld rfl ((m1.next f1.below).cell 0) ?_
  refine rnT ?_
  refine CW.pk [0, 1, 2, 3, 7] rfl ?_
  refine CW.condP rfl (fun h1 => ?_) (fun h2 => ?_)
  ·exfalso
   omega
  refine rnT ?_
  refine TW.ld rfl ((m2.next f1.below).cell 0) ?_
  refine rnT ?_
  refine TW.ld rfl ((m1.next f1.below).cell 0) ?_
  refine rnT ?_
  refine CW.pk [0, 1, 2, 3, 15, 16] rfl ?_
  refine CW.loopD (fun x : Nat × List (Value × List Int) × (Nat → Prop) × List Nat => x.2.2.2.map markOf) (fun x => [(1, none, .pointer (some ⟨gs, 0, none⟩)), (2, none, .pointer (some ⟨gl, 0, none⟩)), (3, none, .pointer (some ⟨g3, 0, none⟩)), (15, none, .int .i64 ((l.length : Int) - ((m + 1 : Nat) : Int) + 1)), (16, none, .int .i64 (x.1 : Int))])
   (fun x W' => J x.2.1 x.2.2.1 W' ∧ x.1 ≤ l.length - m ∧ x.2.1.map (·.2) = setsTo l m x.1 ∧ w1.heap.size ≤ W'.heap.size ∧ (∀ k, x.2.2.1 k → k < W'.heap.size) ∧ (∀ k, (k = gs ∨ k = gl ∨ F k) → k < w.heap.size → W'.heap[k]? = w.heap[k]? ∧ ¬ x.2.2.1 k) ∧ Blk W' g3 85 [.func (.yield yl) #[] #[]] ∧ ¬ x.2.2.1 g3 ∧ x.2.2.2.Nodup ∧
    ∀ D ∈ x.2.2.2, w1.heap.size ≤ D ∧ W'.heap[D]? = some (.deferred (some [])) ∧ ¬ x.2.2.1 D) (fun x => l.length - m - x.1)
   (0, [], M, []) [1, 2, 3, 15, 16] rfl ⟨hJ _ _ _ _ h0 (.of_below f1.below), Nat.zero_le _, rfl, Nat.le_refl _, fun k hk => by have := hMlt k hk; show k < w1.heap.size; omega, fun k hk hlt => ⟨(f1.below.block k (by omega)).trans (hown k hk hlt), (hM k hk).1⟩, f1.blk, fun h => by have := hMlt _ h; omega, List.nodup_nil, fun D hD => by cases hD⟩ rfl ?_
  rintro ⟨i, pre, M1, Ds⟩ W1 ⟨hj, hi, hpre, hsz1, hM1, hk1, hB3, hM3, hnd, hDs⟩
  dsimp only at hj hi hpre hsz1 hM1 hk1 hB3 hM3 hnd hDs
  refine rnT ?_
  refine CW.pk [1, 2, 3, 15, 16, 17] rfl ?_
  refine CW.condP rfl (fun hlt => ?_) (fun hge => ?_)
  ·have hil : i < l.length - m := by omega
   have hill : i < l.length := by omega
   obtain ⟨n1, n2, n3⟩ := mem W1 (fun k hk hlt => (hk1 k hk hlt).1)
   have hx : l[i]? = some l[i] := List.getElem?_eq_getElem hill
   refine rnT ?_
   refine TW.newVar1 rfl zc3 rfl sz3 rfl ?_
   rintro g4 w4 f4
   refine rnT ?_
   refine CW.pk [1, 2, 3, 4, 15, 16] rfl ?_
   refine CW.draw mixed (by kernel_rfl) ?_
   have hg4 := f4.at_
   have n1' := n1.next f4.below
   have n2' := n2.next f4.below
   have n3' := n3.below f4.below
   refine DW.ld rfl (n2'.cell 0) ?_
   refine DW.ld rfl (f4.blk.cell 0) ?_
   refine rnD ?_
   refine DW.sliceL rfl rfl Tryz.underlying48 sz3 rfl ct rfl ct (fun _ => by (try dsimp only); omega) ?_
   refine DW.ld rfl (n1'.cell 0) ?_
   refine rnD ?_
   have e1 : ((i : Int) + 1).toNat = i + 1 := by omega
   have hdrop : SL intT F w4 (.slice (if cap = ((i : Int) + 1).toNat then some ad else (some ad).map (·.add (((i : Int) + 1).toNat * 1))) (l.length - ((i : Int) + 1).toNat) (cap - ((i : Int) + 1).toNat)) (l.drop (i + 1)) := by
    have := SL.dropS n3' (i := i + 1) (by omega)
    rw [e1]
    exact this
   have hcall : ∀ w' : World, Below w4.heap.size w4 w' → Gives Tryz.prog 56 #[.slice (if cap = ((i : Int) + 1).toNat then some ad else (some ad).map (·.add (((i : Int) + 1).toNat * 1))) (l.length - ((i : Int) + 1).toNat) (cap - ((i : Int) + 1).toNat), .int .i64 (((m + 1 : Nat) : Int) - 1)] w' fun u w'' => Below w'.heap.size w' w'' ∧ SetsV w4.heap.size (.slice (if cap = ((i : Int) + 1).toNat then some ad else (some ad).map (·.add (((i : Int) + 1).toNat * 1))) (l.length - ((i : Int) + 1).toNat) (cap - ((i : Int) + 1).toNat)) m u w'' := fun w' hb' => by
    rw [show (((m + 1 : Nat) : Int) - 1) = (m : Int) by omega]
    exact sets_c.mono fun u w'' ⟨h1, gs', gl', h2, h3, h4, h5, h6⟩ => ⟨h1, gs', gl', h2, h3, h4, Nat.le_trans hb'.size h5, Nat.le_trans hb'.size h6⟩
   refine DW.call (.pr (SetsV w4.heap.size (.slice (if cap = ((i : Int) + 1).toNat then some ad else (some ad).map (·.add (((i : Int) + 1).toNat * 1))) (l.length - ((i : Int) + 1).toNat) (cap - ((i : Int) + 1).toNat)) m)) ?_ rfl rfl en56 rfl ct (DArgs.cons rfl ct (DArgs.cons rfl ct DArgs.nil)) (fun _ w' hb' => hcall w' hb') ?_
   ·exact SetsV.mono _ _ _
   refine DW.nil (DW.finP [1, 2, 3, 4, 15, 16, 25] rfl fun vs w5 hb5 hs5 => KW.then_ ?_)
   obtain ⟨v1, v2, v3, v4, v15, v16, v25, rfl, h1, h2, h3, h4, h15, h16, h25⟩ := Sats.seven hs5
   refine CW.block ?_
   cases h1
   cases h2
   cases h3
   cases h4
   cases h15
   cases h16
   obtain ⟨gs', gl', rfl, hgs', hgl', hgs1, hgl1⟩ := h25
   have hb45 := f4.below.step hb5
   have hs45 := hb45.size
   have hs4 := f4.below.size
   have hs5 := hb5.size
   have hd5 := hdrop.below hb5
   have hj5 : J pre M1 w5 := hJ _ _ _ _ hj (.of_below hb45)
   have hB35 := hB3.next hb45
   have hB45 := f4.blk.next hb5
   have o1 := n1.next hb45
   have o2 := n2.next hb45
   have o3 := n3.below hb45
   have hgslt := hgs'.lt
   have hgllt := hgl'.lt
   have hset : setsTo l m (i + 1) = setsTo l m i ++ (setsS (l.drop (i + 1)) m).map (l[i] :: ·) := by
    rw [setsTo_succ]
    unfold setsAt
    rw [hx]
   have hsub : ∃ rest, setsS l (m + 1) = setsTo l m (i + 1) ++ rest := by
    rw [setsS_eq]
    refine ⟨(List.range' (i + 1) (l.length - (i + 1))).flatMap (setsAt l m), ?_⟩
    unfold setsTo
    rw [← List.flatMap_append, List.range_eq_range', List.range_eq_range']
    congr 1
    have := List.range'_append_1 (s := 0) (m := i + 1) (n := l.length - (i + 1))
    rw [Nat.zero_add, show i + 1 + (l.length - (i + 1)) = l.length by omega] at this
    exact this.symm
   have hFM1 : ∀ k, F k → k < w.heap.size ∧ ¬ M1 k ∧ k ≠ yl := fun k hk => ⟨hF k hk, (hk1 k (.inr (.inr hk)) (hF k hk)).2, (hM k (.inr (.inr hk))).2⟩
   have hgs1' : gs < w.heap.size ∧ ¬ M1 gs ∧ gs ≠ yl := ⟨hgs.lt, (hk1 gs (.inl rfl) hgs.lt).2, (hM gs (.inl rfl)).2⟩
   have hgl1' : gl < w.heap.size ∧ ¬ M1 gl ∧ gl ≠ yl := ⟨hgl.lt, (hk1 gl (.inr (.inl rfl)) hgl.lt).2, (hM gl (.inr (.inl rfl))).2⟩
   have hg4M : ¬ M1 g4 := fun h => by have := hM1 _ h; omega
   have hit5 := ih (F := F) hd5 (fun k hk => by have := hF k hk; omega) (by rw [List.length_drop]; omega) (by rw [List.length_drop]; omega) hgs' hgl'
   refine CW.rangeW rfl en92 hit5 rfl (fun _ => rfl)
    (fun pre2 Mi Wi => ∃ outs M, Mi = (fun k => M k ∨ k = yl) ∧ J (pre ++ outs) M Wi ∧ outs.map (·.2) = (pre2.map (·.2)).map (l[i] :: ·) ∧ w5.heap.size ≤ Wi.heap.size ∧ (∀ k, M k → k < Wi.heap.size) ∧ (∀ k, k < w5.heap.size → ¬ M1 k → k ≠ yl → Wi.heap[k]? = w5.heap[k]?) ∧ ∀ k, k < w5.heap.size → M k → M1 k)
    (fun c pre2 Mi Wi => c = .ret ∧ (∃ outs M, Jx outs M Wi) ∧ ∀ k, k < w5.heap.size → ¬ M1 k → k ≠ yl → Wi.heap[k]? = w5.heap[k]?)
    (fun k => M1 k ∨ k = yl) ?_ ?_ ?_ ?_ ?_ ?_ ?_ ?_
   ·rintro k (hk | rfl)
    ·have := hM1 k hk
     refine ⟨by omega, ?_⟩
     rintro (rfl | rfl | h)
     ·omega
     ·omega
     ·exact (hFM1 k h).2.1 hk
    ·refine ⟨by omega, ?_⟩
     rintro (rfl | rfl | h)
     ·omega
     ·omega
     ·exact (hFM1 _ h).2.2 rfl
   ·rintro k (rfl | rfl | h)
    ·exact hgslt
    ·exact hgllt
    ·have := hF k h; omega
   ·rintro pre2 Mi Wa Wb ⟨outs, M2, a1, a2, a3, a4, a5, a6, a7⟩ hx'
    refine ⟨outs, M2, a1, hJ _ _ _ _ a2 (hx'.less (by omega)), a3, Nat.le_trans a4 hx'.size, fun k hk => Nat.lt_of_lt_of_le (a5 k hk) hx'.size, fun k h1 h2 h3 => ?_, a7⟩
    have e := a6 k h1 h2 h3
    rw [Array.getElem?_eq_getElem h1] at e ⊢
    exact hx'.block k _ e (.inl h1)
   ·rintro c pre2 Mi Wa Wb ⟨a1, ⟨outs, M2, a2⟩, a6⟩ hx'
    refine ⟨a1, ⟨outs, M2, hJx _ _ _ _ a2 (hx'.less (by omega))⟩, fun k h1 h2 h3 => ?_⟩
    have e := a6 k h1 h2 h3
    rw [Array.getElem?_eq_getElem h1] at e ⊢
    exact hx'.block k _ e (.inl h1)
   ·exact ⟨[], M1, rfl, by rw [List.append_nil]; exact hj5, rfl, Nat.le_refl _, fun k hk => by have := hM1 k hk; omega, fun k _ _ _ => rfl, fun k _ h => h⟩
   ·rintro D L pre2 x Mi Wi hD hL ⟨outs, M2, rfl, a2, a3, a4, a5, a6, a7⟩ ⟨⟨suf, hsuf⟩, hxs⟩ hMlt2 hML hMD hrec
    have hLM : ¬ M2 L ∧ L ≠ yl := ⟨fun h => hML (.inl h), fun h => hML (.inr h)⟩
    refine rnT ?_
    refine KW.begin hrec fun W2 hx2 hsz2 hk2 hrec2 => ?_
    have old : ∀ k, k < w5.heap.size → ¬ M1 k → k ≠ yl → W2.heap[k]? = w5.heap[k]? := fun k h1 h2 h3 => (hk2 k (by omega)).trans (a6 k h1 h2 h3)
    have p2 : Blk W2 gl 48 [.slice (some ad) l.length cap] := (old gl (by omega) hgl1'.2.1 hgl1'.2.2).trans o2
    have p3 : SL intT F W2 (.slice (some ad) l.length cap) l := o3.mono (Kept.of_blocks fun k hk hlt => old k hlt (hFM1 k hk).2.1 (hFM1 k hk).2.2)
    have p4 : Blk W2 g4 3 [.int .i64 (i : Int)] := (old g4 (by have := f4.size; omega) hg4M (by omega)).trans hB45
    have p5 : Blk W2 g3 85 [.func (.yield yl) #[] #[]] := (old g3 (by omega) hM3 (by omega)).trans hB35
    obtain ⟨ad', he', hci, hI⟩ := p3.int hx
    cases he'
    obtain ⟨xv, xl⟩ := x
    dsimp only at hsuf hxs
    obtain ⟨Ax, cx, rfl, _⟩ := hxs.form
    have hxs2 : SL intT (fun k => w5.heap.size ≤ k ∧ ¬ (M2 k ∨ k = yl)) W2 (.slice Ax xl.length cx) xl := hxs.ext hx2
    have hn1 : ∀ (j : Nat) (u : Value), (xl.map (Value.int .i64))[j]? = some u → ∃ ad' : Addr, Ax = some ad' ∧ W2.cell? (ad'.add j) = some u := by
     intro j u hu
     obtain ⟨y, hy, rfl⟩ := by simpa using hu
     obtain ⟨ad', h1, h2, _⟩ := hxs2.int (i := j) hy
     exact ⟨ad', h1, by rw [Nat.mul_one] at h2; exact h2⟩
    have hxlm : xl ∈ setsS (l.drop (i + 1)) m := by rw [hsuf]; simp
    have hxlen : xl.length = m := (mem_setsS.1 hxlm).2
    refine rnT ?_
    refine CW.drawR mixed fun W3 hW3 => ?_
    refine RW.draw .own 8 (by kernel_rfl) (by kernel_rfl) rfl rfl hW3 ?_
    refine DW.ld rfl (p5.cell 0) ?_
    refine DW.ld rfl (p2.cell 0) ?_
    refine DW.ld rfl (p4.cell 0) ?_
    refine DW.indexAddr rfl rfl Tryz.underlying48 sz3 rfl ct rfl ct (fun _ => by omega) ?_
    refine DW.ld rfl (hci) ?_
    refine OW.buildSlice 3 _ rfl rfl rfl eo48 (DArgs.cons rfl ct DArgs.nil) rfl rfl rfl rfl rfl ?_
    refine rnD ?_
    refine OW.append (m := xl.length) (A := Ax) (xl.map (Value.int .i64)) rfl rfl go48 rfl (by kernel_rfl) rfl ct hn1 (by simp) (fun u hu => by obtain ⟨y, _, rfl⟩ := List.mem_map.1 hu; rfl) (by omega) (by omega) ?_
    refine DW.nil (DW.finP [27, 34] rfl fun vs w6 hb6 hs6 => KW.rk' ?_)
    obtain ⟨v27, v34, rfl, h27, h34⟩ := Sats.two hs6
    cases h27
    have h34' : OwnS w6 3 1 v34 (1 + xl.length) ([.int .i64 l[i]] ++ xl.map (Value.int .i64)) ∧ ∀ g, v34.ownBlock = some g → W2.heap.size ≤ g := h34
    have hxI : ∀ y ∈ xl, I64 y := fun y hy => by
     obtain ⟨j, hj, hje⟩ := List.getElem_of_mem hy
     obtain ⟨_, _, _, h⟩ := hxs2.int (i := j) (x := y) (by rw [← hje]; exact List.getElem?_eq_getElem hj)
     exact h
    have hsl6 : SL intT (fun k => w.heap.size ≤ k ∧ ¬ M2 k) w6 v34 (l[i] :: xl) := by
     refine OwnS.toInts (e := 3) ?_ (fun y hy => ?_) (fun g hg => ?_) (by simp; omega)
     ·have := h34'.1
      rw [Nat.add_comm] at this
      exact this
     ·rcases List.mem_cons.1 hy with rfl | hy
      ·exact hI
      ·exact hxI y hy
     ·have := h34'.2 g hg
      refine ⟨by omega, fun h => ?_⟩
      have := a5 g h
      omega
    have hj6 : J (pre ++ outs) M2 w6 := hJ _ _ _ _ (hJ _ _ _ _ a2 (hx2.less (by omega))) (.of_below hb6)
    have hs6' := hb6.size
    have hpos : setPos l (m + 1) w (pre ++ outs) (v34, l[i] :: xl) M2 w6 := by
     refine ⟨?_, hsl6⟩
     obtain ⟨rest, hrest⟩ := hsub
     refine ⟨suf.map (l[i] :: ·) ++ rest, ?_⟩
     rw [hrest, hset, hsuf, List.map_append, List.map_append, hpre, a3]
     simp
    refine RW.one (by kernel_rfl) (by kernel_rfl) rfl ?_
    refine TW.yield rfl rfl rfl (Args.cons rfl ct Args.nil) (hy (pre ++ outs) (v34, l[i] :: xl) M2 w6 hj6 hpos (fun k hk => by have := a5 k hk; omega) (by omega)) ?_
    rintro yb W7 hR
    refine TW.nil (KW.pick [35] [(35, _, _)] rfl (KW.rk ?_))
    refine RW.one (by kernel_rfl) (by kernel_rfl) rfl ?_
    refine TW.not rfl rfl rfl ct ?_
    refine TW.nil (KW.pick [36] [(36, _, _)] rfl (KW.rk ?_))
    refine RW.end rfl (KW.pick [36] [(36, _, _)] rfl (KW.then_ ?_))
    have hL2 : L < W2.heap.size := hrec2.lt
    have hrec7 := hrec2.kept ((hR.kept L (by omega) hLM.1 hLM.2).trans (hb6.block L hL2))
    have hs7 := hR.size
    have kept7 : ∀ k, k < Wi.heap.size → ¬ (M2 k ∨ k = yl) → k ≠ L → W7.heap[k]? = Wi.heap[k]? := fun k h1 h2 h3 =>
     (hR.kept k (by omega) (fun h => h2 (.inl h)) (fun h => h2 (.inr h))).trans ((hb6.block k (by omega)).trans (hk2 k h3))
    have old7 : ∀ k, k < w5.heap.size → ¬ M1 k → k ≠ yl → W7.heap[k]? = w5.heap[k]? := fun k h1 h2 h3 =>
     (kept7 k (by omega) (fun h => h.elim (fun h => h2 (a7 k h1 h)) h3) (by omega)).trans (a6 k h1 h2 h3)
    refine CW.cond rfl (fun hno => ?_) (fun hgo => ?_)
    ·refine rnT ?_
     obtain ⟨M', hjx⟩ := hR.no (by simpa using hno)
     refine KW.endR hrec7 fun W8 hx8 hsz8 hk8 hrec8 => ?_
     refine ⟨by omega, fun k h1 h2 h3 => (hk8 k h3).trans (kept7 k h1 h2 h3), fun h => (by cases h), fun _ => ⟨M', .ret, ⟨rfl, ⟨_, M', hJx _ _ _ _ hjx (hx8.less (by omega))⟩, fun k h1 h2 h3 => (hk8 k (by omega)).trans (old7 k h1 h2 h3)⟩, hrec8⟩⟩
    ·refine rnT ?_
     obtain ⟨M', hj7, hm7⟩ := hR.yes (by simpa using hgo)
     have hM'L : ∀ k, k < Wi.heap.size → M' k → M2 k := fun k h1 h2 => by
      rcases (hm7 k h2).1 with h | h
      ·exact h
      ·omega
     have hLi : L < Wi.heap.size := by omega
     refine KW.endN hrec7 fun W8 hx8 hsz8 hk8 hrec8 => ?_
     refine ⟨by omega, fun k h1 h2 h3 => (hk8 k h3).trans (kept7 k h1 h2 h3), fun _ => ⟨fun k => M' k ∨ k = yl, ⟨⟨outs ++ [(v34, l[i] :: xl)], M', rfl, ?_, ?_, by omega, fun k hk => by have := (hm7 k hk).2; omega, fun k h1 h2 h3 => (hk8 k (by omega)).trans (old7 k h1 h2 h3), fun k h1 h2 => a7 k h1 (hM'L k (by omega) h2)⟩, ?_, ?_, hrec8⟩, fun k hk => ?_⟩, fun h => by cases h⟩
     ·rw [← List.append_assoc]
      exact hJ _ _ _ _ hj7 (hx8.less (by omega))
     ·simp [a3]
     ·rintro (h | h)
      ·exact hLM.1 (hM'L L hLi h)
      ·exact hLM.2 h
     ·rintro (h | h)
      ·exact hMD (.inl (hM'L D (by omega) h))
      ·exact hMD (.inr h)
     ·rcases hk with hk | rfl
      ·obtain ⟨q1, q2⟩ := hm7 k hk
       exact ⟨q1.elim (fun h => .inl (.inl h)) (fun h => .inr (by omega)), by omega⟩
      ·exact ⟨.inl (.inr rfl), by omega⟩
   ·rintro D xs Mi Wi hD hdone ⟨outs, M2, rfl, a2, a3, a4, a5, a6, a7⟩ hMD hdef
    refine KW.blockN (KW.blockN (KW.then_ ?_))
    refine rnT ?_
    have hDlt : D < Wi.heap.size := (Array.getElem?_eq_some_iff.1 hdef).1
    have hM2D : ∀ k, k < W1.heap.size → M2 k → M1 k := fun k h1 h2 => a7 k (by omega) h2
    refine KW.roundD (i + 1, pre ++ outs, M2, D :: Ds) [1, 2, 3, 15, 16] rfl rfl ⟨a2, ?_, ?_, ?_, a5, ?_, ?_, ?_, ?_, ?_⟩ ?_
    ·show i + 1 ≤ l.length - m
     omega
    ·show (pre ++ outs).map (·.2) = setsTo l m (i + 1)
     rw [List.map_append, hpre, a3, hdone, hset]
    ·show w1.heap.size ≤ Wi.heap.size
     omega
    ·intro k hk hlt
     have h := hk1 k hk hlt
     have hy' := (hM k hk).2
     exact ⟨(a6 k (by omega) h.2 hy').trans ((hb45.block k (by omega)).trans h.1), fun h' => h.2 (hM2D k (by omega) h')⟩
    ·exact (a6 g3 (by omega) hM3 (by omega)).trans hB35
    ·exact fun h => hM3 (hM2D g3 (by omega) h)
    ·refine List.nodup_cons.2 ⟨fun h => ?_, hnd⟩
     have := (Array.getElem?_eq_some_iff.1 (hDs D h).2.1).1
     omega
    ·intro D' hD'
     rcases List.mem_cons.1 hD' with rfl | hD'
     ·exact ⟨by omega, hdef, fun h => hMD (.inl h)⟩
     ·obtain ⟨q1, q2, q3⟩ := hDs D' hD'
      have q4 := (Array.getElem?_eq_some_iff.1 q2).1
      exact ⟨q1, (a6 D' (by omega) q3 (by omega)).trans ((hb45.block D' q4).trans q2), fun h => q3 (hM2D D' q4 h)⟩
    ·show l.length - m - (i + 1) < l.length - m - i
     omega
   ·rintro D c pre2 Mi Wi hD ⟨rfl, ⟨outs, M2, hjx⟩, a6⟩ hdef
    refine rnT ?_
    refine retMs (n := W.heap.size) (D :: Ds) Tryz.results92 ?_ ?_ (fun w' hx => .inr ⟨_, _, hJx _ _ _ _ hjx hx⟩) .ret (.inl rfl)
    ·refine List.nodup_cons.2 ⟨fun h => ?_, hnd⟩
     have := (Array.getElem?_eq_some_iff.1 (hDs D h).2.1).1
     omega
    ·intro D' hD'
     rcases List.mem_cons.1 hD' with rfl | hD'
     ·exact ⟨by omega, hdef⟩
     ·obtain ⟨q1, q2, q3⟩ := hDs D' hD'
      have q4 := (Array.getElem?_eq_some_iff.1 q2).1
      exact ⟨by omega, (a6 D' (by omega) q3 (by omega)).trans ((hb45.block D' q4).trans q2)⟩
  ·refine rnT ?_
   have hie : i = l.length - m := by
    have hge' : ¬ ((i : Int) < (l.length : Int) - ((m + 1 : Nat) : Int) + 1) := hge
    omega
   refine retMs (n := W.heap.size) Ds Tryz.results92 hnd (fun D' hD' => ?_) (fun w' hx => .inl ⟨pre, M1, ?_, hJ _ _ _ _ hj hx⟩) .normal (.inr rfl)
   ·obtain ⟨q1, q2, q3⟩ := hDs D' hD'
    exact ⟨by omega, q2⟩
   ·show pre.map (·.2) = setsS l (m + 1)
    rw [hpre, setsS_eq, hie]
    have := setsTo_enough (l := l) (k := m) (l.length - m) m (by omega)
    rw [show l.length - m + m = l.length by omega] at this
    exact this.symm
end Go.Proofs.YtnjknkgomhmlfaaGreatDoor
