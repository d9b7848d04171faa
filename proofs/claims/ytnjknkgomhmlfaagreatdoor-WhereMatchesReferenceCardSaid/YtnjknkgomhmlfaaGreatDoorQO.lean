/- Texts of this claim, joined. -/
import Derived.Test.YtnjknkgomhmlfaaGreatDoorQN
set_option linter.unusedSimpArgs false
set_option linter.unusedVariables false
set_option maxRecDepth 100000
set_option maxHeartbeats 4000000
namespace Go.Proofs.YtnjknkgomhmlfaaGreatDoor
open Go.PF Go.RowKit Go.Ord
attribute [local irreducible] TW CW KW DW
variable {d : Dist} {l rest : List Ev} {a b : Ev} {n : Nat} {w : World} {g : Int} {lv dv : Value}
def nodeJ (n : Nat) (a b : Ev) (g : Int) : Nd := ⟨n, n + 1, a.office, max (clipE a).low ((clipE b).low - g), min (clipE a).high ((clipE b).high - g), g, b.office⟩
structure NodesJ (d : Dist) (rest : List Ev) (a b : Ev) (g : Int) : Prop where
 leg : LegOK d a b g
 wa : lowC a ≤ highC a
 wb : lowC b ≤ highC b
 wj : (nodeJ 0 a b g).low ≤ (nodeJ 0 a b g).high
 each : ∀ e ∈ rest, lowC e ≤ highC e
theorem clip_rng (e : Ev) : (0 ≤ (clipE e).low ∧ (clipE e).low ≤ 1000000) ∧ 0 ≤ (clipE e).high ∧ (clipE e).high ≤ 1000000 := by
 unfold clipE
 split <;> (dsimp only; omega)
theorem rnodesJ_c {la : Addr} {lc : Nat} {gp : Int} (hd : SD w dv d) (hl : SE w lv l) (hleg : LegAt w la n gp) (hle : l = rest ++ [a, b]) (hn : rest.length = n) (hgp : 0 ≤ gp ∧ gp ≤ 1000000) (hok : WfE d l) :
  Gives Tryz.prog 119 #[dv, lv, .slice (some la) 1 lc] w fun x w' => Below w.heap.size w w' ∧ ∃ nv, x = .tuple #[nv, .bool (dec (NodesJ d rest a b gp))] ∧ (NodesJ d rest a b gp → SL ndT (fun q => w.heap.size ≤ q ∧ q < w'.heap.size) w' nv (nodeJ n a b gp :: nodesTo rest n)) := by
 obtain ⟨A, cap, rfl, hcap⟩ := hd.form
 obtain ⟨B, bcap, rfl, _⟩ := hl.form
 have h16 := hok.few
 have hll : l.length = n + 2 := by rw [hle, List.length_append, hn]; rfl
 have hla : l[n]? = some a := by rw [hle, List.getElem?_append_right (by omega), hn]; simp
 have hlb : l[n + 1]? = some b := by rw [hle, List.getElem?_append_right (by omega), hn]; simp
 have hoa := hok.each a (List.mem_of_getElem? hla)
 have hob := hok.each b (List.mem_of_getElem? hlb)
 have a1 := hoa.o1
 have a2 := hoa.o2
 have b1 := hob.o1
 have b2 := hob.o2
 obtain ⟨ad, rfl⟩ := hl.addr (by omega)
 obtain ⟨da, rfl⟩ := hd.addr (by omega)
 obtain ⟨row, hr⟩ : ∃ r, d[a.office.toNat]? = some r := ⟨_, List.getElem?_eq_getElem (by omega)⟩
 have hrl : row.length = d.length := hok.wd.row _ row hr
 obtain ⟨z, hz⟩ : ∃ z, row[b.office.toNat]? = some z := ⟨_, List.getElem?_eq_getElem (by omega)⟩
 have hza := at2_eq hr hz
 have hzr := hok.wd.rng a.office.toNat b.office.toNat (by omega) (by omega)
 rw [hza] at hzr
 refine gv (f := 119) ?_
 refine rnT ?_
 refine TW.makeSlice rfl rfl (zero1_of go116 ze4 rfl) rfl rfl (by omega) (by omega) ?_
 rintro g1 w1 f1
 refine rnT ?_
 have hg1 := f1.at_
 have hw1s := f1.size
 refine CW.lp [0, 1, 2, 9] (fun x : Nat × Value => [(8, none, x.2), (10, none, .int .i64 (x.1 : Int))])
  (fun x W => x.1 ≤ 1 ∧ Below w.heap.size w W ∧ (x.1 = 0 → W = w1 ∧ x.2 = .slice none 0 0) ∧ (x.1 = 1 → LegOK d a b gp ∧ lowC a ≤ highC a ∧ lowC b ≤ highC b ∧ Blk W g1 4 ((((List.replicate l.length false).set n true).set (n + 1) true).map Value.bool) ∧ NL W x.2 [nodeJ n a b gp] ∧ (∀ g, x.2.ownBlock = some g → g1 < g))) (fun x => 1 - x.1) (0, .slice none 0 0) ⟨Nat.zero_le _, f1.below, fun _ => ⟨rfl, rfl⟩, fun h => absurd h (by decide)⟩ ?_
 rintro ⟨k0, uv0⟩ W ⟨hk0, hBW, h0, h1⟩
 dsimp only at hk0 h0 h1
 refine rnT ?_
 refine CW.condP rfl (fun hlt => ?_) (fun hge => ?_)
 ·have hk : k0 = 0 := by omega
  subst hk
  obtain ⟨rfl, rfl⟩ := h0 rfl
  have hl1 := hleg.below f1.below
  have hb1 : Blk W g1 4 ((List.replicate l.length false).map Value.bool) := by
   rw [List.map_replicate]
   exact f1.blk
  refine rnT ?_
  refine TW.ldS rfl (hl1.at0) ?_
  refine TW.newVar rfl zc57 rfl sz57 rfl rfl ?_
  rintro g11 w2 f2
  refine rnT ?_
  have hB02 := f1.below.step f2.below
  have hs2 := hl.below hB02
  obtain ⟨nva, hca, ia1, ia2, ia3, hna⟩ := SE.get hs2 hla
  obtain ⟨Ca, nca, rfl, _⟩ := hna.form
  refine TW.ld rfl (f2.blk.fld rfl) ?_
  refine rnT ?_
  refine TW.ldS rfl (hca) ?_
  refine TW.cl rfl (rclip_c) ?_
  rintro y3 w3 ⟨c3, rfl⟩
  refine TW.newVar rfl zc50 rfl sz50 rfl rfl ?_
  rintro g12 w4 f4
  refine rnT ?_
  have hB04 := (hB02.step c3).step f4.below
  have hL4 := (f2.blk.next c3).next f4.below
  have hs4 := hl.below hB04
  obtain ⟨nvb, hcb, ib1, ib2, ib3, hnb⟩ := SE.get hs4 hlb
  rw [show ((n + 1 : Nat) : Int) = (n : Int) + 1 by omega] at hcb
  obtain ⟨Cb, ncb, rfl, _⟩ := hnb.form
  refine TW.ld rfl (hL4.fld rfl) ?_
  refine rnT ?_
  refine TW.ldS rfl (hcb) ?_
  refine TW.cl rfl (rclip_c) ?_
  rintro y5 w5 ⟨c5, rfl⟩
  refine TW.newVar rfl zc50 rfl sz50 rfl rfl ?_
  rintro g13 w6 f6
  refine rnT ?_
  have hB06 := (hB04.step c5).step f6.below
  have hL6 := (hL4.next c5).next f6.below
  have hA6 := (f4.blk.next c5).next f6.below
  have hC6 := f6.blk
  have hb6 := ((((hb1.next f2.below).next c3).next f4.below).next c5).next f6.below
  obtain ⟨qa1, qa2⟩ := clip_rest a
  obtain ⟨qb1, qb2⟩ := clip_rest b
  unfold evV at hA6 hC6
  rw [qa1] at hA6
  rw [qb1] at hC6
  have z2 := f2.at_
  have z4 := f4.at_
  have z6 := f6.at_
  have s2 := f2.size
  have s3 := c3.size
  have s4 := f4.size
  have s5 := c5.size
  refine TW.ld rfl (hL6.fld rfl) ?_
  refine rnT ?_
  refine TW.storeFld rfl sz4 rfl rfl hb6 (by simp; omega) rfl ?_
  rintro w7 hB7 hbut7 hsz7
  refine rnT ?_
  have hL7 := But.blk (k := g11) hbut7 hL6 (by omega)
  refine TW.ld rfl (hL7.fld rfl) ?_
  refine rnT ?_
  refine TW.storeFld rfl sz4 rfl rfl hB7 (by simp; omega) rfl ?_
  rintro w8 hB8 hbut8 hsz8
  refine rnT ?_
  refine CW.pk [0, 1, 2, 8, 9, 10, 11, 12, 13] rfl ?_
  refine CW.draw mixed (by kernel_rfl) ?_
  refine rnD ?_
  have hB08 : Below w.heap.size w w8 := hB06.grown (But.trans hbut7 hbut8) hB06.size (fun q hq => by cases hq; omega)
  have hL8 := But.blk (k := g11) hbut8 hL7 (by omega)
  have hA8 := But.blk (k := g12) hbut8 (But.blk (k := g12) hbut7 hA6 (by omega)) (by omega)
  have hC8 := But.blk (k := g13) hbut8 (But.blk (k := g13) hbut7 hC6 (by omega)) (by omega)
  have hd8 := hd.below hB08
  obtain ⟨rv, hcell, hrow⟩ := hd8.row hr
  obtain ⟨R1, rcap, rfl, _⟩ := hrow.form
  obtain ⟨ra, rfl⟩ := hrow.addr (by omega)
  have hzc := hrow.getI hz
  simp only [Int.toNat_natCast] at hcell hzc
  refine DW.ld rfl (hA8.fld rfl) ?_
  refine rnD ?_
  refine DW.ld rfl hcell ?_
  refine rnD ?_
  refine DW.ld rfl (hC8.fld rfl) ?_
  refine rnD ?_
  refine DW.ld rfl hzc ?_
  refine rnD ?_
  refine DW.ld rfl (hA8.fld rfl) ?_
  refine rnD ?_
  refine DW.ld rfl hcell ?_
  refine rnD ?_
  refine DW.ld rfl (hC8.fld rfl) ?_
  refine rnD ?_
  refine DW.ld rfl hzc ?_
  refine rnD ?_
  refine DW.ld rfl (hL8.fld rfl) ?_
  refine rnD ?_
  refine DW.fi [0, 1, 2, 8, 9, 10, 11, 12, 13, 73] rfl fun w9 b9 => ?_
  refine KW.then_ ?_
  have hB09 := hB08.step b9
  have hL9 := hL8.next b9
  have hA9 := hA8.next b9
  have hC9 := hC8.next b9
  refine CW.cond rfl (fun hbad => ?_) (fun hgood => ?_)
  ·refine rnT ?_
   refine rt2 rfl ⟨hB09, .slice none 0 0, ?_, fun h => ?_⟩
   ·rw [dec_neg]
    intro h
    have q1 := h.leg.1
    have q2 := h.leg.2
    rw [hza] at q1 q2
    simp at hbad
    omega
   ·exfalso
    have q1 := h.leg.1
    have q2 := h.leg.2
    rw [hza] at q1 q2
    simp at hbad
    omega
  have hlo : LegOK d a b gp := by
   simp at hgood
   exact ⟨by rw [hza]; omega, by rw [hza]; omega⟩
  refine rnT ?_
  refine TW.ld rfl (hA9.fld rfl) ?_
  refine rnT ?_
  refine TW.ld rfl (hA9.fld rfl) ?_
  refine rnT ?_
  refine TW.ld rfl (hC9.fld rfl) ?_
  refine rnT ?_
  refine TW.ld rfl (hC9.fld rfl) ?_
  refine rnT ?_
  refine CW.pk [0, 1, 2, 8, 9, 10, 11, 12, 13, 85] rfl ?_
  refine CW.cond rfl (fun hbad2 => ?_) (fun hgood2 => ?_)
  ·have hno : ¬ (lowC a ≤ highC a ∧ lowC b ≤ highC b) := fun ⟨h1, h2⟩ => by
    have q1 := clip_ok.2 h1
    have q2 := clip_ok.2 h2
    simp at hbad2
    omega
   refine rnT ?_
   refine rt2 rfl (⟨hB09, .slice none 0 0, by rw [dec_neg fun h => hno ⟨h.wa, h.wb⟩], fun h => absurd ⟨h.wa, h.wb⟩ hno⟩)
  have hwa : lowC a ≤ highC a := clip_ok.1 (by simp at hgood2; omega)
  have hwb : lowC b ≤ highC b := clip_ok.1 (by simp at hgood2; omega)
  have hra := clip_rng a
  have hrb := clip_rng b
  refine rnT ?_
  refine TW.ld rfl (hL9.fld rfl) ?_
  refine rnT ?_
  refine TW.ld rfl (hL9.fld rfl) ?_
  refine rnT ?_
  refine TW.ld rfl (hA9.fld rfl) ?_
  refine rnT ?_
  refine TW.ld rfl (hA9.fld rfl) ?_
  refine rnT ?_
  refine TW.ld rfl (hC9.fld rfl) ?_
  refine rnT ?_
  refine TW.ld rfl (hL9.fld rfl) ?_
  refine rnT ?_
  refine TW.v V.maxI rfl ⟨ct, ct, trivial⟩ (fun _ => trivial) ?_
  refine rnT ?_
  refine TW.ld rfl (hA9.fld rfl) ?_
  refine rnT ?_
  refine TW.ld rfl (hC9.fld rfl) ?_
  refine rnT ?_
  refine TW.ld rfl (hL9.fld rfl) ?_
  refine rnT ?_
  refine TW.v V.minI rfl ⟨ct, ct, trivial⟩ (fun _ => trivial) ?_
  refine rnT ?_
  refine TW.ld rfl (hL9.fld rfl) ?_
  refine rnT ?_
  refine TW.ld rfl (hC9.fld rfl) ?_
  refine TW.build [0, 1, 2, 3, 4, 5, 6] _ (nodeJ n a b gp).cells rfl rfl rfl (Args.cons rfl ct (Args.cons rfl ct (Args.cons rfl ct (Args.cons rfl ct (Args.cons rfl ct (Args.cons rfl ct (Args.cons rfl ct Args.nil))))))) (by kernel_rfl) ?_
  refine TW.buildSlice 183 _ rfl rfl rfl eo178 (Args.cons rfl ct Args.nil) rfl rfl rfl rfl rfl ?_
  rintro g14 w10 f10
  refine TW.append (nodeJ n a b gp).cells rfl rfl go178 rfl (OwnS.nil _ _ _) rfl rfl (fun j v hj => ⟨⟨g14, 0, none⟩, rfl, f10.blk.fld hj⟩) (fun v hv => by simp [Nd.cells] at hv; rcases hv with rfl | rfl | rfl | rfl | rfl | rfl | rfl <;> rfl) (by omega) (by omega) ?_
  rintro nv' w11 o11 hg11 hn11
  refine rnT ?_
  have hB10 := hB09.step f10.below
  have hbl : Blk w10 g1 4 ((((List.replicate l.length false).set n true).set (n + 1) true).map Value.bool) := by
   have e1 : (n : Int).toNat * 1 = n := by omega
   have e2 : ((n : Int) + 1).toNat * 1 = n + 1 := by omega
   rw [e1, e2] at hB8
   rw [List.map_set, List.map_set]
   exact (hB8.next b9).next f10.below
  have hg1l := hbl.lt
  refine KW.rd (1, nv') ⟨Nat.le_refl _, hB10.grown hg11 hB10.size (fun q hq => by simp [Value.ownBlock] at hq), fun h => absurd (show (1 : Nat) = 0 from h) (by decide), fun _ => ⟨hlo, hwa, hwb, GB.blk hg11 hbl (fun e => by simp [Value.ownBlock] at e), o11, fun q hq => ?_⟩⟩ (hm := by show 1 - 1 < 1 - 0; decide)
  rcases hn11 with h | h
  ·rw [h] at hq; simp [Value.ownBlock] at hq
  ·rw [h] at hq; cases hq; exact hg1l
 ·have hk : k0 = 1 := by omega
  subst hk
  obtain ⟨hlo, hwa, hwb, hbl, hN0, hgo⟩ := h1 rfl
  refine rnT ?_
  refine CW.lp [1, 9] (fun x : Nat × Value => [(8, none, x.2), (14, none, .int .i64 (x.1 : Int))])
   (fun x W => x.1 ≤ l.length ∧ Below w.heap.size w W ∧ NL W x.2 (nodeJ n a b gp :: nodesTo rest (min x.1 n)) ∧ (∀ g, x.2.ownBlock = some g → g1 < g) ∧ Blk W g1 4 ((((List.replicate l.length false).set n true).set (n + 1) true).map Value.bool)) (fun x => l.length - x.1) (0, uv0) ⟨Nat.zero_le _, hBW, by rw [Nat.min_eq_left (Nat.zero_le _)]; exact hN0, hgo, hbl⟩ ?_
  rintro ⟨i, nv⟩ W2 ⟨hi, hB, hN, hown, hU⟩
  dsimp only at hi hN hown
  have hnl : (nodesTo rest (min i n)).length = min i n := nodesTo_len (by omega)
  have hnl2 : (nodeJ n a b gp :: nodesTo rest (min i n)).length = min i n + 1 := by rw [List.length_cons, hnl]
  refine rnT ?_
  refine CW.condP rfl (fun hlt3 => ?_) (fun hge3 => ?_)
  ·obtain ⟨e, he, hem⟩ := getx (l := l) (k := i) (by omega)
   have hlW := hl.below hB
   obtain ⟨nd, hcells, i1, i2, i3, hneeds⟩ := SE.get hlW he
   obtain ⟨C, ncap, rfl, _⟩ := hneeds.form
   have hcu : W2.cell? (Addr.add ⟨g1, 0, none⟩ ((i : Int).toNat * 1)) = some (.bool (decide (n ≤ i))) := by
    rw [show (i : Int).toNat * 1 = i by omega]
    exact hU.fld (by rw [List.getElem?_map, used_at hll (by omega)]; rfl)
   refine rnT ?_
   refine TW.ld rfl hcu ?_
   refine rnT ?_
   refine CW.pk [1, 8, 9, 14, 126] rfl ?_
   refine CW.cond rfl (fun hin => ?_) (fun hout => ?_)
   ·have hin' : i < n := by simpa using hin
    have hre : rest[i]? = some e := by rw [hle, List.getElem?_append_left (by omega)] at he; exact he
    refine rnT ?_
    refine TW.ldS rfl (hcells) ?_
    refine TW.cl rfl (rclip_c) ?_
    rintro y w3 ⟨c3, rfl⟩
    refine TW.newVar rfl zc50 rfl sz50 rfl rfl ?_
    rintro g4 w4 f4
    refine rnT ?_
    have hb4 := c3.step f4.below
    have hN4 := (hN.below c3).below f4.below
    obtain ⟨q1, q2⟩ := clip_rest e
    have hBk4 : Blk w4 g4 50 [.int .i64 e.office, .int .i64 (clipE e).low, .int .i64 (clipE e).high, .slice C e.needs.length ncap] := by
     have := f4.blk
     unfold evV at this
     rw [q1] at this
     exact this
    refine TW.ld rfl (hBk4.fld rfl) ?_
    refine rnT ?_
    refine TW.ld rfl (hBk4.fld rfl) ?_
    refine rnT ?_
    refine TW.ld rfl (hBk4.fld rfl) ?_
    refine rnT ?_
    refine TW.ld rfl (hBk4.fld rfl) ?_
    refine TW.build [0, 1, 2, 3, 4, 6] [.tmp 133, .const (.int .i64 (-1)), .tmp 135, .tmp 137, .tmp 139, .tmp 141] (nodeAt i e).cells rfl rfl rfl (Args.cons rfl ct (Args.cons rfl ct (Args.cons rfl ct (Args.cons rfl ct (Args.cons rfl ct (Args.cons rfl ct Args.nil)))))) (by kernel_rfl) ?_
    refine TW.buildSlice 183 _ rfl rfl rfl eo178 (Args.cons rfl ct Args.nil) rfl rfl rfl rfl rfl ?_
    rintro g5 w5 f5
    refine TW.append (nodeAt i e).cells rfl rfl go178 rfl (hN4.below f5.below) rfl rfl (fun j v hj => ⟨⟨g5, 0, none⟩, rfl, f5.blk.fld hj⟩) (fun v hv => by simp [Nd.cells] at hv; rcases hv with rfl | rfl | rfl | rfl | rfl | rfl | rfl <;> rfl) (by omega) (by omega) ?_
    rintro nv' w6 o6 hg6 hn6
    refine rnT ?_
    have hb5 := hb4.step f5.below
    have hbW5 := hB.step hb5
    have hs5 := hb5.size
    have hUlt := hU.lt
    refine KW.rd (i + 1, nv') ⟨by show i + 1 ≤ l.length; omega, hbW5.grown hg6 hbW5.size (fun q hq => by have := hown q hq; omega), ?_, fun g hg => ?_, ?_⟩
    ·show OwnS w6 _ 7 nv' (nodeJ n a b gp :: nodesTo rest (min (i + 1) n)).length ((nodeJ n a b gp :: nodesTo rest (min (i + 1) n)).flatMap Nd.cells)
     rw [Nat.min_eq_left (by omega)] at o6
     rw [Nat.min_eq_left (by omega), nodesTo_succ hre, ← List.cons_append, List.flatMap_append]
     simpa using o6
    ·rcases hn6 with h | h
     ·exact hown g (by rw [← h]; exact hg)
     ·rw [h] at hg; cases hg; omega
    ·have hU5 := hU.next hb5
     exact (hg6.block g1 hU5.lt (fun e => absurd (hown g1 e.symm) (Nat.lt_irrefl _))).trans hU5
   ·have hin' : n ≤ i := by simpa using hout
    refine rnT ?_
    refine KW.rd (i + 1, nv) ⟨by show i + 1 ≤ l.length; omega, hB, ?_, hown, hU⟩
    show NL W2 nv (nodeJ n a b gp :: nodesTo rest (min (i + 1) n))
    rw [Nat.min_eq_right (by omega)]
    rw [Nat.min_eq_right (by omega)] at hN
    exact hN
  have hie : i = l.length := by omega
  subst hie
  rw [Nat.min_eq_right (by omega)] at hN
  obtain ⟨ns, hns⟩ : ∃ ns, ns = nodeJ n a b gp :: nodesTo rest n := ⟨_, rfl⟩
  have hnsl : ns.length = n + 1 := by rw [hns, List.length_cons, nodesTo_len (by omega)]
  have hns0 : ns[0]? = some (nodeJ n a b gp) := by rw [hns]; rfl
  have hnsi : ∀ (i : Nat) e, rest[i]? = some e → ns[i + 1]? = some (nodeAt i e) := fun i e he => by
   rw [hns, List.getElem?_cons_succ]
   unfold nodesTo
   rw [List.take_of_length_le (by omega), List.getElem?_mapIdx, he]
   rfl
  rw [← hns] at hN ⊢
  have hsl : SL ndT (fun q => w.heap.size ≤ q ∧ q < W2.heap.size) W2 nv ns := OwnS.toSL (T := ndT) Nd.cells (fun _ _ => rfl) hN (fun g hg => ⟨by have := hown g hg; omega, hN.lt hg⟩) (by omega)
  obtain ⟨A, ncap, rfl, _⟩ := hsl.form
  have hnj : NodesJ d rest a b gp → ∀ (i : Nat) x, ns[i]? = some x → x.low ≤ x.high := fun h i x hx => by
   cases i with
   | zero =>
    rw [hns0] at hx
    cases hx
    exact h.wj
   | succ i =>
    have hil := (List.getElem?_eq_some_iff.1 hx).1
    obtain ⟨e, he, hem⟩ := getx (l := rest) (k := i) (by omega)
    rw [hnsi i e he] at hx
    cases hx
    exact clip_ok.2 (h.each e hem)
  refine rnT ?_
  refine CW.lp [8] (fun k : Nat => [(16, none, .int .i64 (k : Int))])
   (fun k W' => k ≤ ns.length ∧ Below W2.heap.size W2 W' ∧ ∀ (i : Nat) x, i < k → ns[i]? = some x → x.low ≤ x.high) (fun k => ns.length - k) 0 ⟨Nat.zero_le _, Below.refl _ _, fun i e hi => by omega⟩ ?_
  rintro k W' ⟨hk, hBk, hall⟩
  refine rnT ?_
  refine CW.condP rfl (fun hlt4 => ?_) (fun hge4 => ?_)
  ·obtain ⟨x, hx, hxm⟩ := getx (l := ns) (k := k) (by omega)
   have hsl' := hsl.below hBk
   obtain ⟨ad2, rfl⟩ := hsl'.addr (by omega)
   have hc := nd_get hsl' hx
   refine rnT ?_
   refine CW.draw mixed (by kernel_rfl) ?_
   refine rnD ?_
   refine DW.ld rfl (hc 3 _ rfl) ?_
   refine rnD ?_
   refine DW.ld rfl (hc 4 _ rfl) ?_
   refine rnD ?_
   refine DW.fi [8, 16, 161] rfl fun w7 b7 => ?_
   refine KW.then_ ?_
   have hbb := hB.step (hBk.step b7)
   refine CW.condP rfl (fun hbad => ?_) (fun hgood => ?_)
   ·refine rnT ?_
    refine rt2 rfl ⟨hbb, .slice none 0 0, by rw [dec_neg fun h => by have := hnj h k x hx; omega], fun h => by have := hnj h k x hx; omega⟩
   ·refine rnT ?_
    refine KW.rd (k + 1) ⟨by omega, hBk.step b7, fun i x' hi hx' => ?_⟩
    by_cases hik : i < k
    ·exact hall i x' hik hx'
    ·have : i = k := by omega
     subst this
     rw [hx] at hx'
     cases hx'
     omega
  ·have hal : NodesJ d rest a b gp := ⟨hlo, hwa, hwb, hall 0 (nodeJ n a b gp) (by omega) hns0, fun e he => by
    obtain ⟨i, hi⟩ := List.mem_iff_getElem?.1 he
    exact clip_ok.1 (hall (i + 1) _ (by have := (List.getElem?_eq_some_iff.1 hi).1; omega) (hnsi i e hi))⟩
   refine rnT ?_
   refine rt2 rfl ⟨hB.step hBk, _, by rw [dec_pos hal], fun _ => ?_⟩
   have hs := hBk.size
   exact (hsl.below hBk).wider (fun q hq => ⟨hq.1, by omega⟩)
theorem rtimes_c {nv : Value} {ns : List Nd} {L : List RS} {F G : Nat → Prop} {m k : Nat} (hn : SL ndT G w nv ns) (hok : ∀ x ∈ ns, NdOK d m x) (hm : m ≤ 16) (hL : SL rsT F w lv L) (hback : ∀ (i : Nat) s, L[i]? = some s → s.frm < i ∧ -1 ≤ s.frm ∧ s.last < ns.length ∧ 0 ≤ s.time ∧ s.time ≤ 1000000) (hk : k < L.length) :
  Gives Tryz.prog 122 #[nv, lv, .int .i64 (k : Int), .int .i64 (m : Int)] w fun u w' => Below w.heap.size w w' := by
 obtain ⟨A, cap, rfl, _⟩ := hn.form
 obtain ⟨B, bcap, rfl, _⟩ := hL.form
 obtain ⟨ld, rfl⟩ := hL.addr (by omega)
 refine gv (f := 122) ?_
 refine rnT ?_
 refine TW.makeSlice rfl rfl (zero1_of go48 ze3 rfl) rfl rfl (by omega) (by omega) ?_
 rintro g1 w1 f1
 refine rnT ?_
 have ha1 := f1.at_
 refine CW.lp [0, 1, 9] (fun x : Nat => [(2, none, .int .i64 ((x : Int) - 1))])
  (fun x W => x ≤ L.length ∧ Below w.heap.size w W ∧ Times W g1 m) (fun x => x) (k + 1) ⟨by omega, f1.below, List.replicate m 0, by simp, by simpa using f1.blk⟩ ?_ (hE := by rw [show (((k + 1 : Nat) : Int) - 1) = (k : Int) by omega]; rfl)
 rintro j W ⟨hj, hB, ⟨xs, hxl, hX⟩⟩
 refine rnT ?_
 refine CW.condP rfl (fun hlt => ?_) (fun hge => ?_)
 ·obtain ⟨i, rfl⟩ : ∃ i, j = i + 1 := ⟨j - 1, by omega⟩
  rw [show (((i + 1 : Nat) : Int) - 1) = (i : Int) by omega]
  obtain ⟨s, hs, hsm⟩ := getx (l := L) (k := i) (by omega)
  obtain ⟨q1, q2, q3, q4, q5⟩ := hback i s hs
  obtain ⟨x, hx, hxm⟩ := getx (l := ns) (k := s.last) q3
  have hxo := hok x hxm
  have hg0 := hxo.g0
  have hg1 := hxo.g1
  obtain ⟨nd, rfl⟩ := hn.addr (by omega)
  have hLW := hL.below hB
  have hnW := hn.below hB
  have hsc := SL.getC rsCells (fun _ _ _ _ h => h) hLW hs
  have hxc := nd_get hnW hx
  obtain ⟨fi, hfi⟩ : ∃ o : Nat, x.first = o := ⟨x.first.toNat, by have := hxo.f0; omega⟩
  have hfm : fi < m := by have := hxo.f1; omega
  refine rnT ?_
  refine TW.ld rfl (hsc 1 _ rfl) ?_
  refine rnT ?_
  refine TW.ldS rfl (hxc) ?_
  refine TW.newVar rfl zc183 rfl sz183 rfl rfl ?_
  rintro g3 w3 f3
  refine rnT ?_
  refine CW.drawR mixed fun W4 hb4 => ?_
  refine RW.draw .weak 9 (by kernel_rfl) (by kernel_rfl) rfl rfl hb4 ?_
  refine rnD ?_
  have ha3 := f3.at_
  have hlt3 := hX.lt
  have hB3 := hB.step f3.below
  have hX3 := hX.next f3.below
  have hsc3 := SL.getC rsCells (fun _ _ _ _ h => h) (hLW.below f3.below) hs
  have hf0 : w3.cell? (Addr.add ⟨g3, 0, none⟩ 0) = some (.int .i64 (fi : Int)) := by rw [← hfi]; exact f3.blk.fld rfl
  refine DW.ld rfl hf0 ?_
  refine rnD ?_
  refine DW.ld rfl (hsc3 0 _ rfl) ?_
  refine DW.v V.indexAddr rfl ⟨ct, ct, trivial⟩ (fun _ => by omega) ?_
  refine DW.nil (DW.fin [0, 1, 2, 9, 10, 30, 31] [(0, _, _), (1, _, _), (2, _, _), (9, _, _), (10, _, _), (30, _, _), (31, _, _)] rfl (fun w4 b4 => KW.rk' ?_))
  refine RW.one (by kernel_rfl) (by kernel_rfl) rfl ?_
  have hX4 := hX3.next b4
  refine TW.storeFld rfl sz3 rfl rfl hX4 (by simp; omega) rfl ?_
  rintro w5 hX5 hbut5 hsz5
  refine TW.nil (KW.pick [0, 1, 2, 9, 10] [(0, _, _), (1, _, _), (2, _, _), (9, _, _), (10, _, _)] rfl (KW.rk ?_))
  refine RW.end rfl (KW.pick [0, 1, 2, 9, 10] [(0, _, _), (1, _, _), (2, _, _), (9, _, _), (10, _, _)] rfl (KW.then_ ?_))
  refine rnT ?_
  have hB4 := hB3.step b4
  have hB5 : Below w.heap.size w w5 := hB4.grown hbut5 hB4.size (fun q hq => by cases hq; omega)
  have hBk5 : Blk w5 g3 183 x.cells := hbut5.blk (f3.blk.next b4) (by omega)
  have hX5' : Times w5 g1 m := ⟨xs.set fi s.time, by simp [hxl], by simpa [List.map_set] using hX5⟩
  refine TW.ld rfl (hBk5.fld rfl) ?_
  refine rnT ?_
  refine CW.pk [0, 1, 2, 9, 10, 34] rfl ?_
  refine CW.condP rfl (fun hsec => ?_) (fun hno => ?_)
  ·obtain ⟨se, hse⟩ : ∃ o : Nat, x.second = o := ⟨x.second.toNat, by omega⟩
   have hsm : se < m := by have := hxo.s1; omega
   have hsc5 := SL.getC rsCells (fun _ _ _ _ h => h) (hL.below hB5) hs
   have hf1 : w5.cell? (Addr.add ⟨g3, 0, none⟩ 1) = some (.int .i64 (se : Int)) := by rw [← hse]; exact hBk5.fld rfl
   obtain ⟨ys, hyl, hY⟩ := hX5'
   refine CW.drawR mixed fun W6 hb6 => ?_
   refine RW.draw .weak 12 (by kernel_rfl) (by kernel_rfl) rfl rfl hb6 ?_
   refine rnD ?_
   refine DW.ld rfl hf1 ?_
   refine rnD ?_
   refine DW.ld rfl (hsc5 0 _ rfl) ?_
   refine rnD ?_
   refine DW.ld rfl (hBk5.fld rfl) ?_
   refine DW.v V.add rfl ⟨ct, ct, trivial⟩ (fun _ => by omega) ?_
   refine DW.v V.indexAddr rfl ⟨ct, ct, trivial⟩ (fun _ => by omega) ?_
   refine DW.nil (DW.fin [0, 1, 2, 9, 10, 45, 46] [(0, _, _), (1, _, _), (2, _, _), (9, _, _), (10, _, _), (45, _, _), (46, _, _)] rfl (fun w6 b6 => KW.rk' ?_))
   refine RW.one (by kernel_rfl) (by kernel_rfl) rfl ?_
   have hY6 := hY.next b6
   refine TW.storeFld rfl sz3 rfl rfl hY6 (by simp; omega) rfl ?_
   rintro w7 hY7 hbut7 hsz7
   refine TW.nil (KW.pick [0, 1, 2, 9, 10] [(0, _, _), (1, _, _), (2, _, _), (9, _, _), (10, _, _)] rfl (KW.rk ?_))
   refine RW.end rfl (KW.pick [0, 1, 2, 9, 10] [(0, _, _), (1, _, _), (2, _, _), (9, _, _), (10, _, _)] rfl (KW.then_ ?_))
   refine rnT ?_
   have hB6 := hB5.step b6
   have hB7 : Below w.heap.size w w7 := hB6.grown hbut7 hB6.size (fun q hq => by cases hq; omega)
   have hsc7 := SL.getC rsCells (fun _ _ _ _ h => h) (hL.below hB7) hs
   refine TW.ld rfl (hsc7 3 _ rfl) ?_
   refine rnT ?_
   refine KW.rd (s.frm + 1).toNat ⟨by omega, hB7, ys.set se (s.time + x.gap), by simp [hyl], by simpa [List.map_set] using hY7⟩ (hp := ?_)
   rw [show (((s.frm + 1).toNat : Nat) : Int) - 1 = s.frm by omega]
   rfl
  ·have hsc5 := SL.getC rsCells (fun _ _ _ _ h => h) (hL.below hB5) hs
   refine rnT ?_
   refine TW.ld rfl (hsc5 3 _ rfl) ?_
   refine rnT ?_
   refine KW.rd (s.frm + 1).toNat ⟨by omega, hB5, hX5'⟩ (hp := ?_)
   rw [show (((s.frm + 1).toNat : Nat) : Int) - 1 = s.frm by omega]
   rfl
 ·refine rnT ?_
  refine rt1 rfl (hB)
theorem poss_feas (hw : WfE d l) (h : ∀ e ∈ l, lowC e ≤ highC e) : Poss d l ↔ Feas d (none, 0) (usOf (nodesTo l l.length)) := by
 rw [feas_iff hw.wd hw.each (List.Perm.refl _), nodes_us h]
 constructor
 ·exact fun h => h.2
 ·refine fun hf => ⟨fun u hu => ?_, hf⟩
  obtain ⟨e, he, rfl⟩ := List.mem_map.1 hu
  exact h e he
theorem poss_win (hw : WfE d l) (h : Poss d l) : ∀ e ∈ l, lowC e ≤ highC e := fun e he => ((feas_iff hw.wd hw.each (List.Perm.refl _)).1 h).1 (uOf e) (List.mem_map_of_mem he)
theorem rfit_c (hd : SD w dv d) (hl : SE w lv l) :
  Gives Tryz.prog 75 #[dv, lv, .slice none 0 0] w fun x w' => Below w.heap.size w w' ∧ ∃ tv, x = .tuple #[tv, .bool (dec (WfE d l ∧ Poss d l))] := by
 obtain ⟨D, dcap, rfl, _⟩ := hd.form
 obtain ⟨B, bcap, rfl, _⟩ := hl.form
 refine gv (f := 75) ?_
 refine rnT ?_
 refine TW.cl rfl (rvalid27_c hd hl) ?_
 rintro y w1 ⟨c1, rfl⟩
 refine rnT ?_
 refine CW.pk [0, 1, 2, 6, 7, 20] rfl ?_
 refine CW.cond rfl (fun hbad => ?_) (fun hgood => ?_)
 ·refine rnT ?_
  refine rt2 rfl ⟨c1, .slice none 0 0, ?_⟩
  rw [dec_neg (p := WfE d l ∧ Poss d l)]
  rintro ⟨h, _⟩
  rw [dec_pos h] at hbad
  simp at hbad
 have hwf : WfE d l := dec_iff.1 (by simpa using hgood)
 have hl16 := hwf.few
 refine rnT ?_
 refine TW.cl rfl (rnodes_c (se_step hl c1) hl16) ?_
 rintro y w2 ⟨c2, nv, rfl, hns⟩
 have b2 := c1.step c2
 refine rnT ?_
 refine CW.cond rfl (fun hbad2 => ?_) (fun hgood2 => ?_)
 ·refine rnT ?_
  refine rt2 rfl ⟨b2, .slice none 0 0, ?_⟩
  rw [dec_neg (p := WfE d l ∧ Poss d l)]
  rintro ⟨h, hp⟩
  rw [dec_pos (poss_win h hp)] at hbad2
  simp at hbad2
 have hwin : ∀ e ∈ l, lowC e ≤ highC e := dec_iff.1 (by simpa using hgood2)
 have hn2 := hns hwin
 have hok := nodes_ok hwf hwin
 have hnl := nodesTo_len (Nat.le_refl l.length)
 have hpf := poss_feas hwf hwin
 obtain ⟨ns, hnse⟩ : ∃ ns, ns = nodesTo l l.length := ⟨_, rfl⟩
 rw [← hnse] at hn2 hok hnl hpf
 obtain ⟨N, ncap, rfl, _⟩ := hn2.form
 have husl : (usOf ns).length = ns.length := by simp [usOf]
 have huok := us_ok hok
 have huwin := us_win hok
 refine rnT ?_
 refine CW.condP rfl (fun hz => ?_) (fun hnz => ?_)
 ·refine rnT ?_
  refine rt2 rfl ⟨b2, .slice none 0 0, ?_⟩
  have h0 : l = [] := List.eq_nil_of_length_eq_zero (by omega)
  rw [dec_pos (p := WfE d l ∧ Poss d l) ⟨hwf, by rw [h0]; exact poss_nil d⟩]
 have hn0 : 0 < ns.length := by omega
 obtain ⟨nd, rfl⟩ := hn2.addr hn0
 refine rnT ?_
 refine CW.lp [0, 1, 8] (fun x : Nat × Value => [(10, none, x.2), (11, none, .int .i64 (x.1 : Int))])
  (fun x W => x.1 ≤ ns.length ∧ Below w2.heap.size w2 W ∧ RL W x.2 (startL (usOf ns) x.1) ∧ ∀ g, x.2.ownBlock = some g → w2.heap.size ≤ g) (fun x => ns.length - x.1) (0, .slice none 0 0) ⟨Nat.zero_le _, Below.refl _ _, OwnS.nil _ _ _, fun g hg => by simp [Value.ownBlock] at hg⟩ ?_
 rintro ⟨i, cv⟩ W ⟨hi, hB, hR, hown⟩
 dsimp only at hi hR hown
 refine rnT ?_
 refine CW.pk [0, 1, 8, 10, 11, 36] rfl ?_
 refine CW.condP rfl (fun hlt => ?_) (fun hge => ?_)
 ·obtain ⟨x, hx, hxm⟩ := getx (l := ns) (k := i) (by omega)
  have hnW := hn2.below hB
  have hxc := nd_get hnW hx
  have hp16 := pow_le16 (i := i) (by omega)
  have hst : start1 (usOf ns) i = ⟨x.low, i, 1 <<< i, -1⟩ := by
   unfold start1
   rw [us_get hx]
   rfl
  obtain ⟨CA, ccap, rfl, _⟩ := hR.form
  refine rnT ?_
  refine CW.drawR mixed fun W3 hb3 => ?_
  refine RW.draw .weak 11 (by kernel_rfl) (by kernel_rfl) rfl rfl hb3 ?_
  refine rnD ?_
  refine DW.ld rfl (hxc 3 _ rfl) ?_
  refine rnD ?_
  refine DW.cl (.ex (.int .i64 ((2 ^ i : Nat) : Int))) trivial rfl (fun _ w' hb' => (rbit_c (i := i) (by omega)).mono fun u w'' ⟨h1, h2⟩ => ⟨h1, h2⟩) ?_
  refine DW.build [0, 1, 2, 3] [.tmp 44, .tmp 45, .tmp 47, .const (.int .i64 (-1))] [.int .i64 x.low, .int .i64 (i : Int), .int .i64 ((2 ^ i : Nat) : Int), .int .i64 (-1)] rfl rfl rfl rfl (DArgs.cons rfl ct (DArgs.cons rfl ct (DArgs.cons rfl ct (DArgs.cons rfl ct DArgs.nil)))) (by kernel_rfl) ?_
  refine DW.buildSlice 186 _ rfl rfl rfl eo181 (DArgs.cons rfl ct DArgs.nil) rfl rfl rfl rfl rfl ?_
  refine DW.nil (DW.finX [0, 1, 8, 10, 11, 39] [(0, _, _), (1, _, _), (8, _, _), (10, _, _), (11, _, _), (39, _, _)] rfl [49] rfl fun vs w3 b3 hs3 => KW.rk' ?_)
  obtain ⟨v49, rfl, h49⟩ := Sats.one hs3
  obtain ⟨g3, rfl, hB3⟩ := h49
  refine RW.one (by kernel_rfl) (by kernel_rfl) rfl ?_
  refine TW.append (rsCells (start1 (usOf ns) i)) rfl rfl go181 rfl (hR.below b3) rfl rfl (fun j v hj => ⟨⟨g3, 0, none⟩, rfl, ?_⟩) (fun v hv => by simp [rsCells] at hv; rcases hv with rfl | rfl | rfl | rfl <;> rfl) (by have := startL_len (usOf ns) i; omega) (by omega) ?_
  ·rw [hst, Nat.one_shiftLeft] at hj
   exact hB3.fld hj
  rintro cv' w4 o4 hg4 hn4
  refine TW.nil (KW.pick [0, 1, 8, 10, 11, 50] [(0, _, _), (1, _, _), (8, _, _), (10, _, _), (11, _, _), (50, _, _)] rfl (KW.rk ?_))
  refine RW.one (by kernel_rfl) (by kernel_rfl) rfl ?_
  refine TW.v V.assign rfl ⟨ct, trivial⟩ (fun _ => trivial) ?_
  refine TW.nil (KW.pick [0, 1, 8, 10, 11] [(0, _, _), (1, _, _), (8, _, _), (10, _, _), (11, _, _)] rfl (KW.rk ?_))
  refine RW.end rfl (KW.pick [0, 1, 8, 10, 11] [(0, _, _), (1, _, _), (8, _, _), (10, _, _), (11, _, _)] rfl (KW.blockN (KW.then_ ?_)))
  refine rnT ?_
  have hB3' := hB.step b3
  refine KW.rd (i + 1, cv') ⟨by show i + 1 ≤ ns.length; omega, hB3'.grown hg4 hB3'.size hown, ?_, fun g hg => ?_⟩
  ·show OwnS w4 _ 4 cv' (startL (usOf ns) (i + 1)).length ((startL (usOf ns) (i + 1)).flatMap rsCells)
   rw [startL_succ, List.flatMap_append]
   simpa using o4
  ·rcases hn4 with h | h
   ·exact hown g (by rw [← h]; exact hg)
   ·rw [h] at hg; cases hg; exact hB3'.size
 have hie : i = ns.length := by omega
 subst hie
 have hdp0 := start_dp (d := d) huwin
 have hgood0 : Feas d (none, 0) (usOf ns) → GoodR d (usOf ns) 1 (startL (usOf ns) (usOf ns).length) := start_good hwf.wd huok huwin (fun e => by rw [e] at husl; simp at husl; omega)
 rw [husl] at hdp0 hgood0
 refine rnT ?_
 refine CW.lp [0, 1, 8] (fun x : Nat × Value × List RS => [(10, none, x.2.1), (12, none, .int .i64 ((x.1 : Int) + 1))])
  (fun x W => x.1 + 1 ≤ ns.length ∧ Below w2.heap.size w2 W ∧ RL W x.2.1 x.2.2 ∧ (∀ g, x.2.1.ownBlock = some g → w2.heap.size ≤ g) ∧ (∃ b, DP d (usOf ns) x.1 b x.2.2) ∧ 0 < x.2.2.length ∧ (Feas d (none, 0) (usOf ns) → GoodR d (usOf ns) (x.1 + 1) x.2.2)) (fun x => ns.length - x.1) (0, cv, startL (usOf ns) ns.length) ⟨by show 0 + 1 ≤ ns.length; omega, hB, hR, hown, ⟨0, hdp0⟩, by rw [startL_len]; omega, hgood0⟩ ?_
 rintro ⟨r, cv1, L⟩ W1 ⟨hr, hB1, hR1, hown1, ⟨b, hdpL⟩, hL0, hgoodL⟩
 dsimp only at hr hR1 hown1 hdpL hL0 hgoodL
 obtain ⟨C1, cc1, rfl, _⟩ := hR1.form
 have hfewL := hdpL.few (by omega)
 refine rnT ?_
 refine CW.condP rfl (fun hlt1 => ?_) (fun hge1 => ?_)
 ·have hdpR := hdpL.round
  refine rnT ?_
  refine CW.lp [0, 1, 8, 12, 13] (fun x : Nat × Value × List RS => [(10, none, x.2.1), (14, none, .int .i64 (x.1 : Int))])
   (fun x W => x.1 ≤ L.length ∧ Below w2.heap.size w2 W ∧ RL W x.2.1 x.2.2 ∧ (∀ g, x.2.1.ownBlock = some g → w2.heap.size ≤ g) ∧ DP d (usOf ns) (r + 1) L.length x.2.2 ∧ Lat L.length L x.2.2 ∧ ∀ (j : Nat) s, j < x.1 → L[j]? = some s → pc s.set = r + 1 → Done d (usOf ns) s x.2.2 ns.length) (fun x => L.length - x.1) (0, .slice C1 L.length cc1, L) ⟨Nat.zero_le _, hB1, hR1, hown1, hdpR, Lat.refl (Nat.le_refl _), fun j s hj => by omega⟩ ?_
  rintro ⟨k, cv2, M⟩ W2 ⟨hk, hB2, hR2, hown2, hdpM, hlat, hdone⟩
  dsimp only at hk hR2 hown2 hdpM hlat hdone
  have hML : L.length ≤ M.length := by
   have h1 := congrArg List.length hlat.2.1
   simp only [List.length_take] at h1
   omega
  refine rnT ?_
  refine CW.condP rfl (fun hlt2 => ?_) (fun hge2 => ?_)
  ·obtain ⟨s, hs, hsm⟩ := getx (l := L) (k := k) (by omega)
   have hsM : M[k]? = some s := by
    have h1 : (M.take L.length)[k]? = (L.take L.length)[k]? := by rw [hlat.2.1]
    rw [List.getElem?_take_of_lt (by omega), List.getElem?_take_of_lt (by omega), hs] at h1
    exact h1
   have hdW : SL (sliceT intT) (fun q => q < w.heap.size) W2 (.slice D d.length dcap) d := hd.below (b2.step hB2)
   have hnW := hn2.below hB2
   have hbs := b2.size
   refine rnT ?_
   rw [show ((r : Int) + 1) = ((r + 1 : Nat) : Int) by omega]
   refine TW.cl rfl (rext_c hdW hwf.wd hnW hok (by omega) hR2 (fun q hq e => by have := hown2 q e; omega) (fun q hq e => by have := hown2 q e; omega) hdpM hML hsM (by omega)) ?_
   rintro cv3 w3 ⟨hg3, ho3, L3, hR3, hdp3, hlat3, hdone3⟩
   refine rnT ?_
   have hs2 := hB2.size
   refine KW.rd (k + 1, cv3, L3) ⟨by show k + 1 ≤ L.length; omega, hB2.grown hg3 hB2.size hown2, hR3, fun g hg => ?_, hdp3, hlat.trans hlat3, fun j s' hj hs' hp => ?_⟩
   ·rcases ho3 g hg with h | h
    ·exact hown2 g h
    ·omega
   ·by_cases hjk : j < k
    ·exact (hdone j s' hjk hs' hp).lat hlat3
    ·have : j = k := by have hj : j < k + 1 := hj; omega
     subst this
     rw [hs] at hs'
     cases hs'
     exact hdone3 hp
  ·have hke : k = L.length := by omega
   subst hke
   refine rnT ?_
   rw [show ((r : Int) + 1 + 1) = (((r + 1 : Nat) : Int) + 1) by omega]
   refine KW.rd (r + 1, cv2, M) ⟨by show r + 1 + 1 ≤ ns.length; omega, hB2, hR2, hown2, ⟨_, hdpM⟩, by show 0 < M.length; omega, fun hf => ?_⟩
   obtain ⟨s, hs, hsp, hsf⟩ := hgoodL hf
   obtain ⟨j, hj⟩ := List.mem_iff_getElem?.1 hs
   have hjl := (List.getElem?_eq_some_iff.1 hj).1
   have hsok := hdpL.each s hs
   have hleft := pc_left (usOf ns) s.set hsok.bits
   have hsokS := hsok.way.sok huok
   obtain ⟨i, u, h1, h2, h3, h4, h5⟩ := feas_next hwf.wd huok hsokS hsf (fun e => by rw [e] at hleft; simp only [List.length_nil] at hleft; omega)
   have hil : i < ns.length := by have := (List.getElem?_eq_some_iff.1 h1).1; omega
   have hhas := hdone j s hjl hj hsp i u hil h1 h2 h3 h4
   have hg := has_good huok h1 hhas h5
   rw [(pc_or (by omega) hsok.bits h2).1, hsp] at hg
   exact hg
 have hrn : r + 1 = ns.length := by omega
 have hRsl := RL.sl hR1 (by omega)
 obtain ⟨cg1, rfl⟩ := rl_addr hR1 hL0
 have hp16 := pow_le16 (i := ns.length) (by omega)
 have hp := Nat.two_pow_pos ns.length
 have hn1 := hn2.below hB1
 refine rnT ?_
 refine CW.lp [1, 8, 10] (fun x : Nat => [(15, none, .int .i64 ((x : Int) - 1))])
  (fun x W => x ≤ L.length ∧ Below W1.heap.size W1 W ∧ ∀ (j : Nat) s, x ≤ j → L[j]? = some s → s.set ≠ 2 ^ ns.length - 1) (fun x => x) L.length ⟨Nat.le_refl _, Below.refl _ _, fun j s h1 h2 => by have := (List.getElem?_eq_some_iff.1 h2).1; omega⟩ ?_
 rintro j W3 ⟨hj, hB3, hnone⟩
 refine rnT ?_
 refine CW.condP rfl (fun hlt3 => ?_) (fun hge3 => ?_)
 ·obtain ⟨i, rfl⟩ : ∃ i, j = i + 1 := ⟨j - 1, by omega⟩
  rw [show (((i + 1 : Nat) : Int) - 1) = (i : Int) by omega]
  obtain ⟨s, hs, hsm⟩ := getx (l := L) (k := i) (by omega)
  have hR3 := hR1.below hB3
  have hsc := rs_get hR3 (by omega) hs
  refine rnT ?_
  refine CW.draw mixed (by kernel_rfl) ?_
  refine rnD ?_
  refine DW.ld rfl (hsc 2 _ rfl) ?_
  refine rnD ?_
  refine DW.cl (.ex (.int .i64 ((2 ^ ns.length : Nat) : Int))) trivial rfl (fun _ w' hb' => (rbit_c (i := ns.length) (by omega)).mono fun u w'' ⟨h1, h2⟩ => ⟨h1, h2⟩) ?_
  refine DW.v V.sub rfl ⟨ct, ct, trivial⟩ (fun _ => by omega) ?_
  refine rnD ?_
  refine DW.fi [1, 8, 10, 15, 87] rfl fun w4 b4 => ?_
  refine KW.then_ ?_
  have hB4 := hB3.step b4
  refine CW.condP rfl (fun heq => ?_) (fun hne => ?_)
  ·have hset : s.set = 2 ^ ns.length - 1 := by omega
   have hf : Feas d (none, 0) (usOf ns) := full_feas hdpL.each ⟨s, hsm, by rw [husl]; exact hset⟩
   refine rnT ?_
   have hbk : ∀ (q : Nat) s', L[q]? = some s' → s'.frm < q ∧ -1 ≤ s'.frm ∧ s'.last < ns.length ∧ 0 ≤ s'.time ∧ s'.time ≤ 1000000 := fun q s' hs' => by
    have h1 := hdpL.each s' (List.mem_of_getElem? hs')
    have h2 := h1.last
    exact ⟨hdpL.back q s' hs', h1.f1, by omega, h1.t0, h1.t1⟩
   refine TW.cl rfl (rtimes_c (hn1.below hB4) hok hl16 (hRsl.below hB4) hbk (by omega)) ?_
   rintro tv w5 c5
   refine rnT ?_
   refine rt2 rfl ⟨b2.step (hB1.step (hB4.step c5)), tv, ?_⟩
   rw [dec_pos (p := WfE d l ∧ Poss d l) ⟨hwf, hpf.2 hf⟩]
  ·refine rnT ?_
   refine KW.rd i ⟨by omega, hB4, fun q s' hq hs' => ?_⟩
   by_cases hqi : q = i
   ·subst hqi
    rw [hs] at hs'
    cases hs'
    intro e
    omega
   ·exact hnone q s' (by omega) hs'
 ·refine rnT ?_
  refine rt2 rfl ⟨b2.step (hB1.step hB3), .slice none 0 0, ?_⟩
  rw [dec_neg (p := WfE d l ∧ Poss d l)]
  rintro ⟨_, hp⟩
  have hg := hgoodL (hpf.1 hp)
  rw [hrn, ← husl] at hg
  obtain ⟨s, hs, he⟩ := good_full hdpL.each hg
  obtain ⟨q, hq⟩ := List.mem_iff_getElem?.1 hs
  exact hnone q s (by omega) hq (by rw [← husl]; exact he)
theorem nodeJ_u (ha : lowC a ≤ highC a) (hb : lowC b ≤ highC b) : (nodeJ n a b g).u = jU a b g := by
 obtain ⟨h1, h2⟩ := clip_eq ha
 obtain ⟨h3, h4⟩ := clip_eq hb
 unfold nodeJ Nd.u jU
 simp only [h1, h2, h3, h4]
theorem wfe_rest (hle : l = rest ++ [a, b]) (h : WfE d l) : WfE d rest ∧ EOK d a ∧ EOK d b :=
 ⟨⟨h.wd, by have := h.few; rw [hle, List.length_append] at this; omega, fun e he => h.each e (by rw [hle]; exact List.mem_append_left _ he)⟩, h.each a (by rw [hle]; simp), h.each b (by rw [hle]; simp)⟩
theorem nodesJ_us (hn : rest.length = n) (h : NodesJ d rest a b g) : usOf (nodeJ n a b g :: nodesTo rest n) = jU a b g :: rest.map uOf := by
 have := nodes_us h.each
 rw [hn] at this
 show (nodeJ n a b g).u :: usOf (nodesTo rest n) = _
 rw [this, nodeJ_u h.wa h.wb]
theorem possJ_nodes (hle : l = rest ++ [a, b]) (hg : 0 ≤ g ∧ g ≤ 1000000) (hw : WfE d l) (h : PossJ d rest a b g) : NodesJ d rest a b g := by
 obtain ⟨hr, ha, hb⟩ := wfe_rest hle hw
 have hall := ((feasJ_iff hw.wd hr.each ha hb hg.1 h.1 (List.Perm.refl _)).1 h).1
 have hj := hall (jU a b g) (by simp)
 have e1 : (jU a b g).low = max (lowC a) (lowC b - g) := rfl
 have e2 : (jU a b g).high = min (highC a) (highC b - g) := rfl
 have hwa : lowC a ≤ highC a := by omega
 have hwb : lowC b ≤ highC b := by omega
 refine ⟨h.1, hwa, hwb, ?_, fun e he => hall (uOf e) (List.mem_cons_of_mem _ (List.mem_map_of_mem he))⟩
 have := congrArg U.low (nodeJ_u (n := 0) (g := g) hwa hwb)
 have h2 := congrArg U.high (nodeJ_u (n := 0) (g := g) hwa hwb)
 have q1 : (nodeJ 0 a b g).low = (jU a b g).low := this
 have q2 : (nodeJ 0 a b g).high = (jU a b g).high := h2
 omega
theorem possJ_feas (hle : l = rest ++ [a, b]) (hn : rest.length = n) (hg : 0 ≤ g ∧ g ≤ 1000000) (hw : WfE d l) (h : NodesJ d rest a b g) : PossJ d rest a b g ↔ Feas d (none, 0) (usOf (nodeJ n a b g :: nodesTo rest n)) := by
 obtain ⟨hr, ha, hb⟩ := wfe_rest hle hw
 rw [feasJ_iff hw.wd hr.each ha hb hg.1 h.leg (List.Perm.refl _), nodesJ_us hn h]
 refine ⟨fun h => h.2, fun hf => ⟨fun u hu => ?_, hf⟩⟩
 rcases List.mem_cons.1 hu with rfl | hu
 ·rw [← nodeJ_u (n := 0) h.wa h.wb]
  exact h.wj
 ·obtain ⟨e, he, rfl⟩ := List.mem_map.1 hu
  exact h.each e he
theorem nodesJ_ok (hle : l = rest ++ [a, b]) (hn : rest.length = n) (hg : 0 ≤ g ∧ g ≤ 1000000) (hw : WfE d l) (h : NodesJ d rest a b g) : ∀ x ∈ nodeJ n a b g :: nodesTo rest n, NdOK d l.length x := by
 obtain ⟨hr, ha, hb⟩ := wfe_rest hle hw
 have hll : l.length = n + 2 := by rw [hle, List.length_append, hn]; rfl
 intro x hx
 rcases List.mem_cons.1 hx with rfl | hx
 ·have r1 := clip_rng a
  have r2 := clip_rng b
  have hu := nodeJ_u (n := n) (g := g) h.wa h.wb
  refine ⟨ha.o1, hb.o1, hg.1, hg.2, ?_, h.wj, ?_, by rw [hu]; exact jU_ok ha hb h.leg, by show (0 : Int) ≤ n; omega, by show (n : Int) < _; omega, by show ((n : Int) + 1) < _; omega⟩
  ·show 0 ≤ max (clipE a).low ((clipE b).low - g)
   omega
  ·show min (clipE a).high ((clipE b).high - g) ≤ 1000000
   omega
 ·rw [← hn] at hx
  have q := nodes_ok hr h.each x hx
  exact ⟨q.o0, q.e0, q.g0, q.g1, q.w0, q.w1, q.w2, q.uok, q.f0, by have := q.f1; omega, by have := q.s1; omega⟩
theorem rfitJ_c {ea eb : Ev} {la : Addr} {lc : Nat} {gp : Int} (hd : SD w dv d) (hl : SE w lv l) (hleg : LegAt w la n gp) (hle : l = rest ++ [ea, eb]) (hn : rest.length = n) (hgp : 0 ≤ gp ∧ gp ≤ 1000000) :
  Gives Tryz.prog 75 #[dv, lv, .slice (some la) 1 lc] w fun x w' => Below w.heap.size w w' ∧ ∃ tv, x = .tuple #[tv, .bool (dec (WfE d l ∧ PossJ d rest ea eb gp))] := by
 obtain ⟨D, dcap, rfl, _⟩ := hd.form
 obtain ⟨B, bcap, rfl, _⟩ := hl.form
 have hll : l.length = n + 2 := by rw [hle, List.length_append, hn]; rfl
 refine gv (f := 75) ?_
 refine rnT ?_
 refine TW.cl rfl (rvalidJ_c hd hl hleg hll hgp) ?_
 rintro y w1 ⟨c1, rfl⟩
 refine rnT ?_
 refine CW.cond rfl (fun hbad => ?_) (fun hgood => ?_)
 ·refine rnT ?_
  refine rt2 rfl ⟨c1, .slice none 0 0, ?_⟩
  rw [dec_neg (p := WfE d l ∧ PossJ d rest ea eb gp)]
  rintro ⟨h, _⟩
  rw [dec_pos h] at hbad
  simp at hbad
 have hwf : WfE d l := dec_iff.1 (by simpa using hgood)
 have hl16 := hwf.few
 refine rnT ?_
 refine TW.cl rfl (rnodesJ_c (sd_step hd c1) (se_step hl c1) (hleg.below c1) hle hn hgp hwf) ?_
 rintro y w2 ⟨c2, nv, rfl, hns⟩
 have b2 := c1.step c2
 refine rnT ?_
 refine CW.pk [0, 1, 2, 6, 7, 8, 9, 29] rfl ?_
 refine CW.cond rfl (fun hbad2 => ?_) (fun hgood2 => ?_)
 ·refine rnT ?_
  refine rt2 rfl ⟨b2, .slice none 0 0, ?_⟩
  rw [dec_neg (p := WfE d l ∧ PossJ d rest ea eb gp)]
  rintro ⟨h, hp⟩
  rw [dec_pos (possJ_nodes hle hgp h hp)] at hbad2
  simp at hbad2
 have hwin : NodesJ d rest ea eb gp := dec_iff.1 (by simpa using hgood2)
 have hn2 := hns hwin
 have hok := nodesJ_ok hle hn hgp hwf hwin
 have hnl : (nodeJ n ea eb gp :: nodesTo rest n).length = n + 1 := by rw [List.length_cons, nodesTo_len (by omega)]
 have hpf := possJ_feas hle hn hgp hwf hwin
 obtain ⟨ns, hnse⟩ : ∃ ns, ns = nodeJ n ea eb gp :: nodesTo rest n := ⟨_, rfl⟩
 rw [← hnse] at hn2 hok hnl hpf
 obtain ⟨N, ncap, rfl, _⟩ := hn2.form
 have husl : (usOf ns).length = ns.length := by simp [usOf]
 have huok := us_ok hok
 have huwin := us_win hok
 refine rnT ?_
 refine CW.condP rfl (fun hz => ?_) (fun hnz => ?_)
 ·refine rnT ?_
  refine rt2 rfl ⟨b2, .slice none 0 0, ?_⟩
  exact absurd hz (by omega)
 have hn0 : 0 < ns.length := by omega
 obtain ⟨nd, rfl⟩ := hn2.addr hn0
 refine rnT ?_
 refine CW.lp [0, 1, 8] (fun x : Nat × Value => [(10, none, x.2), (11, none, .int .i64 (x.1 : Int))])
  (fun x W => x.1 ≤ ns.length ∧ Below w2.heap.size w2 W ∧ RL W x.2 (startL (usOf ns) x.1) ∧ ∀ g, x.2.ownBlock = some g → w2.heap.size ≤ g) (fun x => ns.length - x.1) (0, .slice none 0 0) ⟨Nat.zero_le _, Below.refl _ _, OwnS.nil _ _ _, fun g hg => by simp [Value.ownBlock] at hg⟩ ?_
 rintro ⟨i, cv⟩ W ⟨hi, hB, hR, hown⟩
 dsimp only at hi hR hown
 refine rnT ?_
 refine CW.pk [0, 1, 8, 10, 11, 36] rfl ?_
 refine CW.condP rfl (fun hlt => ?_) (fun hge => ?_)
 ·obtain ⟨x, hx, hxm⟩ := getx (l := ns) (k := i) (by omega)
  have hnW := hn2.below hB
  have hxc := nd_get hnW hx
  have hp16 := pow_le16 (i := i) (by omega)
  have hst : start1 (usOf ns) i = ⟨x.low, i, 1 <<< i, -1⟩ := by
   unfold start1
   rw [us_get hx]
   rfl
  obtain ⟨CA, ccap, rfl, _⟩ := hR.form
  refine rnT ?_
  refine CW.drawR mixed fun W3 hb3 => ?_
  refine RW.draw .weak 11 (by kernel_rfl) (by kernel_rfl) rfl rfl hb3 ?_
  refine rnD ?_
  refine DW.ld rfl (hxc 3 _ rfl) ?_
  refine rnD ?_
  refine DW.cl (.ex (.int .i64 ((2 ^ i : Nat) : Int))) trivial rfl (fun _ w' hb' => (rbit_c (i := i) (by omega)).mono fun u w'' ⟨h1, h2⟩ => ⟨h1, h2⟩) ?_
  refine DW.build [0, 1, 2, 3] [.tmp 44, .tmp 45, .tmp 47, .const (.int .i64 (-1))] [.int .i64 x.low, .int .i64 (i : Int), .int .i64 ((2 ^ i : Nat) : Int), .int .i64 (-1)] rfl rfl rfl rfl (DArgs.cons rfl ct (DArgs.cons rfl ct (DArgs.cons rfl ct (DArgs.cons rfl ct DArgs.nil)))) (by kernel_rfl) ?_
  refine DW.buildSlice 186 _ rfl rfl rfl eo181 (DArgs.cons rfl ct DArgs.nil) rfl rfl rfl rfl rfl ?_
  refine DW.nil (DW.finX [0, 1, 8, 10, 11, 39] [(0, _, _), (1, _, _), (8, _, _), (10, _, _), (11, _, _), (39, _, _)] rfl [49] rfl fun vs w3 b3 hs3 => KW.rk' ?_)
  obtain ⟨v49, rfl, h49⟩ := Sats.one hs3
  obtain ⟨g3, rfl, hB3⟩ := h49
  refine RW.one (by kernel_rfl) (by kernel_rfl) rfl ?_
  refine TW.append (rsCells (start1 (usOf ns) i)) rfl rfl go181 rfl (hR.below b3) rfl rfl (fun j v hj => ⟨⟨g3, 0, none⟩, rfl, ?_⟩) (fun v hv => by simp [rsCells] at hv; rcases hv with rfl | rfl | rfl | rfl <;> rfl) (by have := startL_len (usOf ns) i; omega) (by omega) ?_
  ·rw [hst, Nat.one_shiftLeft] at hj
   exact hB3.fld hj
  rintro cv' w4 o4 hg4 hn4
  refine TW.nil (KW.pick [0, 1, 8, 10, 11, 50] [(0, _, _), (1, _, _), (8, _, _), (10, _, _), (11, _, _), (50, _, _)] rfl (KW.rk ?_))
  refine RW.one (by kernel_rfl) (by kernel_rfl) rfl ?_
  refine TW.v V.assign rfl ⟨ct, trivial⟩ (fun _ => trivial) ?_
  refine TW.nil (KW.pick [0, 1, 8, 10, 11] [(0, _, _), (1, _, _), (8, _, _), (10, _, _), (11, _, _)] rfl (KW.rk ?_))
  refine RW.end rfl (KW.pick [0, 1, 8, 10, 11] [(0, _, _), (1, _, _), (8, _, _), (10, _, _), (11, _, _)] rfl (KW.blockN (KW.then_ ?_)))
  refine rnT ?_
  have hB3' := hB.step b3
  refine KW.rd (i + 1, cv') ⟨by show i + 1 ≤ ns.length; omega, hB3'.grown hg4 hB3'.size hown, ?_, fun g hg => ?_⟩
  ·show OwnS w4 _ 4 cv' (startL (usOf ns) (i + 1)).length ((startL (usOf ns) (i + 1)).flatMap rsCells)
   rw [startL_succ, List.flatMap_append]
   simpa using o4
  ·rcases hn4 with h | h
   ·exact hown g (by rw [← h]; exact hg)
   ·rw [h] at hg; cases hg; exact hB3'.size
 have hie : i = ns.length := by omega
 subst hie
 have hdp0 := start_dp (d := d) huwin
 have hgood0 : Feas d (none, 0) (usOf ns) → GoodR d (usOf ns) 1 (startL (usOf ns) (usOf ns).length) := start_good hwf.wd huok huwin (fun e => by rw [e] at husl; simp at husl; omega)
 rw [husl] at hdp0 hgood0
 refine rnT ?_
 refine CW.lp [0, 1, 8] (fun x : Nat × Value × List RS => [(10, none, x.2.1), (12, none, .int .i64 ((x.1 : Int) + 1))])
  (fun x W => x.1 + 1 ≤ ns.length ∧ Below w2.heap.size w2 W ∧ RL W x.2.1 x.2.2 ∧ (∀ g, x.2.1.ownBlock = some g → w2.heap.size ≤ g) ∧ (∃ b, DP d (usOf ns) x.1 b x.2.2) ∧ 0 < x.2.2.length ∧ (Feas d (none, 0) (usOf ns) → GoodR d (usOf ns) (x.1 + 1) x.2.2)) (fun x => ns.length - x.1) (0, cv, startL (usOf ns) ns.length) ⟨by show 0 + 1 ≤ ns.length; omega, hB, hR, hown, ⟨0, hdp0⟩, by rw [startL_len]; omega, hgood0⟩ ?_
 rintro ⟨r, cv1, L⟩ W1 ⟨hr, hB1, hR1, hown1, ⟨b, hdpL⟩, hL0, hgoodL⟩
 dsimp only at hr hR1 hown1 hdpL hL0 hgoodL
 obtain ⟨C1, cc1, rfl, _⟩ := hR1.form
 have hfewL := hdpL.few (by omega)
 refine rnT ?_
 refine CW.condP rfl (fun hlt1 => ?_) (fun hge1 => ?_)
 ·have hdpR := hdpL.round
  refine rnT ?_
  refine CW.lp [0, 1, 8, 12, 13] (fun x : Nat × Value × List RS => [(10, none, x.2.1), (14, none, .int .i64 (x.1 : Int))])
   (fun x W => x.1 ≤ L.length ∧ Below w2.heap.size w2 W ∧ RL W x.2.1 x.2.2 ∧ (∀ g, x.2.1.ownBlock = some g → w2.heap.size ≤ g) ∧ DP d (usOf ns) (r + 1) L.length x.2.2 ∧ Lat L.length L x.2.2 ∧ ∀ (j : Nat) s, j < x.1 → L[j]? = some s → pc s.set = r + 1 → Done d (usOf ns) s x.2.2 ns.length) (fun x => L.length - x.1) (0, .slice C1 L.length cc1, L) ⟨Nat.zero_le _, hB1, hR1, hown1, hdpR, Lat.refl (Nat.le_refl _), fun j s hj => by omega⟩ ?_
  rintro ⟨k, cv2, M⟩ W2 ⟨hk, hB2, hR2, hown2, hdpM, hlat, hdone⟩
  dsimp only at hk hR2 hown2 hdpM hlat hdone
  have hML : L.length ≤ M.length := by
   have h1 := congrArg List.length hlat.2.1
   simp only [List.length_take] at h1
   omega
  refine rnT ?_
  refine CW.condP rfl (fun hlt2 => ?_) (fun hge2 => ?_)
  ·obtain ⟨s, hs, hsm⟩ := getx (l := L) (k := k) (by omega)
   have hsM : M[k]? = some s := by
    have h1 : (M.take L.length)[k]? = (L.take L.length)[k]? := by rw [hlat.2.1]
    rw [List.getElem?_take_of_lt (by omega), List.getElem?_take_of_lt (by omega), hs] at h1
    exact h1
   have hdW : SL (sliceT intT) (fun q => q < w.heap.size) W2 (.slice D d.length dcap) d := hd.below (b2.step hB2)
   have hnW := hn2.below hB2
   have hbs := b2.size
   refine rnT ?_
   rw [show ((r : Int) + 1) = ((r + 1 : Nat) : Int) by omega]
   refine TW.cl rfl (rext_c hdW hwf.wd hnW hok (by omega) hR2 (fun q hq e => by have := hown2 q e; omega) (fun q hq e => by have := hown2 q e; omega) hdpM hML hsM (by omega)) ?_
   rintro cv3 w3 ⟨hg3, ho3, L3, hR3, hdp3, hlat3, hdone3⟩
   refine rnT ?_
   have hs2 := hB2.size
   refine KW.rd (k + 1, cv3, L3) ⟨by show k + 1 ≤ L.length; omega, hB2.grown hg3 hB2.size hown2, hR3, fun g hg => ?_, hdp3, hlat.trans hlat3, fun j s' hj hs' hp => ?_⟩
   ·rcases ho3 g hg with h | h
    ·exact hown2 g h
    ·omega
   ·by_cases hjk : j < k
    ·exact (hdone j s' hjk hs' hp).lat hlat3
    ·have : j = k := by have hj : j < k + 1 := hj; omega
     subst this
     rw [hs] at hs'
     cases hs'
     exact hdone3 hp
  ·have hke : k = L.length := by omega
   subst hke
   refine rnT ?_
   rw [show ((r : Int) + 1 + 1) = (((r + 1 : Nat) : Int) + 1) by omega]
   refine KW.rd (r + 1, cv2, M) ⟨by show r + 1 + 1 ≤ ns.length; omega, hB2, hR2, hown2, ⟨_, hdpM⟩, by show 0 < M.length; omega, fun hf => ?_⟩
   obtain ⟨s, hs, hsp, hsf⟩ := hgoodL hf
   obtain ⟨j, hj⟩ := List.mem_iff_getElem?.1 hs
   have hjl := (List.getElem?_eq_some_iff.1 hj).1
   have hsok := hdpL.each s hs
   have hleft := pc_left (usOf ns) s.set hsok.bits
   have hsokS := hsok.way.sok huok
   obtain ⟨i, u, h1, h2, h3, h4, h5⟩ := feas_next hwf.wd huok hsokS hsf (fun e => by rw [e] at hleft; simp only [List.length_nil] at hleft; omega)
   have hil : i < ns.length := by have := (List.getElem?_eq_some_iff.1 h1).1; omega
   have hhas := hdone j s hjl hj hsp i u hil h1 h2 h3 h4
   have hg := has_good huok h1 hhas h5
   rw [(pc_or (by omega) hsok.bits h2).1, hsp] at hg
   exact hg
 have hrn : r + 1 = ns.length := by omega
 have hRsl := RL.sl hR1 (by omega)
 obtain ⟨cg1, rfl⟩ := rl_addr hR1 hL0
 have hp16 := pow_le16 (i := ns.length) (by omega)
 have hp := Nat.two_pow_pos ns.length
 have hn1 := hn2.below hB1
 refine rnT ?_
 refine CW.lp [1, 8, 10] (fun x : Nat => [(15, none, .int .i64 ((x : Int) - 1))])
  (fun x W => x ≤ L.length ∧ Below W1.heap.size W1 W ∧ ∀ (j : Nat) s, x ≤ j → L[j]? = some s → s.set ≠ 2 ^ ns.length - 1) (fun x => x) L.length ⟨Nat.le_refl _, Below.refl _ _, fun j s h1 h2 => by have := (List.getElem?_eq_some_iff.1 h2).1; omega⟩ ?_
 rintro j W3 ⟨hj, hB3, hnone⟩
 refine rnT ?_
 refine CW.condP rfl (fun hlt3 => ?_) (fun hge3 => ?_)
 ·obtain ⟨i, rfl⟩ : ∃ i, j = i + 1 := ⟨j - 1, by omega⟩
  rw [show (((i + 1 : Nat) : Int) - 1) = (i : Int) by omega]
  obtain ⟨s, hs, hsm⟩ := getx (l := L) (k := i) (by omega)
  have hR3 := hR1.below hB3
  have hsc := rs_get hR3 (by omega) hs
  refine rnT ?_
  refine CW.draw mixed (by kernel_rfl) ?_
  refine rnD ?_
  refine DW.ld rfl (hsc 2 _ rfl) ?_
  refine rnD ?_
  refine DW.cl (.ex (.int .i64 ((2 ^ ns.length : Nat) : Int))) trivial rfl (fun _ w' hb' => (rbit_c (i := ns.length) (by omega)).mono fun u w'' ⟨h1, h2⟩ => ⟨h1, h2⟩) ?_
  refine DW.v V.sub rfl ⟨ct, ct, trivial⟩ (fun _ => by omega) ?_
  refine rnD ?_
  refine DW.fi [1, 8, 10, 15, 87] rfl fun w4 b4 => ?_
  refine KW.then_ ?_
  have hB4 := hB3.step b4
  refine CW.condP rfl (fun heq => ?_) (fun hne => ?_)
  ·have hset : s.set = 2 ^ ns.length - 1 := by omega
   have hf : Feas d (none, 0) (usOf ns) := full_feas hdpL.each ⟨s, hsm, by rw [husl]; exact hset⟩
   refine rnT ?_
   have hbk : ∀ (q : Nat) s', L[q]? = some s' → s'.frm < q ∧ -1 ≤ s'.frm ∧ s'.last < ns.length ∧ 0 ≤ s'.time ∧ s'.time ≤ 1000000 := fun q s' hs' => by
    have h1 := hdpL.each s' (List.mem_of_getElem? hs')
    have h2 := h1.last
    exact ⟨hdpL.back q s' hs', h1.f1, by omega, h1.t0, h1.t1⟩
   refine TW.cl rfl (rtimes_c (hn1.below hB4) hok hl16 (hRsl.below hB4) hbk (by omega)) ?_
   rintro tv w5 c5
   refine rnT ?_
   refine rt2 rfl ⟨b2.step (hB1.step (hB4.step c5)), tv, ?_⟩
   rw [dec_pos (p := WfE d l ∧ PossJ d rest ea eb gp) ⟨hwf, hpf.2 hf⟩]
  ·refine rnT ?_
   refine KW.rd i ⟨by omega, hB4, fun q s' hq hs' => ?_⟩
   by_cases hqi : q = i
   ·subst hqi
    rw [hs] at hs'
    cases hs'
    intro e
    omega
   ·exact hnone q s' (by omega) hs'
 ·refine rnT ?_
  refine rt2 rfl ⟨b2.step (hB1.step hB3), .slice none 0 0, ?_⟩
  rw [dec_neg (p := WfE d l ∧ PossJ d rest ea eb gp)]
  rintro ⟨_, hp⟩
  have hg := hgoodL (hpf.1 hp)
  rw [hrn, ← husl] at hg
  obtain ⟨s, hs, he⟩ := good_full hdpL.each hg
  obtain ⟨q, hq⟩ := List.mem_iff_getElem?.1 hs
  exact hnone q s (by omega) hq (by rw [← husl]; exact he)
theorem rrest_c {v u : Value} {S : List Int} {F : Nat → Prop} (hl : SE w v l) (hS : SL intT F w u S) (hsm : l.length ≤ 1000000) :
  Gives Tryz.prog 46 #[v, u] w fun x w' => Below w.heap.size w w' ∧ SE w' x (restS l S) := by
 obtain ⟨A, cap, rfl, _⟩ := hl.form
 obtain ⟨B, bcap, rfl, _⟩ := hS.form
 refine gv (f := 46) ?_
 refine rnT ?_
 refine TW.buildSlice0 50 rfl rfl eo31 ?_
 rintro g1 w1 f1
 have hg1 := f1.at_
 refine rnT ?_
 refine CW.lp [0, 1] (fun x : Nat × Value × List (List Value × Ev) => [(5, none, x.2.1), (6, none, .int .i64 (x.1 : Int))])
  (fun x W' => x.1 ≤ l.length ∧ Below w.heap.size w W' ∧ RowL evT W' 50 w.heap.size x.2.1 x.2.2 ∧ x.2.2.map (·.2) = restS (l.take x.1) S) (fun x => l.length - x.1) (0, .slice (some ⟨g1, 0, none⟩) 0 0, []) ⟨Nat.zero_le _, f1.below, ⟨OwnS.of_blk f1.blk rfl (by omega), (fun p hp => by cases hp), (fun g hg => by simp [Value.ownBlock] at hg; omega)⟩, rfl⟩ ?_
 rintro ⟨k, rv, ps⟩ W ⟨hk, hB, hR, hmap⟩
 dsimp only at hk hB hR hmap
 refine rnT ?_
 refine CW.condP rfl (fun hlt => ?_) (fun hge => ?_)
 ·have hkl : k < l.length := by omega
  obtain ⟨e, he, hem⟩ := getx (l := l) (k := k) (by omega)
  obtain ⟨ad, rfl⟩ := hl.addr (by omega)
  obtain ⟨nv, hcells0, i1, i2, i3, hn0⟩ := SE.get hl he
  obtain ⟨C, ncap, rfl, _⟩ := hn0.form
  have hcells : ∀ j v, [Value.int .i64 e.office, .int .i64 e.low, .int .i64 e.high, .slice C e.needs.length ncap][j]? = some v → W.cell? ((ad.add ((k : Int).toNat * 4)).add j) = some v := fun j v hv => (hB.cell (block_lt_of_cell (hcells0 j v hv))).trans (hcells0 j v hv)
  have hneeds := hn0.below hB
  have hnmax := hneeds.len.2.2
  have cellsW : ∀ W', Below W.heap.size W W' → ∀ j v, [Value.int .i64 e.office, .int .i64 e.low, .int .i64 e.high, .slice C e.needs.length ncap][j]? = some v → W'.cell? ((ad.add ((k : Int).toNat * 4)).add j) = some v := fun W' hb j v hv => (hb.cell (block_lt_of_cell (hcells j v hv))).trans (hcells j v hv)
  have htk : restS (l.take (k + 1)) S = restS (l.take k) S ++ if gone S e then [] else [e] := by
   unfold restS
   rw [List.take_add_one, he, List.filter_append]
   cases hq : gone S e <;> simp [List.filter, hq]
  refine rnT ?_
  refine CW.lp [0, 1, 5, 6] (fun j : Nat => [(7, none, .bool (!(e.needs.take j).any fun r => S.contains r)), (8, none, .int .i64 (j : Int))])
   (fun j W' => j ≤ e.needs.length ∧ Below W.heap.size W W') (fun j => e.needs.length - j) 0 ⟨Nat.zero_le _, Below.refl _ _⟩ ?_
  rintro j W2 ⟨hj, hB2⟩
  refine rnT ?_
  refine TW.ld rfl (cellsW W2 hB2 3 _ rfl) ?_
  refine rnT ?_
  refine CW.pk [0, 1, 5, 6, 7, 8, 23] rfl ?_
  refine CW.condP rfl (fun hlt2 => ?_) (fun hge2 => ?_)
  ·obtain ⟨x, hx, hxm⟩ := getx (l := e.needs) (k := j) (by omega)
   have hn2 := hneeds.below hB2
   obtain ⟨cd, rfl⟩ := hn2.addr (by omega)
   refine rnT ?_
   refine TW.ld rfl (cellsW W2 hB2 3 _ rfl) ?_
   refine rnT ?_
   refine TW.ld rfl (hn2.getI hx) ?_
   refine TW.callF (cap := []) rfl rfl en79 rfl ct (Args.cons rfl id (Args.cons rfl id Args.nil)) (fun _ => rin_c ((hS.below hB).below hB2)) ?_
   rintro w3 c3
   refine rnT ?_
   refine KW.rd (j + 1) ⟨by omega, hB2.step c3⟩ (hp := ?_)
   have ht : (e.needs.take (j + 1)).any (fun r => S.contains r) = ((e.needs.take j).any (fun r => S.contains r) || S.contains x) := by
    rw [List.take_add_one, hx, List.any_append]
    simp
   rw [ht]
   have hc : S.contains x = decide (x ∈ S) := by simp
   rw [hc]
   cases (e.needs.take j).any (fun r => S.contains r) <;> rfl
  have hjn : j = e.needs.length := by omega
  subst hjn
  rw [List.take_length]
  have hg : (e.needs.any fun r => S.contains r) = gone S e := rfl
  rw [hg]
  have hR2 := hR.step hB2
  refine rnT ?_
  refine CW.cond rfl (fun hin => ?_) (fun hout => ?_)
  ·have hg0 : gone S e = false := by simpa using hin
   rw [hg0] at htk
   refine rnT ?_
   refine TW.ldS rfl (cellsW W2 hB2) ?_
   refine TW.buildSlice 50 _ rfl rfl rfl eo31 (Args.cons rfl ct Args.nil) rfl rfl rfl rfl rfl ?_
   rintro g7 w7 f7
   have hR7 := hR2.step f7.below
   have hW7 := hB2.step f7.below
   have hfew : ps.length ≤ 1000000 := by
    have h1 : ps.length = (restS (l.take k) S).length := by rw [← hmap]; simp
    have h2 : (restS (l.take k) S).length ≤ (l.take k).length := List.length_filter_le _ _
    have h3 : (l.take k).length ≤ l.length := by rw [List.length_take]; omega
    omega
   refine TW.append [.int .i64 e.office, .int .i64 e.low, .int .i64 e.high, .slice C e.needs.length ncap] rfl rfl go31 rfl hR7.1 rfl rfl (fun j v hj => ⟨⟨g7, 0, none⟩, rfl, f7.blk.fld hj⟩) (fun v hv => by simp at hv; rcases hv with rfl | rfl | rfl | rfl <;> rfl) (by omega) (by omega) ?_
   rintro rv' w8 hO8 hg8 hnew8
   refine rnT ?_
   have hBW7 := hB.step hW7
   have hn7 : SL intT (RowF w7 rv) w7 (.slice C e.needs.length ncap) e.needs := (hn0.below hBW7).wider (fun q hq => ⟨by have := hBW7.size; omega, fun e => by have := hR.2.2 q e; omega⟩)
   have hR8 : RowL evT w8 50 w.heap.size rv' (ps ++ [([.int .i64 e.office, .int .i64 e.low, .int .i64 e.high, .slice C e.needs.length ncap], e)]) := hR7.app hO8 hg8 hnew8 ⟨_, rfl, i1, i2, i3, hn7⟩ hBW7.size
   refine KW.rd (k + 1, rv', ps ++ [([.int .i64 e.office, .int .i64 e.low, .int .i64 e.high, .slice C e.needs.length ncap], e)]) ⟨by show k + 1 ≤ l.length; omega, hBW7.grown hg8 hBW7.size hR.2.2, hR8, ?_⟩
   show List.map Prod.snd (ps ++ [_]) = restS (l.take (k + 1)) S
   rw [List.map_append, hmap, htk]
   simp
  ·have hg1 : gone S e = true := by simpa using hout
   rw [hg1] at htk
   refine rnT ?_
   refine KW.rd (k + 1, rv, ps) ⟨by show k + 1 ≤ l.length; omega, hB.step hB2, hR2, ?_⟩
   show ps.map (·.2) = restS (l.take (k + 1)) S
   rw [hmap, htk]
   simp
 ·refine rnT ?_
  have hke : k = l.length := by omega
  subst hke
  refine rt1 rfl ⟨hB, ?_⟩
  have := hR.sl (by decide)
  rw [hmap, List.take_length] at this
  exact this
end Go.Proofs.YtnjknkgomhmlfaaGreatDoor
namespace Go.Proofs.YtnjknkgomhmlfaaGreatDoor
open Go.PF Go.RowKit Go.Ord
variable {W W' : World} {b : Nat} {lv : Value} {rs : List (Value × List Int)}
structure Tab (W : World) (b : Nat) (lv : Value) (rs : List (Value × List Int)) : Prop where
 own : OwnS W 48 1 lv rs.length (rs.map (·.1))
 lb : ∀ g, lv.ownBlock = some g → b ≤ g
 row : ∀ p ∈ rs, OwnS W 3 1 p.1 p.2.length (p.2.map (Value.int .i64)) ∧ (∀ x ∈ p.2, I64 x) ∧ ∀ g, p.1.ownBlock = some g → b ≤ g ∧ lv.ownBlock ≠ some g
 dis : rs.Pairwise fun p q => ∀ g, p.1.ownBlock = some g → q.1.ownBlock ≠ some g
theorem Tab.step (h : Tab W b lv rs) (hb : Below W.heap.size W W') : Tab W' b lv rs :=
 ⟨h.own.below hb, h.lb, fun p hp => ⟨(h.row p hp).1.below hb, (h.row p hp).2⟩, h.dis⟩
theorem Tab.sdF (h : Tab W b lv rs) (hs : rs.length ≤ 1000) (hr : ∀ p ∈ rs, p.2.length ≤ 1000) : SL (sliceT intT) (fun k => b ≤ k ∧ k < W.heap.size) W lv (rs.map (·.2)) := by
 have key : SL (sliceT intT) (fun k => b ≤ k ∧ k < W.heap.size) W lv ((rs.map fun p => ([p.1], p.2)).map (·.2)) := by
  refine OwnS.toSLp (T := sliceT intT) (e := 48) (n := rs.length) (rs.map fun p => ([p.1], p.2)) (fun q hq => ?_) (by show 0 < 1; decide) ?_ (by simp) (fun g hg => (⟨h.lb g hg, h.own.lt hg⟩ : b ≤ g ∧ g < W.heap.size)) (by simp; omega)
  ·obtain ⟨p, hp, rfl⟩ := List.mem_map.1 hq
   obtain ⟨h1, h2, h3⟩ := h.row p hp
   exact ⟨p.1, rfl, OwnS.toInts h1 h2 (fun g hg => (⟨(h3 g hg).1, h1.lt hg⟩ : b ≤ g ∧ g < W.heap.size)) (by have := hr p hp; show p.2.length ≤ _; omega)⟩
  ·have e : (rs.map fun p => ([p.1], p.2)).flatMap (·.1) = rs.map (·.1) := by
    clear h hs hr
    induction rs with
    | nil => rfl
    | cons p rs ih => simp only [List.map_cons, List.flatMap_cons, ih]; rfl
   rw [e]
   exact h.own
 rwa [List.map_map] at key
theorem Tab.sd (h : Tab W b lv rs) (hs : rs.length ≤ 1000) (hr : ∀ p ∈ rs, p.2.length ≤ 1000) : SD W lv (rs.map (·.2)) := (h.sdF hs hr).wider fun _ hk => hk.2
theorem Tab.app {lv' rv : Value} {r : List Int} (h : Tab W b lv rs) (hO : OwnS W' 48 1 lv' (rs.length + 1) (rs.map (·.1) ++ [rv])) (hg : W.grownBy W' lv.ownBlock) (hn : lv'.ownBlock = lv.ownBlock ∨ lv'.ownBlock = some W.heap.size) (hb : b ≤ W.heap.size)
 (hr : OwnS W 3 1 rv r.length (r.map (Value.int .i64))) (hI : ∀ x ∈ r, I64 x) (hrb : ∀ g, rv.ownBlock = some g → b ≤ g ∧ lv.ownBlock ≠ some g) (hd : ∀ p ∈ rs, ∀ g, p.1.ownBlock = some g → rv.ownBlock ≠ some g) : Tab W' b lv' (rs ++ [(rv, r)]) := by
 have out : ∀ (v : Value) (n : Nat) (xs : List Value), OwnS W 3 1 v n xs → (∀ g, v.ownBlock = some g → lv.ownBlock ≠ some g) → OwnS W' 3 1 v n xs ∧ ∀ g, v.ownBlock = some g → lv'.ownBlock ≠ some g := by
  intro v n xs ho hne
  refine ⟨ho.kept fun g hg' => hg.block g (ho.lt hg') (fun e => hne g hg' e.symm), fun g hg' e => ?_⟩
  rcases hn with h' | h'
  ·exact hne g hg' (by rw [← h']; exact e)
  ·rw [h'] at e; cases e; exact absurd (ho.lt hg') (Nat.lt_irrefl _)
 refine ⟨by simpa using hO, fun g hg' => ?_, fun p hp => ?_, ?_⟩
 ·rcases hn with h' | h'
  ·exact h.lb g (by rw [← h']; exact hg')
  ·rw [h'] at hg'; cases hg'; exact hb
 ·rcases List.mem_append.1 hp with hp | hp
  ·obtain ⟨h1, h2, h3⟩ := h.row p hp
   obtain ⟨h4, h5⟩ := out _ _ _ h1 (fun g hg' => (h3 g hg').2)
   exact ⟨h4, h2, fun g hg' => ⟨(h3 g hg').1, h5 g hg'⟩⟩
  ·rw [List.mem_singleton] at hp
   subst hp
   obtain ⟨h4, h5⟩ := out _ _ _ hr (fun g hg' => (hrb g hg').2)
   exact ⟨h4, hI, fun g hg' => ⟨(hrb g hg').1, h5 g hg'⟩⟩
 ·refine List.pairwise_append.2 ⟨h.dis, List.pairwise_singleton _ _, fun p hp q hq => ?_⟩
  rw [List.mem_singleton] at hq
  subst hq
  exact hd p hp
theorem Tab.set {W W' : World} {b i : Nat} {lv rv : Value} {rs : List (Value × List Int)} {r r' : List Int} {g : Nat} (h : Tab W b lv rs) (hi : rs[i]? = some (rv, r)) (hrv : rv.ownBlock = some g) (hb : But g W W') (hO : OwnS W' 3 1 rv r'.length (r'.map (Value.int .i64))) (hI : ∀ x ∈ r', I64 x) : Tab W' b lv (rs.set i (rv, r')) := by
 have hil : i < rs.length := (List.getElem?_eq_some_iff.1 hi).1
 have hie : rs[i] = (rv, r) := (List.getElem?_eq_some_iff.1 hi).2
 have hm := h.row (rv, r) (List.mem_of_getElem? hi)
 have hmap : (rs.set i (rv, r')).map (·.1) = rs.map (·.1) := by
  rw [List.map_set]
  apply List.ext_getElem?
  intro j
  rw [List.getElem?_set]
  split
  ·rename_i e
   subst e
   simp [hil, hie]
  ·rfl
 have hkeep : ∀ k, k ≠ g → k < W.heap.size → W'.heap[k]? = W.heap[k]? := fun k hk hlt => hb.block k hlt (fun e => hk (by cases e; rfl))
 refine ⟨by rw [hmap, List.length_set]; exact h.own.kept fun k hk => hkeep k (fun e => (hm.2.2 g hrv).2 (by rw [← e]; exact hk)) (h.own.lt hk), h.lb, fun p hp => ?_, ?_⟩
 ·obtain ⟨j, hj⟩ := List.mem_iff_getElem?.1 hp
  rw [List.getElem?_set] at hj
  by_cases hne : i = j
  ·subst hne
   simp [hil] at hj
   subst hj
   exact ⟨hO, hI, hm.2.2⟩
  ·rw [if_neg hne] at hj
   have hpm := h.row p (List.mem_of_getElem? hj)
   refine ⟨hpm.1.kept fun k hk => hkeep k (fun e => ?_) (hpm.1.lt hk), hpm.2⟩
   subst e
   obtain ⟨hjl, hje⟩ := List.getElem?_eq_some_iff.1 hj
   rcases Nat.lt_or_gt_of_ne hne with hlt | hlt
   ·have := List.pairwise_iff_getElem.1 h.dis i j hil hjl hlt
    rw [hie, hje] at this
    exact this k hrv hk
   ·have := List.pairwise_iff_getElem.1 h.dis j i hjl hil hlt
    rw [hie, hje] at this
    exact this k hk hrv
 ·have h1 : ((rs.set i (rv, r')).map (·.1)).Pairwise fun p q => ∀ g, p.ownBlock = some g → q.ownBlock ≠ some g := by
   rw [hmap, List.pairwise_map]
   exact h.dis
  rwa [List.pairwise_map] at h1
theorem Tab.nil {W : World} {b g : Nat} (hB : Blk W g 48 []) (hg : b ≤ g) : Tab W b (.slice (some ⟨g, 0, none⟩) 0 0) [] :=
 ⟨OwnS.of_blk hB rfl (by omega), (fun q hq => by simp [Value.ownBlock] at hq; omega), (fun p hp => by cases hp), List.Pairwise.nil⟩
theorem Tab.but {g : Nat} (h : Tab W b lv rs) (hb : But g W W') (h1 : lv.ownBlock ≠ some g) (h2 : ∀ p ∈ rs, p.1.ownBlock ≠ some g) : Tab W' b lv rs :=
 ⟨h.own.kept fun k hk => hb.block k (h.own.lt hk) (fun e => h1 (by rw [hk, e])), h.lb, fun p hp => ⟨(h.row p hp).1.kept fun k hk => hb.block k ((h.row p hp).1.lt hk) (fun e => h2 p hp (by rw [hk, e])), (h.row p hp).2⟩, h.dis⟩
theorem Tab.len (h : Tab W b lv rs) : (rs.map (·.1)).length = rs.length := List.length_map _
theorem Tab.put {i tg : Nat} {rv : Value} {r : List Int} (h : Tab W b lv rs) (hi : i < rs.length) (hlv : lv.ownBlock = some tg) (hb : But tg W W') (hO : OwnS W' 48 1 lv rs.length ((rs.map (·.1)).set i rv)) (hr : OwnS W' 3 1 rv r.length (r.map (Value.int .i64))) (hI : ∀ x ∈ r, I64 x)
 (hrb : ∀ g, rv.ownBlock = some g → b ≤ g ∧ lv.ownBlock ≠ some g) (hd : ∀ p ∈ rs, ∀ g, p.1.ownBlock = some g → rv.ownBlock ≠ some g) : Tab W' b lv (rs.set i (rv, r)) := by
 refine ⟨by rw [List.map_set, List.length_set]; exact hO, h.lb, fun p hp => ?_, ?_⟩
 ·rcases List.mem_or_eq_of_mem_set hp with hp | hp
  ·obtain ⟨h1, h2, h3⟩ := h.row p hp
   exact ⟨h1.kept fun k hk => hb.block k (h1.lt hk) (fun e => (h3 k hk).2 (by cases e; exact hlv)), h2, h3⟩
  ·subst hp
   exact ⟨hr, hI, hrb⟩
 ·rw [List.pairwise_iff_getElem]
  intro x y hx hy hxy
  have hx' : x < rs.length := by simpa using hx
  have hy' : y < rs.length := by simpa using hy
  rw [List.getElem_set, List.getElem_set]
  split
  ·rw [if_neg (by omega)]
   intro g hg e
   exact hd _ (List.getElem_mem hy') g e hg
  ·split
   ·intro g hg
    exact hd _ (List.getElem_mem hx') g hg
   ·exact List.pairwise_iff_getElem.1 h.dis x y hx' hy' hxy
theorem Tab.start {g n : Nat} (hB : Blk W g 48 (List.replicate n (.slice none 0 0))) (hg : b ≤ g) (hn : n ≤ 9223372036854775807) : Tab W b (.slice (some ⟨g, 0, none⟩) n n) (List.replicate n (.slice none 0 0, [])) := by
 refine ⟨?_, (fun q hq => by simp [Value.ownBlock] at hq; omega), (fun p hp => ?_), ?_⟩
 ·rw [List.length_replicate, List.map_replicate]
  exact OwnS.of_blk hB (by simp) hn
 ·rw [List.mem_replicate] at hp
  rw [hp.2]
  exact ⟨OwnS.nil _ _ _, (fun x hx => by cases hx), (fun g hg => by simp [Value.ownBlock] at hg)⟩
 ·rw [List.pairwise_iff_getElem]
  intro x y hx hy _
  simp [Value.ownBlock]
end Go.Proofs.YtnjknkgomhmlfaaGreatDoor
namespace Go.Proofs.YtnjknkgomhmlfaaGreatDoor
open Go.PF Go.RowKit Go.Ord
attribute [local irreducible] TW CW KW DW
variable {M : Tab12} {n a : Nat}
def rowG (M : Tab12) (n a : Nat) : List Int := (List.range n).map fun b => g12 M a b
def distG (M : Tab12) (n : Nat) : List (List Int) := (List.range n).map fun a => rowG M n a
def rowT (M : Tab12) (n a j : Nat) : List Int := (List.range n).map fun b => if b < j then g12 M a b else 0
theorem rowT_len (M : Tab12) (n a j : Nat) : (rowT M n a j).length = n := by simp [rowT]
theorem rowT_zero (M : Tab12) (n a : Nat) : rowT M n a 0 = List.replicate n 0 := by
 apply List.ext_getElem?
 intro i
 simp [rowT, List.getElem?_replicate]
 split
 ·rename_i h; simp [h]
 ·rename_i h; rw [List.getElem?_eq_none (by simpa using h)]; rfl
theorem rowT_all (M : Tab12) (n a : Nat) : rowT M n a n = rowG M n a := by
 unfold rowT rowG
 exact List.map_congr_left fun b hb => by rw [if_pos (List.mem_range.1 hb)]
theorem rowT_succ {j : Nat} (hj : j < n) : (rowT M n a j).set j (g12 M a j) = rowT M n a (j + 1) := by
 apply List.ext_getElem?
 intro i
 rw [List.getElem?_set, rowT_len]
 by_cases h : j = i
 ·subst h
  simp [rowT, hj]
 ·rw [if_neg h]
  unfold rowT
  rw [List.getElem?_map, List.getElem?_map]
  rcases Nat.lt_or_ge i n with hi | hi
  ·rw [List.getElem?_range hi]
   simp only [Option.map_some]
   congr 1
   by_cases h' : i < j
   ·rw [if_pos h', if_pos (by omega)]
   ·rw [if_neg h', if_neg (by omega)]
  ·rw [List.getElem?_eq_none (by simpa using hi)]; rfl
theorem rowT_rng {L : List Ln} {B : Int} (h : T12 L B M) (hB : B ≤ 1000000000) {j : Nat} (hn : n ≤ 12) (ha : a < 12) : ∀ x ∈ rowT M n a j, I64 x := by
 intro x hx
 obtain ⟨b, hb, rfl⟩ := List.mem_map.1 hx
 have hb' := List.mem_range.1 hb
 have := h.rng a b ha (by omega)
 split
 ·exact ⟨by omega, by omega⟩
 ·exact ⟨by decide, by decide⟩
structure Rows12 (M : Tab12) (n a : Nat) (rs : List (Value × List Int)) : Prop where
 len : rs.length = n
 at_ : ∀ i, i < a → (rs[i]?).map (·.2) = some (rowG M n i)
theorem Rows12.next {rs : List (Value × List Int)} (h : Rows12 M n a rs) (ha : a < n) (v : Value) : Rows12 M n (a + 1) (rs.set a (v, rowG M n a)) := by
 have hl := h.len
 refine ⟨by rw [List.length_set]; exact hl, fun i hi => ?_⟩
 rw [List.getElem?_set]
 by_cases e : a = i
 ·subst e
  rw [if_pos rfl, if_pos (by omega)]
  rfl
 ·rw [if_neg e]
  exact h.at_ i (by omega)
theorem Rows12.all {rs : List (Value × List Int)} (h : Rows12 M n n rs) : rs.map (·.2) = distG M n := by
 apply List.ext_getElem?
 intro i
 rw [List.getElem?_map]
 rcases Nat.lt_or_ge i n with hi | hi
 ·rw [h.at_ i hi]
  unfold distG
  rw [List.getElem?_map, List.getElem?_range hi]
  rfl
 ·rw [List.getElem?_eq_none (by have := h.len; omega), List.getElem?_eq_none (by unfold distG; simpa using hi)]
  rfl
theorem dist_c {w : World} {v : NV} {N : Net} (ht : Tabs w) (hN : NetAt w v N) (hc : ConsOK keys11 N) : Gives Tryz.prog 31 #[.agg v.cells.toArray] w fun u w' => Below w.heap.size w w' ∧ SD w' u (distG (relaxed12 (lnOf N)) N.offs.length) := by
 have hform := NetIn.form hN
 obtain ⟨vc, vn, vo, vf, vl, vk⟩ := v
 obtain ⟨⟨A1, c1, e1⟩, ⟨A2, c2, e2⟩, ⟨A3, c3, e3⟩, ⟨A4, c4, e4⟩, ⟨A5, c5, e5⟩, ⟨A6, c6, e6⟩⟩ := id hform
 dsimp only at e1 e2 e3 e4 e5 e6
 subst e1 e2 e3 e4 e5 e6
 have hL := cons_ln12 hc
 have hn12 := hc.ln.2.1
 refine gv (f := 31) ?_
 refine rnT ?_
 refine TW.box rfl rfl rfl rfl ?_
 rintro g1 w1 f1
 refine rnT ?_
 have hB1 := f1.blk
 have hN1 := net_step hN f1.below
 refine TW.ldS rfl (fun _ _ hv => hB1.fld hv) ?_
 refine TW.cl rfl (incon_c (v := ⟨.slice A1 N.cals.length c1, .slice A2 N.names.length c2, .slice A3 N.ops.length c3, .slice A4 N.offs.length c4, .slice A5 N.lines.length c5, .slice A6 N.classes.length c6⟩) (ht.below f1.below) hN1) ?_
 rintro y2 w2 ⟨d2, n, hR, hn, hiff⟩
 obtain ⟨Y, yc, rfl⟩ := FRow.form hR
 have b2 := f1.below.step d2
 have hB2 := hB1.next d2
 have hn0 : n = 0 := hiff.2 hc
 subst hn0
 refine rnT ?_
 refine CW.condP rfl (fun hbad => ?_) (fun hgood => ?_)
 ·exact absurd hbad (by simp)
 obtain ⟨rel, hrel⟩ : ∃ r, r = relaxed12 (lnOf N) := ⟨_, rfl⟩
 have hok := (relaxed12_ok hL).1
 rw [← hrel] at hok ⊢
 have hlen := tabV_len hok.len
 refine rnT ?_
 refine TW.ldS rfl (fun _ _ hv => hB2.fld hv) ?_
 refine TW.cl rfl (relaxed_c (v := ⟨.slice A1 N.cals.length c1, .slice A2 N.names.length c2, .slice A3 N.ops.length c3, .slice A4 N.offs.length c4, .slice A5 N.lines.length c5, .slice A6 N.classes.length c6⟩) (net_step hN1 d2) hL (cons_nat hc)) ?_
 rintro y3 w3 ⟨d3, rfl⟩
 rw [← hrel]
 refine TW.newVar rfl zc124 rfl (hlen ▸ sz124) (by rw [hlen]; rfl) (tabV_one _) ?_
 rintro g4 w4 f4
 refine rnT ?_
 have hB4 := (hB2.next d3).next f4.below
 have b4 := (b2.step d3).step f4.below
 refine TW.ld rfl (hB4.fld rfl) ?_
 refine rnT ?_
 refine TW.makeSlice rfl rfl (zero1_of go30 ze48 rfl) rfl rfl (by omega) (by omega) ?_
 rintro g5 w5 f5
 refine rnT ?_
 have hT4 := f4.blk.next f5.below
 have hB5 := hB4.next f5.below
 have b5 := b4.step f5.below
 have hw05 := b4.size
 have hat5 := f5.at_
 have hD5 : Tab w5 w4.heap.size (.slice (some ⟨g5, 0, none⟩) N.offs.length N.offs.length) (List.replicate N.offs.length (.slice none 0 0, [])) := Tab.start f5.blk (by omega) (by omega)
 refine CW.lp [1, 3, 4, 18] (fun x : Nat × List (Value × List Int) => [(19, none, .int .i64 (x.1 : Int))])
  (fun x W => x.1 ≤ N.offs.length ∧ Below w4.heap.size w4 W ∧ Tab W w4.heap.size (.slice (some ⟨g5, 0, none⟩) N.offs.length N.offs.length) x.2 ∧ Rows12 rel N.offs.length x.1 x.2) (fun x => N.offs.length - x.1) (0, List.replicate N.offs.length (.slice none 0 0, [])) ⟨Nat.zero_le _, f5.below, hD5, ⟨List.length_replicate, fun i hi => by omega⟩⟩ ?_
 rintro ⟨a, rs⟩ W ⟨ha, hW, hD, hRs⟩
 dsimp only at ha hD hRs
 have hBW := hB4.next hW
 have hlrs := hRs.len
 have hbs := hW.size
 refine rnT ?_
 refine CW.pk [1, 3, 4, 18, 19, 20] rfl ?_
 refine CW.condP rfl (fun hlt => ?_) (fun hge => ?_)
 ·refine rnT ?_
  refine TW.ld rfl (hBW.fld rfl) ?_
  refine rnT ?_
  refine TW.makeSlice rfl rfl (zero1_of go48 ze3 rfl) rfl rfl (by omega) (by omega) ?_
  rintro gr wr fr
  refine rnT ?_
  have hDr := hD.step fr.below
  have hatr := fr.at_
  have hown := hDr.own
  rw [hlrs] at hown
  refine TW.storeRow1 rfl sz48 rfl rfl hown (by simp; omega) rfl ?_
  rintro W1 o1 hbut1 hsz1
  refine rnT ?_
  have hg5 := hD.own.lt (g := g5) rfl
  have hne : g5 ≠ gr := by omega
  have hr1 : OwnS W1 3 1 (.slice (some ⟨gr, 0, none⟩) N.offs.length N.offs.length) (rowT rel N.offs.length a 0).length ((rowT rel N.offs.length a 0).map (Value.int .i64)) := by
   rw [rowT_len, rowT_zero]
   have := OwnS.of_blk fr.blk (n := N.offs.length) (sz := 1) (by simp) (by omega)
   rw [List.map_replicate]
   exact this.kept fun k hk => hbut1.block k (this.lt hk) (fun e => by cases hk; cases e; exact hne rfl)
  have hD1 : Tab W1 w4.heap.size (.slice (some ⟨g5, 0, none⟩) N.offs.length N.offs.length) (rs.set a (.slice (some ⟨gr, 0, none⟩) N.offs.length N.offs.length, rowT rel N.offs.length a 0)) := by
   refine hDr.put (by omega) rfl hbut1 (by rw [hlrs]; simpa using o1) hr1 (rowT_rng hok (by decide) hn12 (by omega)) (fun g hg => ?_) (fun p hp g hg e => ?_)
   ·cases hg
    exact ⟨by show w4.heap.size ≤ gr; omega, fun e => by cases e; exact hne rfl⟩
   ·cases e
    have h9 : gr < W.heap.size := (hD.row p hp).1.lt hg
    omega
  have hW1 : Below w4.heap.size w4 W1 := (hW.step fr.below).grown hbut1 (hW.step fr.below).size (fun q hq => by cases hq; omega)
  have hB1W := hB4.next hW1
  have hcel0 : W1.cell? (Addr.add ⟨g5, 0, none⟩ ((a : Int).toNat * 1)) = some (.slice (some ⟨gr, 0, none⟩) N.offs.length N.offs.length) := by
   rw [Nat.mul_one, Int.toNat_natCast]
   have ho := hD1.own
   rw [List.length_set, hlrs] at ho
   exact ho.cell1 (by rw [List.getElem?_map, List.getElem?_set_self (by omega)]; rfl)
  refine TW.ld rfl hcel0 ?_
  refine rnT ?_
  refine CW.pk [1, 3, 4, 5, 18, 19, 33, 34] rfl ?_
  refine CW.lp [1, 3, 4, 5, 18, 19, 33] (fun j : Nat => [(34, none, .int .i64 (j : Int))])
   (fun j W' => j ≤ N.offs.length ∧ Below w4.heap.size w4 W' ∧ Tab W' w4.heap.size (.slice (some ⟨g5, 0, none⟩) N.offs.length N.offs.length) (rs.set a (.slice (some ⟨gr, 0, none⟩) N.offs.length N.offs.length, rowT rel N.offs.length a j))) (fun j => N.offs.length - j) 0 ⟨Nat.zero_le _, hW1, hD1⟩ ?_
  rintro j W2 ⟨hj, hW2, hD2⟩
  refine rnT ?_
  refine CW.condP rfl (fun hlt2 => ?_) (fun hge2 => ?_)
  ·have hri : (rs.set a (.slice (some ⟨gr, 0, none⟩) N.offs.length N.offs.length, rowT rel N.offs.length a j))[a]? = some (.slice (some ⟨gr, 0, none⟩) N.offs.length N.offs.length, rowT rel N.offs.length a j) := by
    rw [List.getElem?_set_self (by omega)]
   have hcel : W2.cell? (Addr.add ⟨g5, 0, none⟩ ((a : Int).toNat * 1)) = some (.slice (some ⟨gr, 0, none⟩) N.offs.length N.offs.length) := by
    rw [Nat.mul_one, Int.toNat_natCast]
    have ho := hD2.own
    rw [List.length_set, hlrs] at ho
    exact ho.cell1 (by rw [List.getElem?_map, hri]; rfl)
   have hcelt := tab_cell (a := a) (b := j) (f4.blk.next hW2) hok.len (by omega) (by omega)
   refine rnT ?_
   refine CW.drawR mixed fun W3 hb3 => ?_
   refine RW.draw .weak 11 (by kernel_rfl) (by kernel_rfl) rfl rfl hb3 ?_
   refine rnD ?_
   refine DW.ld rfl hcel ?_
   refine DW.v V.move rfl ⟨ct, trivial⟩ (fun _ => trivial) ?_
   refine DW.v V.move rfl ⟨ct, trivial⟩ (fun _ => trivial) ?_
   refine DW.v V.move rfl ⟨ct, trivial⟩ (fun _ => trivial) ?_
   refine DW.v V.indexAddrA rfl ⟨ct, ct, trivial⟩ (fun _ => by (try dsimp only); omega) ?_
   refine DW.v V.indexAddrA rfl ⟨ct, ct, trivial⟩ (fun _ => by (try dsimp only); omega) ?_
   refine DW.ld rfl hcelt ?_
   refine rnD ?_
   refine DW.nil (DW.fin [1, 3, 4, 5, 6, 18, 19, 33, 34, 46, 47] [(1, _, _), (3, _, _), (4, _, _), (5, _, _), (6, _, _), (18, _, _), (19, _, _), (33, _, _), (34, _, _), (46, _, _), (47, _, _)] rfl (fun W4 hb4 => KW.rk' ?_))
   refine RW.one (by kernel_rfl) (by kernel_rfl) rfl ?_
   have hD4 := hD2.step hb4
   obtain ⟨ho4, hI4, hob4⟩ := hD4.row _ (List.mem_of_getElem? hri)
   dsimp only at ho4 hI4 hob4
   rw [rowT_len] at ho4
   refine TW.storeRow1 rfl sz3 rfl rfl ho4 (by simp [rowT_len]; omega) rfl ?_
   rintro W5 o5 hbut5 hsz5
   refine TW.nil (KW.pick [1, 3, 4, 5, 6, 18, 19, 33, 34] [(1, _, _), (3, _, _), (4, _, _), (5, _, _), (6, _, _), (18, _, _), (19, _, _), (33, _, _), (34, _, _)] rfl (KW.rk ?_))
   refine RW.end rfl (KW.pick [1, 3, 4, 5, 6, 18, 19, 33, 34] [(1, _, _), (3, _, _), (4, _, _), (5, _, _), (6, _, _), (18, _, _), (19, _, _), (33, _, _), (34, _, _)] rfl (KW.blockN (KW.then_ ?_)))
   refine rnT ?_
   have hW4 := hW2.step hb4
   have hD5 := hD4.set hri rfl hbut5 (r' := rowT rel N.offs.length a (j + 1)) (by
    rw [rowT_len, ← rowT_succ (by omega), List.map_set]
    have e : (j : Int).toNat * 1 = j := by omega
    rw [e] at o5
    exact o5) (rowT_rng hok (by decide) hn12 (by omega))
   rw [List.set_set] at hD5
   refine KW.rd (j + 1) ⟨by omega, hW4.grown hbut5 hW4.size (fun q hq => by cases hq; exact (hob4 _ rfl).1), hD5⟩
  ·have hje : j = N.offs.length := by omega
   subst hje
   rw [rowT_all] at hD2
   refine rnT ?_
   refine KW.rd (a + 1, rs.set a (.slice (some ⟨gr, 0, none⟩) N.offs.length N.offs.length, rowG rel N.offs.length a)) ⟨by show a + 1 ≤ N.offs.length; omega, hW2, hD2, hRs.next (by omega) _⟩
 ·have hae : a = N.offs.length := by omega
  subst hae
  have hsd := hD.sd (by omega) (fun p hp => by
   have : p.2 ∈ rs.map (·.2) := List.mem_map_of_mem hp
   rw [hRs.all] at this
   obtain ⟨i, _, e⟩ := List.mem_map.1 this
   rw [← e]
   simp [rowG]
   omega)
  rw [hRs.all] at hsd
  refine rnT ?_
  refine rt1 rfl ⟨b4.step hW, hsd⟩
end Go.Proofs.YtnjknkgomhmlfaaGreatDoor
