/- Texts of this claim,joined. -/
import Derived.Test.YtobaafdejnimkaaGreatDoorQM
set_option linter.unusedSimpArgs false
set_option linter.unusedVariables false
set_option maxRecDepth 100000
set_option maxHeartbeats 4000000
namespace Go.Proofs.YtobaafdejnimkaaGreatDoor
open Go.PF Go.RowKit Go.Ord
attribute [local irreducible] TW CW KW DW
variable {N:Net} {w:World} {g a b:Nat} {M:Tab12} {t:Int} {v:NV}
def tabV (M:Tab12):List Value:=M.map (Value.int .i64)
theorem tab_ad:(Addr.add ⟨g,0,none⟩ ((a:Int).toNat*12)).add ((b:Int).toNat*1)=⟨g,12*a+b,none⟩:=by
 rw [add_add,addr0]
 congr 1
 omega
theorem tab_cell {t:TypeId} (h:Blk w g t (tabV M)) (hl:M.length=144) (ha:a<12) (hb:b<12):w.cell? ((Addr.add ⟨g,0,none⟩ ((a:Int).toNat*12)).add ((b:Int).toNat*1))=some (.int .i64 (g12 M a b)):=by
 rw [tab_ad,←addr0]
 refine h.fld ?_
 unfold tabV g12
 rw [List.getElem?_map,List.getD_eq_getElem?_getD,List.getElem?_eq_getElem (by omega)]
 rfl
theorem relax1_c (hB:Blk w g 140 (tabV M)) (hl:M.length=144) (ha:a<12) (hb:b<12):Gives Tryz.prog 153 #[.int .i64 (a:Int),.int .i64 (b:Int),.int .i64 t,.pointer (some ⟨g,0,none⟩)] w fun _ w'=>But g w w'∧w'.heap.size=w.heap.size∧Blk w' g 140 (tabV (relax12 M a b t)):=by
 have hc:=tab_cell hB hl ha hb
 refine gv (f:=153) ?_
 refine CW.seq (CW.region ?_)
 refine TW.v V.move rfl ⟨ct,trivial⟩ (fun _=>trivial) ?_
 refine TW.v V.move rfl ⟨ct,trivial⟩ (fun _=>trivial) ?_
 refine TW.v V.indexAddrA rfl ⟨ct,ct,trivial⟩ (fun _=>by (try dsimp only); omega) ?_
 refine TW.v V.indexAddrA rfl ⟨ct,ct,trivial⟩ (fun _=>by (try dsimp only); omega) ?_
 refine TW.ld rfl hc ?_
 refine TW.v V.eql rfl ⟨ct,ct,trivial⟩ (fun _=>trivial) ?_
 refine TW.v V.move rfl ⟨ct,trivial⟩ (fun _=>trivial) ?_
 refine TW.v V.move rfl ⟨ct,trivial⟩ (fun _=>trivial) ?_
 refine TW.v V.move rfl ⟨ct,trivial⟩ (fun _=>trivial) ?_
 refine TW.v V.move rfl ⟨ct,trivial⟩ (fun _=>trivial) ?_
 refine TW.v V.indexAddrA rfl ⟨ct,id,trivial⟩ (fun h=>by (try dsimp only); first|omega|(simp [Cnd] at h; omega)) ?_
 refine TW.v V.indexAddrA rfl ⟨id,id,trivial⟩ (fun h=>by (try dsimp only); first|omega|(simp [Cnd] at h; omega)) ?_
 refine TW.ld rfl hc ?_
 refine rnT ?_
 refine CW.cond rfl (fun h1=> ?_) (fun h2=> ?_)
 ·have hr:relax12 M a b t=M.set (12*a+b) t:=by
   unfold relax12
   rw [if_pos (by simpa using h1)]
  refine CW.region ?_
  refine TW.v V.move rfl ⟨ct,trivial⟩ (fun _=>trivial) ?_
  refine TW.v V.move rfl ⟨ct,trivial⟩ (fun _=>trivial) ?_
  refine TW.v V.move rfl ⟨ct,trivial⟩ (fun _=>trivial) ?_
  refine TW.v V.indexAddrA rfl ⟨ct,ct,trivial⟩ (fun _=>by (try dsimp only); omega) ?_
  refine TW.v V.indexAddrA rfl ⟨ct,ct,trivial⟩ (fun _=>by (try dsimp only); omega) ?_
  rw [tab_ad]
  have hlt:(12*a+b)<(tabV M).length:=by unfold tabV; rw [List.length_map]; omega
  refine TW.store1 rfl sz3 rfl rfl (by rw [←tab_ad]; exact hc) (hB.frozen _) rfl ?_
  refine rnT ?_
  refine end0 Tryz.results153 ⟨.setCell,by simp [World.setCell],by rw [hr]; have:=hB.set (12*a+b) (.int .i64 t); rw [show (tabV M).set (12*a+b) (.int .i64 t)=tabV (M.set (12*a+b) t) from by unfold tabV; rw [List.map_set]] at this; exact this⟩
 ·have hr:relax12 M a b t=M:=by
   unfold relax12
   rw [if_neg (by simpa using h2)]
  refine CW.skip ?_
  refine end0 Tryz.results153 ⟨But.of_below (Below.refl _ _),rfl,by rw [hr]; exact hB⟩
theorem tabV_one (M:Tab12):(tabV M).all (·.oneCell')=true:=by
 rw [List.all_eq_true]
 intro u hu
 obtain ⟨x,_,rfl⟩:=List.mem_map.1 hu
 rfl
theorem tabV_len (h:M.length=144):(tabV M).length=144:=by unfold tabV; rw [List.length_map]; exact h
structure RS12 (w W:World) (g2 g3:Nat) (M:Tab12):Prop where
 b:Below w.heap.size w W
 z:Blk W g2 140 (tabV (initL 0))
 t:Blk W g3 140 (tabV M)
theorem relaxed_c (hN:NetAt w v N) (hL:LnOK 12 (lnOf N)) (hli: ∀l∈N.lines,0≤l.frm∧0≤l.to):Gives Tryz.prog 81 #[.agg v.cells.toArray] w fun u w'=>Below w.heap.size w w'∧u= .agg (tabV (relaxed12 (lnOf N))).toArray:=by
 have hform:=NetIn.form hN
 obtain ⟨vc,vn,vo,vf,vl,vk⟩:=v
 obtain ⟨_,_,_,_,⟨A5,c5,e5⟩,_⟩:=id hform
 dsimp only at e5
 subst e5
 have hl:=hN.l
 have hmax:=hl.len.2.2
 have hz0: ∀(t:TypeId) (w':World) (g:Nat),Blk w' g t (List.replicate 144 (Value.int .i64 0))→Blk w' g t (tabV (initL 0)):=fun t w' g h=>by
  rw [initL_zero]
  unfold tabV
  rw [List.map_replicate]
  exact h
 refine gv (f:=81) ?_
 refine rnT ?_
 refine TW.box rfl rfl rfl rfl ?_
 rintro g1 w1 f1
 refine TW.alloc rfl rfl zc140 ?_
 rintro g2 w2 f2
 refine rnT ?_
 refine TW.alloc rfl rfl zc140 ?_
 rintro g3 w3 f3
 refine rnT ?_
 have k1:=f1.at_
 have k2:=f2.at_
 have k3:=f3.at_
 have s1:=f1.size
 have s2:=f2.size
 have hg23:g2≠g3:=by omega
 have hB13:=(f1.blk.next f2.below).next f3.below
 have b3:=(f1.below.step f2.below).step f3.below
 have hl3:=hl.below b3
 have hput: ∀ {W W':World} {M M':Tab12},RS12 w W g2 g3 M→But g3 W W'→Blk W' g3 140 (tabV M')→RS12 w W' g2 g3 M':=fun h hb hB=>⟨h.b.grown hb h.b.size (fun k hk=>by cases hk; omega),hb.blk h.z hg23,hB⟩
 have h0:RS12 w w3 g2 g3 (initL 0):=⟨b3,hz0 _ _ _ (f2.blk.next f3.below),hz0 _ _ _ f3.blk⟩
 have hg1:g1≠g3:=by omega
 refine CW.lp [1,2,3] (fun a:Nat=> [(12,none,.int .i64 (a:Int))])
  (fun a W=>a≤12∧RS12 w W g2 g3 (initL (12*a))∧But g3 w3 W) (fun a=>12-a) 0 ⟨Nat.zero_le _,h0,But.of_below (Below.refl _ _)⟩ ?_
 rintro a W ⟨ha,hR,hbut⟩
 refine rnT ?_
 refine CW.condP rfl (fun hlt=> ?_) (fun hge=> ?_)
 ·refine rnT ?_
  refine CW.lp [1,2,3,4,12] (fun b:Nat=> [(15,none,.int .i64 (b:Int))])
   (fun b W=>b≤12∧RS12 w W g2 g3 (initL (12*a+b))∧But g3 w3 W) (fun b=>12-b) 0 ⟨Nat.zero_le _,hR,hbut⟩ ?_
  rintro b W' ⟨hb,hR',hbut'⟩
  refine rnT ?_
  refine CW.condP rfl (fun hlt2=> ?_) (fun hge2=> ?_)
  ·have hs:=initL_succ (k:=12*a+b) (by omega)
   have hdm:(12*a+b) / 12=(12*a+b)%12↔a=b:=by omega
   refine rnT ?_
   refine CW.condP rfl (fun hne=> ?_) (fun heq=> ?_)
   ·rw [if_neg (by omega)] at hs
    have hc:=tab_cell (a:=a) (b:=b) hR'.t (initL_len _) (by omega) (by omega)
    refine CW.region ?_
    refine TW.v V.move rfl ⟨ct,trivial⟩ (fun _=>trivial) ?_
    refine TW.v V.move rfl ⟨ct,trivial⟩ (fun _=>trivial) ?_
    refine TW.v V.indexAddrA rfl ⟨ct,ct,trivial⟩ (fun _=>by (try dsimp only); omega) ?_
    refine TW.v V.indexAddrA rfl ⟨ct,ct,trivial⟩ (fun _=>by (try dsimp only); omega) ?_
    rw [tab_ad]
    refine TW.store1 rfl sz3 rfl rfl (by rw [←tab_ad]; exact hc) (hR'.t.frozen _) rfl ?_
    refine rnT ?_
    refine KW.rd (b+1) ⟨by omega,hput hR' .setCell ?_,hbut'.trans .setCell⟩
    have:=hR'.t.set (12*a+b) (.int .i64 (-1))
    rw [show 12*a+(b+1)=12*a+b+1 by omega,hs]
    rw [show (tabV (initL (12*a+b))).set (12*a+b) (.int .i64 (-1))=tabV ((initL (12*a+b)).set (12*a+b) (-1)) from by unfold tabV; rw [List.map_set]] at this
    exact this
   ·rw [if_pos (by omega)] at hs
    refine rnT ?_
    refine KW.rd (b+1) ⟨by omega,?_,hbut'⟩
    rw [show 12*a+(b+1)=12*a+b+1 by omega,hs]
    exact hR'
  ·refine rnT ?_
   refine KW.rd (a+1) ⟨by omega,?_,hbut'⟩
   rw [show 12*(a+1)=12*a+b by omega]
   exact hR'
 have ha12:a=12:=by omega
 subst ha12
 rw [show initL (12*12)=init12 from initL_all] at hR
 have hlW:SL liT (fun k=>k<w.heap.size) W (.slice A5 N.lines.length c5) N.lines:=hl.below hR.b
 refine rnT ?_
 refine TW.makeFunc rfl rfl (Args.cons rfl ct Args.nil) ?_
 refine rnT ?_
 refine TW.ld rfl ((hbut.blk hB13 hg1).fld rfl) ?_
 refine rnT ?_
 obtain ⟨L,hLe⟩: ∃L,L=lnOf N:=⟨_,rfl⟩
 have hLl:L.length=N.lines.length:=by rw [hLe]; simp [lnOf]
 rw [←hLe] at hL ⊢
 refine CW.lp [1,2,3,6,29,30] (fun j:Nat=> [(31,none,.int .i64 (j:Int))])
  (fun j W=>j≤N.lines.length∧RS12 w W g2 g3 (lines12 init12 (L.take j))) (fun j=>N.lines.length-j) 0 ⟨Nat.zero_le _,hR⟩ ?_
 rintro j W2 ⟨hj,hR2⟩
 refine rnT ?_
 refine CW.condP rfl (fun hlt=> ?_) (fun hge=> ?_)
 ·obtain ⟨l,hll,hlm⟩:=getx (l:=N.lines) (k:=j) (by omega)
  have hl2:=hl.below hR2.b
  obtain ⟨ad,rfl⟩:=hl2.addr (by omega)
  obtain ⟨ad',cs,e1,hF,hrep,hc⟩:=hl2.at hll
  cases e1
  obtain ⟨rfl,_⟩:=hrep
  have hln:L[j]?=some (l.frm.toNat,l.to.toNat,l.trav):=by rw [hLe]; unfold lnOf; rw [List.getElem?_map,hll]; rfl
  have hlk:=hL _ (List.mem_of_getElem? hln)
  dsimp only at hlk
  obtain ⟨p1,p2⟩:=hli l hlm
  have q1:l.frm=((l.frm.toNat:Nat):Int):=by omega
  have q2:l.to=((l.to.toNat:Nat):Int):=by omega
  refine rnT ?_
  refine TW.ldS rfl (hc) ?_
  refine TW.newVar rfl zc113 rfl sz113 rfl rfl ?_
  rintro g8 w8 f8
  refine rnT ?_
  refine TW.ld rfl (f8.blk.fld rfl) ?_
  refine rnT ?_
  refine TW.ld rfl (f8.blk.fld rfl) ?_
  refine rnT ?_
  refine TW.ld rfl (f8.blk.fld rfl) ?_
  rw [q1,q2]
  have hT8:=hR2.t.next f8.below
  have hlen2:=(lines12_at hL (L.take j) (fun x hx=>List.mem_of_mem_take hx)).len
  refine TW.call0 rfl rfl en153 rfl (Args.cons rfl ct (Args.cons rfl ct (Args.cons rfl ct Args.nil))) (relax1_c (t:=l.trav) hT8 hlen2 hlk.1 hlk.2.1) ?_
  rintro y9 w9 ⟨hbut9,hsz9,hB9⟩
  refine rnT ?_
  have hR8:RS12 w w8 g2 g3 (lines12 init12 (L.take j)):=⟨hR2.b.step f8.below,hR2.z.next f8.below,hT8⟩
  refine KW.rd (j+1) ⟨by omega,?_⟩
  rw [List.take_add_one,hln]
  have hh:=hput hR8 hbut9 hB9
  rw [←lines12_snoc init12 (L.take j) (l.frm.toNat,l.to.toNat,l.trav)] at hh
  exact hh
 have hjl:L.take j=L:=List.take_of_length_le (by omega)
 rw [hjl] at hR2
 obtain ⟨M1,hM1⟩: ∃M,M=lines12 init12 L:=⟨_,rfl⟩
 rw [←hM1] at hR2
 refine rnT ?_
 have hT: ∀ {o a b:Nat},o<12→a<12→b≤12→T12 L 40960000 (row12 o (rnd12 (all12 M1 o) o a) a b):=fun h1 h2 h3=>by rw [hM1]; exact table_at hL h1 h2 h3
 refine CW.lp [2,3,6] (fun o:Nat=> [(44,none,.int .i64 (o:Int))])
  (fun o W=>o≤12∧RS12 w W g2 g3 (all12 M1 o)) (fun o=>12-o) 0 ⟨Nat.zero_le _,by rw [all12_zero]; exact hR2⟩ ?_
 rintro o W3 ⟨ho,hR3⟩
 refine rnT ?_
 refine CW.condP rfl (fun hlto=> ?_) (fun hgeo=> ?_)
 ·refine rnT ?_
  refine CW.lp [2,3,6,9,44] (fun a:Nat=> [(47,none,.int .i64 (a:Int))])
   (fun a W=>a≤12∧RS12 w W g2 g3 (rnd12 (all12 M1 o) o a)) (fun a=>12-a) 0 ⟨Nat.zero_le _,by rw [rnd12_zero]; exact hR3⟩ ?_
  rintro a W4 ⟨ha,hR4⟩
  refine rnT ?_
  refine CW.condP rfl (fun hlta=> ?_) (fun hgea=> ?_)
  ·refine rnT ?_
   refine CW.lp [2,3,6,9,10,44,47] (fun b:Nat=> [(50,none,.int .i64 (b:Int))])
    (fun b W=>b≤12∧RS12 w W g2 g3 (row12 o (rnd12 (all12 M1 o) o a) a b)) (fun b=>12-b) 0 ⟨Nat.zero_le _,by rw [row12_zero]; exact hR4⟩ ?_
   rintro b W5 ⟨hb,hR5⟩
   refine rnT ?_
   refine CW.condP rfl (fun hltb=> ?_) (fun hgeb=> ?_)
   ·have ht5:=hT (o:=o) (a:=a) (b:=b) (by omega) (by omega) hb
    have hstep:=row12_succ o (rnd12 (all12 M1 o) o a) a b
    obtain ⟨M,hM⟩: ∃M,M=row12 o (rnd12 (all12 M1 o) o a) a b:=⟨_,rfl⟩
    rw [←hM] at hR5 ht5 hstep
    have c1:=tab_cell (a:=a) (b:=o) hR5.t ht5.len (by omega) (by omega)
    have c2:=tab_cell (a:=o) (b:=b) hR5.t ht5.len (by omega) (by omega)
    have r1:=ht5.rng a o (by omega) (by omega)
    have r2:=ht5.rng o b (by omega) (by omega)
    refine CW.skip (KW.then_ (CW.seq (CW.block (CW.seq (CW.region ?_)))))
    refine TW.v V.move rfl ⟨ct,trivial⟩ (fun _=>trivial) ?_
    refine TW.v V.assign rfl ⟨ct,trivial⟩ (fun _=>trivial) ?_
    refine TW.nil (KW.pick [2,3,6,9,10,11,44,47,50] [(2,_,_),(3,_,_),(6,_,_),(9,_,_),(10,_,_),(11,_,_),(44,_,_),(47,_,_),(50,_,_)] rfl (KW.then_ ?_))
    refine CW.seq (CW.region ?_)
    refine TW.v V.move rfl ⟨ct,trivial⟩ (fun _=>trivial) ?_
    refine TW.v V.move rfl ⟨ct,trivial⟩ (fun _=>trivial) ?_
    refine TW.v V.indexAddrA rfl ⟨ct,ct,trivial⟩ (fun _=>by (try dsimp only); omega) ?_
    refine TW.v V.indexAddrA rfl ⟨ct,ct,trivial⟩ (fun _=>by (try dsimp only); omega) ?_
    refine TW.ld rfl c1 ?_
    refine TW.v V.neq rfl ⟨ct,ct,trivial⟩ (fun _=>trivial) ?_
    refine TW.v V.move rfl ⟨ct,trivial⟩ (fun _=>trivial) ?_
    refine TW.v V.move rfl ⟨ct,trivial⟩ (fun _=>trivial) ?_
    refine TW.v V.move rfl ⟨ct,trivial⟩ (fun _=>trivial) ?_
    refine TW.v V.indexAddrA rfl ⟨ct,id,trivial⟩ (fun h=>by (try dsimp only); first|omega|(simp [Cnd] at h; omega)) ?_
    refine TW.v V.indexAddrA rfl ⟨id,id,trivial⟩ (fun h=>by (try dsimp only); first|omega|(simp [Cnd] at h; omega)) ?_
    refine TW.ld rfl c2 ?_
    refine rnT ?_
    refine CW.pk [2,3,6,9,10,11,44,47,50,66] rfl ?_
    refine CW.cond rfl (fun hboth=> ?_) (fun hnot=> ?_)
    ·have hv:via12 o a M b=relax12 M a b (g12 M a o+g12 M o b):=by unfold via12; rw [if_pos (by simpa using hboth)]
     refine CW.drawR mixed fun W6 hb6=> ?_
     refine RW.draw .weak 14 (by kernel_rfl) (by kernel_rfl) rfl rfl hb6 ?_
     refine DW.v V.move rfl ⟨ct,trivial⟩ (fun _=>trivial) ?_
     refine DW.v V.move rfl ⟨ct,trivial⟩ (fun _=>trivial) ?_
     refine DW.v V.move rfl ⟨ct,trivial⟩ (fun _=>trivial) ?_
     refine DW.v V.move rfl ⟨ct,trivial⟩ (fun _=>trivial) ?_
     refine DW.v V.move rfl ⟨ct,trivial⟩ (fun _=>trivial) ?_
     refine DW.v V.indexAddrA rfl ⟨ct,ct,trivial⟩ (fun _=>by (try dsimp only); omega) ?_
     refine DW.v V.indexAddrA rfl ⟨ct,ct,trivial⟩ (fun _=>by (try dsimp only); omega) ?_
     refine DW.ld rfl c1 ?_
     refine DW.v V.move rfl ⟨ct,trivial⟩ (fun _=>trivial) ?_
     refine DW.v V.move rfl ⟨ct,trivial⟩ (fun _=>trivial) ?_
     refine DW.v V.indexAddrA rfl ⟨ct,ct,trivial⟩ (fun _=>by (try dsimp only); omega) ?_
     refine DW.v V.indexAddrA rfl ⟨ct,ct,trivial⟩ (fun _=>by (try dsimp only); omega) ?_
     refine DW.ld rfl c2 ?_
     refine rnD ?_
     refine DW.nil (DW.fin [2,3,6,9,10,11,44,47,50,67,68,69,80] [(2,_,_),(3,_,_),(6,_,_),(9,_,_),(10,_,_),(11,_,_),(44,_,_),(47,_,_),(50,_,_),(67,_,_),(68,_,_),(69,_,_),(80,_,_)] rfl (fun w7 b7=>KW.rk' ?_))
     refine RW.one (by kernel_rfl) (by kernel_rfl) rfl ?_
     have hT7:=hR5.t.next b7
     refine TW.call0 rfl rfl en153 rfl (Args.cons rfl ct (Args.cons rfl ct (Args.cons rfl ct Args.nil))) (relax1_c (t:=g12 M a o+g12 M o b) hT7 ht5.len (by omega) (by omega)) ?_
     rintro y9 w9 ⟨hbut9,hsz9,hB9⟩
     refine TW.nil (KW.pick [2,3,6,9,10,11,44,47,50] [(2,_,_),(3,_,_),(6,_,_),(9,_,_),(10,_,_),(11,_,_),(44,_,_),(47,_,_),(50,_,_)] rfl (KW.rk ?_))
     refine RW.end rfl (KW.pick [2,3,6,9,10,11,44,47,50] [(2,_,_),(3,_,_),(6,_,_),(9,_,_),(10,_,_),(11,_,_),(44,_,_),(47,_,_),(50,_,_)] rfl (KW.blockN (KW.then_ ?_)))
     refine rnT ?_
     have hR7:RS12 w w7 g2 g3 M:=⟨hR5.b.step b7,hR5.z.next b7,hT7⟩
     refine KW.rd (b+1) ⟨by omega,?_⟩
     rw [hstep,hv]
     exact hput hR7 hbut9 hB9
    ·have hv:via12 o a M b=M:=by unfold via12; rw [if_neg (by simpa using hnot)]
     refine rnT ?_
     refine KW.rd (b+1) ⟨by omega,?_⟩
     rw [hstep,hv]
     exact hR5
   ·have hb12:b=12:=by omega
    subst hb12
    refine rnT ?_
    refine KW.rd (a+1) ⟨by omega,?_⟩
    rw [rnd12_succ]
    exact hR5
  ·have ha12:a=12:=by omega
   subst ha12
   refine rnT ?_
   refine KW.rd (o+1) ⟨by omega,?_⟩
   rw [all12_succ]
   exact hR4
 have ho12:o=12:=by omega
 subst ho12
 have hend:all12 M1 12=relaxed12 L:=by rw [hM1,relaxed12]
 rw [hend] at hR3
 have hlenE:=tabV_len (relaxed12_ok hL).1.len
 refine rnT ?_
 refine TW.loadA (tabV (relaxed12 L)) rfl rfl Tryz.underlying140 sz140 rfl ct (fun _=>fun j v hj=>hR3.t.fld hj) hlenE ?_
 refine TW.storeBlkF rfl rfl rfl hR3.z sz140 hlenE (tabV_len (initL_len 0)) (tabV_one _) ?_
 rintro w9 hB9 hbut9 hsz9
 refine rnT ?_
 exact retCA Tryz.results81 Tryz.underlying140 sz140 hlenE rfl hB9 ⟨hR3.b.grown hbut9 hR3.b.size (fun k hk=>by cases hk; omega),rfl⟩
theorem cons_ln12 (h:ConsOK keys11 N):LnOK 12 (lnOf N):=h.ln.1.more h.ln.2.1
theorem cons_nat (h:ConsOK keys11 N): ∀l∈N.lines,0≤l.frm∧0≤l.to:=fun l hl=>⟨(h.lines.good l hl).f1,(h.lines.good l hl).t1⟩
theorem check_c (ht:Tabs w) (hN:NetAt w v N):Gives Tryz.prog 36 #[.agg v.cells.toArray] w fun u w'=>Below w.heap.size w w'∧ ∃A n c,u= .slice A n c∧(n=0↔SoundOK keys11 N):=by
 have hform:=NetIn.form hN
 obtain ⟨vc,vn,vo,vf,vl,vk⟩:=v
 obtain ⟨⟨A1,c1,e1⟩,⟨A2,c2,e2⟩,⟨A3,c3,e3⟩,⟨A4,c4,e4⟩,⟨A5,c5,e5⟩,⟨A6,c6,e6⟩⟩:=id hform
 dsimp only at e1 e2 e3 e4 e5 e6
 subst e1 e2 e3 e4 e5 e6
 have m4:=hN.f.len.2.2
 refine gv (f:=36) ?_
 refine rnT ?_
 refine TW.box rfl rfl rfl rfl ?_
 rintro g1 w1 f1
 refine rnT ?_
 have hB1:=f1.blk
 have hN1:=net_step hN f1.below
 refine TW.ldS rfl (fun _ _ hv=>hB1.fld hv) ?_
 refine TW.cl rfl (incon_c (v:=⟨.slice A1 N.cals.length c1,.slice A2 N.names.length c2,.slice A3 N.ops.length c3,.slice A4 N.offs.length c4,.slice A5 N.lines.length c5,.slice A6 N.classes.length c6⟩) (ht.below f1.below) hN1) ?_
 rintro y2 w2 ⟨d2,n,hR,hn,hiff⟩
 obtain ⟨Y,yc,rfl⟩:=FRow.form hR
 have b2:=f1.below.step d2
 have hB2:=hB1.next d2
 refine rnT ?_
 refine CW.condP rfl (fun hbad=> ?_) (fun hgood=> ?_)
 ·refine rnT ?_
  refine rt1 rfl ⟨b2,_,_,_,rfl,⟨fun h=>by omega,fun h=>hiff.2 h.cons⟩⟩
 have hcons:ConsOK keys11 N:=hiff.1 (by omega)
 have hL:=cons_ln12 hcons
 have hn12:=hcons.ln.2.1
 obtain ⟨rel,hrel⟩: ∃r,r=relaxed12 (lnOf N):=⟨_,rfl⟩
 have hok:=relaxed12_ok hL
 rw [←hrel] at hok
 have hlen:=tabV_len hok.1.len
 have hn0:n=0:=by omega
 subst hn0
 refine rnT ?_
 refine TW.ldS rfl (fun _ _ hv=>hB2.fld hv) ?_
 refine TW.cl rfl (relaxed_c (v:=⟨.slice A1 N.cals.length c1,.slice A2 N.names.length c2,.slice A3 N.ops.length c3,.slice A4 N.offs.length c4,.slice A5 N.lines.length c5,.slice A6 N.classes.length c6⟩) (net_step hN1 d2) hL (cons_nat hcons)) ?_
 rintro y3 w3 ⟨d3,rfl⟩
 rw [←hrel]
 refine TW.newVar rfl zc140 rfl (hlen ▸ sz140) (by rw [hlen]; rfl) (tabV_one _) ?_
 rintro g4 w4 f4
 refine rnT ?_
 have hB4:=(hB2.next d3).next f4.below
 have hR4:=(hR.below d3).below f4.below
 have b4:=(b2.step d3).step f4.below
 have b14:Below w1.heap.size w1 w4:=(d2.step d3).step f4.below
 have hYg: ∀g,(Value.slice Y 0 yc).ownBlock=some g→g≠g4:=fun g hg e=>by
  obtain ⟨zs,q1,_⟩:=hR
  have:=q1.lt hg
  have:=f4.at_
  have:=d3.size
  omega
 refine TW.ld rfl (hB4.fld rfl) ?_
 refine rnT ?_
 refine CW.lp [1,4,17] (fun z:Nat×Value×Nat=> [(3,none,z.2.1),(18,none,.int .i64 (z.1:Int))])
  (fun z W=>z.1≤N.offs.length∧Below w1.heap.size w1 W∧Blk W g4 140 (tabV rel)∧FRow W w1.heap.size z.2.1 z.2.2∧(∀g,z.2.1.ownBlock=some g→g≠g4)∧z.2.2≤z.1∧(z.2.2=0↔ ∀a b,b<z.1→a<N.offs.length→ReachL (lnOf N) a b)) (fun z=>N.offs.length-z.1) (0,.slice Y 0 yc,0) ⟨Nat.zero_le _,b14,f4.blk,hR4,hYg,Nat.le_refl _,⟨fun _ a b hb=>by omega,fun _=>rfl⟩⟩ ?_
 rintro ⟨b,fv,n⟩ W ⟨hb,hW,hTW,⟨zs,hO,h2,h3⟩,h4g,hnb,hre⟩
 dsimp only at hb hO h3 h4g hnb hre
 have hB1W:=hB1.next hW
 refine rnT ?_
 refine CW.pk [1,3,4,17,18,19] rfl ?_
 refine CW.condP rfl (fun hlt=> ?_) (fun hge=> ?_)
 ·refine rnT ?_
  refine TW.ld rfl (hB1W.fld rfl) ?_
  refine rnT ?_
  refine CW.lp [1,3,4,5,17,18,23] (fun a:Nat=> [(24,none,.int .i64 (a:Int))])
   (fun a W'=>a≤N.offs.length∧W'=W∧ ∀i,i<a→ReachL (lnOf N) i b) (fun a=>N.offs.length-a) 0 ⟨Nat.zero_le _,rfl,fun i hi=>by omega⟩ ?_
  rintro a W' ⟨ha,rfl,hall⟩
  refine rnT ?_
  refine CW.condP rfl (fun hlt2=> ?_) (fun hge2=> ?_)
  ·have hc:=tab_cell (a:=a) (b:=b) hTW hok.1.len (by omega) (by omega)
   have hiffab:=hok.2 a b (by omega) (by omega)
   refine CW.skip (KW.then_ (CW.seq (CW.block (CW.seq (CW.region ?_)))))
   refine TW.v V.move rfl ⟨ct,trivial⟩ (fun _=>trivial) ?_
   refine TW.v V.assign rfl ⟨ct,trivial⟩ (fun _=>trivial) ?_
   refine TW.nil (KW.pick [1,3,4,5,6,17,18,23,24] [(1,_,_),(3,_,_),(4,_,_),(5,_,_),(6,_,_),(17,_,_),(18,_,_),(23,_,_),(24,_,_)] rfl (KW.then_ ?_))
   refine CW.seq (CW.region ?_)
   refine TW.v V.move rfl ⟨ct,trivial⟩ (fun _=>trivial) ?_
   refine TW.v V.move rfl ⟨ct,trivial⟩ (fun _=>trivial) ?_
   refine TW.v V.indexAddrA rfl ⟨ct,ct,trivial⟩ (fun _=>by (try dsimp only); omega) ?_
   refine TW.v V.indexAddrA rfl ⟨ct,ct,trivial⟩ (fun _=>by (try dsimp only); omega) ?_
   refine TW.ld rfl hc ?_
   refine rnT ?_
   refine CW.condP rfl (fun hno=> ?_) (fun hyes=> ?_)
   ·have hnr:=hiffab.1 hno
    refine rnT ?_
    refine TW.build [0,1,2] _ [.int .i64 3,.int .i64 (b:Int),.int .i64 111] rfl rfl rfl (Args.cons rfl ct (Args.cons rfl ct (Args.cons rfl ct Args.nil))) (by kernel_rfl) ?_
    refine TW.buildSlice 167 _ rfl rfl rfl eo85 (Args.cons rfl ct Args.nil) rfl rfl rfl rfl rfl ?_
    rintro g5 w5 f5
    refine TW.append [.int .i64 3,.int .i64 (b:Int),.int .i64 111] rfl rfl go85 rfl (hO.below f5.below) rfl rfl (fun j u hj=>⟨_,rfl,f5.blk.fld hj⟩) (fun u hu=>by simp at hu; rcases hu with rfl|rfl|rfl<;>rfl) (by omega) (by omega) ?_
    rintro fv' w6 hO6 hg6 hn6
    refine rnT ?_
    have hW2:=hW.step f5.below
    refine KW.rd (b+1,fv',n+1) ⟨by show b+1≤_; omega,?_,GB.blk hg6 (hTW.next f5.below) (fun e=>h4g _ e rfl),FRow.app (w:=w5) h3 h2 (fun u hu=>by simp at hu; rcases hu with rfl|rfl|rfl<;>rfl) hO6 hn6 hW2.size,fun g hg=> ?_,by show n+1≤b+1; omega,⟨fun h=>absurd h (Nat.succ_ne_zero n),fun h=>absurd (h a b (by show b<b+1; omega) (by omega)) hnr⟩⟩
    ·exact hW2.grown hg6 hW2.size h3
    ·rcases hn6 with h|h
     ·exact h4g g (by rw [←h]; exact hg)
     ·rw [h] at hg
      cases hg
      have:=hTW.lt
      have:=f5.below.size
      omega
   ·have hr:ReachL (lnOf N) a b:=Classical.byContradiction fun h=>hyes (hiffab.2 h)
    refine rnT ?_
    refine KW.rd (a+1) ⟨by omega,rfl,fun i hi=> ?_⟩
    rcases Nat.lt_or_ge i a with h|h
    ·exact hall i h
    ·have:i=a:=by omega
     subst this
     exact hr
  ·refine rnT ?_
   refine KW.rd (b+1,fv,n) ⟨by show b+1≤_; omega,hW,hTW,⟨zs,hO,h2,h3⟩,h4g,by show n≤b+1; omega,?_⟩
   show n=0↔ ∀x y,y<b+1→x<N.offs.length→ReachL (lnOf N) x y
   rw [hre]
   refine ⟨fun h x y hy hx=> ?_,fun h x y hy hx=>h x y (by omega) hx⟩
   rcases Nat.lt_or_ge y b with h'|h'
   ·exact h x y h' hx
   ·have:y=b:=by omega
    subst this
    exact hall x (by omega)
 ·have hbl:b=N.offs.length:=by omega
  subst hbl
  obtain ⟨Z,zc,hzv,_⟩:=hO.form
  subst hzv
  refine rnT ?_
  refine rt1 rfl ⟨f1.below.step hW,_,_,_,rfl,?_⟩
  rw [hre]
  exact ⟨fun h=>⟨hcons,fun a b ha hb=>h a b hb ha⟩,fun h a b hb ha=>h.all a b ha hb⟩
theorem lines_small (h:SoundOK keys11 N) {l:Li} (hl:l∈N.lines):I64 l.frm∧I64 l.to∧0≤l.trav∧l.trav≤1000000:=by
 have ho:=h.cons.lines.good l hl
 have hf:=h.cons.offs.few
 have h1:=ho.f1
 have h2:=ho.f2
 have h3:=ho.t1
 have h4:=ho.t2
 have h5:=ho.r1
 have h6:=ho.r2
 exact ⟨⟨by omega,by omega⟩,⟨by omega,by omega⟩,by omega,by omega⟩
theorem pls_knd (h:SoundOK keys11 N) (h0:0≤t) (h1:t≤1000000): ∀p∈plsS N t,p.2.OK∧I64 p.1.1∧I64 p.1.2:=fun p hp=>by
 have hf:=h.cons.offs.few
 have hl:=h.cons.lines.few
 rcases List.mem_append.1 hp with hp|hp
 ·unfold offPl at hp
  obtain ⟨i,hi,rfl⟩:=List.mem_map.1 hp
  have:=List.mem_range.1 hi
  have hI:I64 (i:Int):=⟨by omega,by omega⟩
  exact ⟨⟨hI,⟨by omega,by omega⟩,⟨by omega,by omega⟩⟩,hI,⟨by show (-9223372036854775808:Int)≤ -1; omega,by show (-1:Int)≤9223372036854775807; omega⟩⟩
 ·unfold linPl at hp
  obtain ⟨i,hi,rfl⟩:=List.mem_mapIdx.1 hp
  obtain ⟨q1,q2,q3,q4⟩:=lines_small h (List.getElem_mem hi)
  exact ⟨⟨q1,q2,q3,q4,h0,h1⟩,⟨by show (-9223372036854775808:Int)≤ -1; omega,by show (-1:Int)≤9223372036854775807; omega⟩,⟨by show -9223372036854775808≤(i:Int); omega,by show (i:Int)≤_; omega⟩⟩
theorem rests_len {d:Dist} {l:List Ev} {nw:Nat} (hf:FitW d l nw) (ws:List (List Int)): ∀r∈restsS l ws,r.length≤14:=fun r hr=>by
 obtain ⟨S,_,rfl⟩:=List.mem_map.1 hr
 exact Nat.le_trans (restS_sub l S).length_le hf.few
theorem possible_c {dv lv wv:Value} {d:Dist} {l:List Ev} {ws:List (List Int)} (ht:Tabs w) (hN:NetAt w v N) (hd:SD w dv d) (hl:SE w lv l) (hS:SD w wv ws) (hne: ∀e∈l,e.needs.length≤1000000) :
  Gives Tryz.prog 23 #[.agg v.cells.toArray,dv,lv,wv,.int .i64 t] w fun x w'=>Below w.heap.size w w'∧SPs w' x (possS N d l ws t):=by
 have hform:=NetIn.form hN
 obtain ⟨A,cap,rfl,hcap⟩:=hd.form
 obtain ⟨B,lcap,rfl,hlcap⟩:=hl.form
 obtain ⟨X,xcap,rfl,_⟩:=hS.form
 have hv: ∃A4 c4,v.f= .slice A4 N.offs.length c4:=hform.f
 obtain ⟨vc,vn,vo,vf,vl,vk⟩:=v
 obtain ⟨A4,c4,e4⟩:=hv
 dsimp only at e4
 subst e4
 refine gvM (f:=23) ?_
 refine rnT ?_
 refine TW.box rfl rfl rfl rfl ?_
 rintro g5 w1 f1
 refine TW.box rfl rfl rfl rfl ?_
 rintro g6 w2 f2
 refine rnT ?_
 have b2:=f1.below.step f2.below
 have hB5:=f1.blk.next f2.below
 have hB6:=f2.blk
 refine TW.ldS rfl (fun _ _ hv=>hB5.fld hv) ?_
 refine TW.cl rfl (check_c (ht.below b2) (net_step hN b2)) ?_
 rintro y3 w3 ⟨c3,C3,n3,k3,rfl,hn3⟩
 have b3:=b2.step c3
 have hB53:=hB5.next c3
 have hB63:=hB6.next c3
 refine rnT ?_
 refine TW.ld rfl (hB63.cell 0) ?_
 refine rnT ?_
 refine TW.callF (cap:= []) rfl rfl en57 rfl ct (Args.cons rfl id (Args.cons rfl id (Args.cons rfl id Args.nil))) (fun _=>fitting_c (sd_step hd b3) (se_step hl b3)) ?_
 rintro w4 c4'
 refine rnT ?_
 have b4:=b3.step c4'
 have hB54:=hB53.next c4'
 have hB64:=hB63.next c4'
 refine TW.ld rfl (hB64.cell 0) ?_
 refine rnT ?_
 refine TW.ld rfl (hB54.fld rfl) ?_
 refine rnT ?_
 refine CW.pk [0,1,2,3,4,5,6,10,33] rfl ?_
 have hbad': ∀ {p:Prop},(p→PossOK N d l ws.length t)→True:=fun _=>trivial
 refine CW.cond rfl (fun hbad=> ?_) (fun hgood=> ?_)
 ·refine rnT ?_
  refine ret1M0 Tryz.results23 rfl ⟨b4,?_⟩
  have hno: ¬PossOK N d l ws.length t:=fun h=>by
   have e0:n3=0:=hn3.2 h.sound
   have e1:=h.same
   rw [dec_pos h.fit] at hbad
   simp [e0,e1] at hbad
  unfold possS
  rw [dec_neg hno]
  exact SL.nil _ _ _
 have hg:n3=0∧FitW d l ws.length∧d.length=N.offs.length:=by
  by_cases hfw:FitW d l ws.length
  ·rw [dec_pos hfw] at hgood
   simp at hgood
   exact ⟨by omega,hfw,by omega⟩
  ·rw [dec_neg hfw] at hgood
   simp at hgood
 obtain ⟨e0,hfw,hsame⟩:=hg
 have hsnd:=hn3.1 e0
 refine rnT ?_
 refine CW.cond rfl (fun hbt=> ?_) (fun hgt=> ?_)
 ·refine rnT ?_
  refine ret1M0 Tryz.results23 rfl ⟨b4,?_⟩
  have hno: ¬PossOK N d l ws.length t:=fun h=>by
   have e0:=h.t0
   have e1:=h.t1
   simp at hbt
   omega
  unfold possS
  rw [dec_neg hno]
  exact SL.nil _ _ _
 have ht01:0≤t∧t≤1000000:=by simp at hgt; omega
 have hok:PossOK N d l ws.length t:=⟨hsnd,hfw,hsame,ht01.1,ht01.2⟩
 have hkn:=pls_knd hsnd ht01.1 ht01.2
 have hoff:=hsnd.cons.offs.few
 have hlin:=hsnd.cons.lines.few
 have hwl:=hfw.worlds
 have hll:=hfw.few
 refine rnT ?_
 refine TW.alloc rfl rfl zc54 ?_
 rintro g11 w5 f5
 refine rnT ?_
 have b5:=b4.step f5.below
 refine TW.cl rfl (restsOf_c (se_step hl b5) (sd_step hS b5) (by omega) hne (by omega)) ?_
 rintro rv w6 ⟨c6,hR6⟩
 obtain ⟨R6,rc6,rfl,_⟩:=hR6.form
 have b6:=b5.step c6
 refine TW.newVar1 rfl zc98 rfl sz98 rfl ?_
 rintro g12 w7 f7
 refine rnT ?_
 refine TW.pk [0,1,2,3,4,5,6,10,11,12] rfl ?_
 have b7:=b6.step f7.below
 have hB57:=hB54.next (f5.below.step (c6.step f7.below))
 refine TW.ldS rfl (fun _ _ hv=>hB57.fld hv) ?_
 refine rnT ?_
 refine TW.cl rfl (places_c) ?_
 rintro y8 w8 ⟨c8,gN,gT,rfl,hBN,hBT,hgN,hgT⟩
 have b8:=b7.step c8
 refine rnT ?_
 have s5:=f5.below.size
 have s4:=b4.size
 have s6:=c6.size
 have s7:=f7.below.size
 have s8:=c8.size
 have q5:=f5.at_
 have q5':=f5.size
 have q7:=f7.at_
 have q7':=f7.size
 have hB6':Blk w8 g6 30 [.slice A d.length cap]:=hB64.next (f5.below.step (c6.step (f7.below.step c8)))
 have hB11:Blk w8 g11 54 [.slice none 0 0]:=f5.blk.next (c6.step (f7.below.step c8))
 have hB12:Blk w8 g12 98 [.slice R6 (restsS l ws).length rc6]:=f7.blk.next c8
 have q6:g6<w4.heap.size:=hB64.lt
 have q5g:w.heap.size≤g6:=by have:=f2.at_; have:=f1.below.size; omega
 have hR8:SL (sliceT evT) (fun k=>w5.heap.size≤k∧k<w6.heap.size) w8 (.slice R6 (restsS l ws).length rc6) (restsS l ws):=hR6.below (f7.below.step c8)
 have hN8:NetIn (fun k=>k<w.heap.size) w8 ⟨vc,vn,vo,.slice A4 N.offs.length c4,vl,vk⟩ N:=NetIn.below hN b8
 have hit:=places_iter hN8 (fun k hk=>by omega) hBN hBT ⟨by omega,by omega⟩
 refine CW.rangeW rfl en115 hit rfl (fun _=>rfl)
  (fun pre M W=>Below w.heap.size w W∧w8.heap.size≤W.heap.size∧Blk W g6 30 [.slice A d.length cap]∧Blk W g12 98 [.slice R6 (restsS l ws).length rc6]∧SL (sliceT evT) (fun k=>w5.heap.size≤k∧k<w6.heap.size) W (.slice R6 (restsS l ws).length rc6) (restsS l ws)∧ ∃vf ps,Blk W g11 54 [vf]∧RowN sptT W 58 w8.heap.size vf ps∧ps.map (·.2)=((pre.map (·.2)).filter (fun p=>canB d (restsS l ws) p.2)).map (·.1)∧M=fun k=>k=g11∨vf.ownBlock=some k)
  (fun c pre M W=>False) (fun k=>k=g11) ?_ ?_ ?_ (fun _ _ _ _ _ h _=>h) ?_ ?_ ?_ ?_
 ·rintro k rfl
  refine ⟨by omega,?_⟩
  rintro (rfl|rfl|h)
  ·omega
  ·omega
  ·omega
 ·rintro k (rfl|rfl|h)
  ·exact hBN.lt
  ·exact hBT.lt
  ·omega
 ·rintro pre M W1 W2 ⟨a1,a2,a3,a4,aR,vf,ps,a5,a6,a7,a8⟩ hx
  exact ⟨(hx.less (by omega)).below a1 (Nat.le_refl _),Nat.le_trans a2 hx.size,a3.ext hx,a4.ext hx,aR.ext hx,vf,ps,a5.ext hx,a6.ext hx,a7,a8⟩
 ·exact ⟨b8,Nat.le_refl _,hB6',hB12,hR8,.slice none 0 0,[],hB11,RowN.nil _ _ _ _,rfl,by funext k; simp [Value.ownBlock]⟩
 ·rintro D L pre ⟨fv,s,K⟩ M W hD hL ⟨a1,a2,a3,a4,aR,vf,ps,a5,a6,a7,rfl⟩ ⟨hp1,hp2,bF,hfm⟩ hMlt hML hMD hrec
  dsimp only at hp1 hp2 hfm
  have hpsl:ps.length≤2000:=by
   have e1:ps.length=(ps.map (·.2)).length:=by simp
   rw [e1,a7,List.length_map]
   have e2:=List.length_filter_le (fun p=>canB d (restsS l ws) p.2) (pre.map (·.2))
   have e3:pre.length<(plsS N t).length:=(List.getElem?_eq_some_iff.1 hp2).1
   rw [plsS_len] at e3
   rw [List.length_map] at e2
   omega
  obtain ⟨hKI,hs1,hs2⟩:=hkn _ (List.mem_of_getElem? hp2)
  dsimp only at hKI hs1 hs2
  refine rnT ?_
  refine TW.newVar rfl zc58 rfl sz58 rfl rfl ?_
  rintro g13 w9 f9
  refine rnT ?_
  refine KW.begin (hrec.kept (f9.below.block L hrec.lt)) fun W2 hx2 hsz2 hk2 hrec2=> ?_
  have q13:=f9.at_
  have q13':=f9.size
  have hWW2:ExtF 0 W W2:=(ExtF.of_below f9.below).trans (hx2.less (Nat.zero_le _))
  have a1':Below w.heap.size w W2:=(hx2.less (by omega)).below (a1.step f9.below) (Nat.le_refl _)
  have a3':=a3.ext hWW2
  have a4':=a4.ext hWW2
  have aR':=aR.ext hWW2
  have a5':=a5.ext hWW2
  have a6':=a6.ext hWW2
  have hB13:=f9.blk.ext hx2
  have hLW:L<W.heap.size:=hrec.lt
  have kW2: ∀k,k<W.heap.size→k≠L→W2.heap[k]?=W.heap[k]?:=fun k h1 h2=>(hk2 k h2).trans (f9.below.block k h1)
  obtain ⟨kf,caps,rfl,hen,hfo⟩:=(hfm.ext hWW2).ok hKI
  refine rnT ?_
  refine TW.ld rfl (a3'.cell 0) ?_
  refine TW.ld rfl (a4'.cell 0) ?_
  refine rnT ?_
  refine TW.cl rfl (can_c (sd_step hd a1') (aR'.wider fun q hq=>by omega) hen hfo hKI (rests_len hfw ws)) ?_
  rintro y3 W3 ⟨hb3,rfl⟩
  refine rnT ?_
  have hL2:L<W2.heap.size:=hrec2.lt
  have rec3:W3.heap[L]?=W2.heap[L]?:=hb3.block L hL2
  have s3:=hb3.size
  have a1'':=a1'.step hb3
  have a5'':=a5'.next hb3
  have a6'':=a6'.step hb3
  have hB13':=hB13.next hb3
  have hvlt: ∀q,vf.ownBlock=some q→w8.heap.size≤q∧q<W.heap.size:=fun q hq=>⟨a6.2.2 q hq,a6.1.lt hq⟩
  have hLv:vf.ownBlock≠some L:=fun e=>hML (.inr e)
  have hDv:vf.ownBlock≠some D:=fun e=>hMD (.inr e)
  have hLg:L≠g11:=fun e=>hML (.inl e)
  have hDg:D≠g11:=fun e=>hMD (.inl e)
  have hfs: ∀(x:PlE),((pre++ [x]).map (·.2)).filter (fun p=>canB d (restsS l ws) p.2)=(pre.map (·.2)).filter (fun p=>canB d (restsS l ws) p.2)++if canB d (restsS l ws) x.2.2 then [x.2] else []:=fun x=>by
   rw [List.map_append,List.filter_append]
   cases hq:canB d (restsS l ws) x.2.2<;>simp [List.filter,hq]
  refine CW.cond rfl (fun hyes=> ?_) (fun hno=> ?_)
  ·refine CW.region ?_
   refine TW.ld rfl (a5''.cell 0) ?_
   refine TW.ldS rfl (fun _ _ hv=>hB13'.fld hv) ?_
   refine TW.buildSlice 58 _ rfl rfl rfl eo54 (Args.cons rfl ct Args.nil) rfl rfl rfl rfl rfl ?_
   rintro g54 w10 f10
   have o10:=a6''.1.below f10.below
   refine TW.append (spV s) rfl rfl go54 rfl o10 rfl rfl (fun j v hj=>⟨⟨g54,0,none⟩,rfl,f10.blk.fld hj⟩) (fun v hv=>by simp [spV] at hv; rcases hv with rfl|rfl<;>rfl) (by omega) (by omega) ?_
   rintro vf' w11 o11 hg11 hn11
   have s10:=f10.below.size
   have s11:=hg11.size
   have b11:Blk w11 g11 54 [vf]:=Blk.keptO (a5''.next f10.below) hg11 (fun e=>by have:=hvlt _ e; omega)
   obtain ⟨A8,c8,hv8,_⟩:=o11.form
   have h18:vf'.oneCell'=true:=by rw [hv8]; rfl
   refine TW.store1 rfl sz54 rfl rfl (b11.cell 0) (b11.frozen 0) h18 ?_
   refine rnT ?_
   have r11:RowN sptT w11 58 w8.heap.size vf' (ps++ [(spV s,s)]):=RowN.app (a6''.step f10.below) o11 hg11 hn11 ⟨rfl,hs1,hs2⟩ (by omega)
   have r12:=r11.setCell (g:=g11) (i:=0) (by omega) vf'
   have hnew: ∀q,vf'.ownBlock=some q→vf.ownBlock=some q∨q=w10.heap.size:=fun q hq=>by
    rcases hn11 with h|h
    ·exact .inl (by rw [←h]; exact hq)
    ·rw [h] at hq; cases hq; exact .inr rfl
   have rec11:w11.heap[L]?=W2.heap[L]?:=(hg11.block L (by omega) (fun e=>hLv e.symm)).trans ((f10.below.block L (by omega)).trans rec3)
   have kept11: ∀k,k<W.heap.size→ ¬(k=g11∨vf.ownBlock=some k)→k≠L→w11.heap[k]?=W.heap[k]?:=fun k h1 h2 h3 =>
    (hg11.block k (by omega) (fun e=>h2 (.inr e.symm))).trans ((f10.below.block k (by omega)).trans ((hb3.block k (by omega)).trans (kW2 k h1 h3)))
   have hb11:Below w.heap.size w w11:=(a1''.step f10.below).grown hg11 (a1''.step f10.below).size (fun q hq=>by have:=hvlt q hq; omega)
   have b6w:Blk w11 g6 30 [.slice A d.length cap]:=Blk.keptO ((a3'.next hb3).next f10.below) hg11 (fun e=>by have:=hvlt _ e; omega)
   have b12w:Blk w11 g12 98 [.slice R6 (restsS l ws).length rc6]:=Blk.keptO ((a4'.next hb3).next f10.below) hg11 (fun e=>by have:=hvlt _ e; omega)
   have aR11:SL (sliceT evT) (fun k=>w5.heap.size≤k∧k<w6.heap.size) (w11.setCell ⟨g11,0,none⟩ vf') (.slice R6 (restsS l ws).length rc6) (restsS l ws):=((aR'.below hb3).below f10.below).mono (Kept.of_blocks fun k hk hlt=>(Below.heap_setCell _ _ _ _ (fun e=>by have e:k=g11:=e; omega)).trans (hg11.block k hlt (fun e=>by have:=hvlt k e.symm; omega)))
   refine KW.endN (hrec2.kept ((Below.heap_setCell _ _ _ _ (by show L≠g11; exact hLg)).trans rec11)) fun W9 hx9 hsz9 hk9 hrec9=> ?_
   have hs9:W9.heap.size=w11.heap.size:=by rw [hsz9]; simp
   refine ⟨by omega,fun k h1 h2 h3=>(hk9 k h3).trans ((Below.heap_setCell _ _ _ _ (fun e=>h2 (.inl e))).trans (kept11 k h1 h2 h3)),fun _=>⟨fun k=>k=g11∨vf'.ownBlock=some k,⟨⟨(hx9.less (by omega)).below (hb11.setCell (by show w.heap.size≤g11; omega) _) (Nat.le_refl _),by omega,(b6w.far (by show g6≠g11; omega) vf').ext hx9,(b12w.far (by show g12≠g11; omega) vf').ext hx9,aR11.ext hx9,vf',_,(b11.set 0 vf').ext hx9,r12.ext hx9,?_,rfl⟩,?_,?_,hrec9⟩,fun k hk=> ?_⟩,fun h=>by cases h⟩
   ·rw [hfs,List.map_append,List.map_append,a7]
    simp [hyes]
   ·rintro (h|h)
    ·exact hLg h
    ·rcases hnew L h with h|h
     ·exact hLv h
     ·omega
   ·rintro (h|h)
    ·exact hDg h
    ·rcases hnew D h with h|h
     ·exact hDv h
     ·omega
   ·rcases hk with rfl|hk
    ·exact ⟨.inl (.inl rfl),by omega⟩
    ·rcases hnew k hk with h|h
     ·exact ⟨.inl (.inr h),by have:=hvlt k h; omega⟩
     ·refine ⟨.inr (by omega),?_⟩
      have:=o11.lt hk
      omega
  ·refine rnT ?_
   refine KW.endN (hrec2.kept rec3) fun W8 hx8 hsz8 hk8 hrec8=> ?_
   refine ⟨by omega,fun k h1 h2 h3=>(hk8 k h3).trans ((hb3.block k (by omega)).trans (kW2 k h1 h3)),fun _=>⟨fun k=>k=g11∨vf.ownBlock=some k,⟨⟨(hx8.less (by omega)).below a1'' (Nat.le_refl _),by omega,(a3'.next hb3).ext hx8,(a4'.next hb3).ext hx8,(aR'.below hb3).ext hx8,vf,ps,a5''.ext hx8,a6''.ext hx8,?_,rfl⟩,hML,hMD,hrec8⟩,fun k hk=> ?_⟩,fun h=>by cases h⟩
   ·rw [hfs,List.map_append,a7]
    simp [hno]
   ·refine ⟨.inl hk,?_⟩
    rcases hk with rfl|hk
    ·omega
    ·have:=hvlt k hk; omega
 ·rintro D xs M W hD hdone ⟨a1,a2,a3,a4,aR,vf,ps,a5,a6,a7,rfl⟩ hMD hdef
  have hdone':xs.map (·.2)=plsS N t:=hdone
  have hDn:D<W.heap.size:=(Array.getElem?_eq_some_iff.1 hdef).1
  have hput:ExtF w8.heap.size W (W.putObj D (.deferred none)):=ExtF.putObj hdef rfl hD
  have hBp:Below w.heap.size w (W.putObj D (.deferred none)):=Below.putCtl a1 (by omega)
  refine KW.blockN (KW.then_ ?_)
  refine rnT ?_
  refine TW.ld rfl (a5.cell 0) ?_
  refine rnT ?_
  refine ret1M Tryz.results23 rfl hdef ⟨hBp,?_⟩
  rw [poss_eq hok]
  unfold spotsS
  rw [←hdone',←a7]
  exact ((a6.ext hput).sl (by show 0<2; omega)).wider fun _ h=>h.2
 ·rintro D c pre M W hD h
  exact h.elim
end Go.Proofs.YtobaafdejnimkaaGreatDoor
namespace Go.PF
open Go.RowKit
section
variable {P:Program} {N:Nat} {E:Env} {w:World} {fn:Func} {R:Value→World→Prop}
theorem ret2CS {s u:Nat} {t t1:TypeId} {fs:Array Field} {g:Nat} {cs:List Value} {v:Value} (hres:fn.results= #[.cell s t,.tmp u]) (hu:P.underlying t=some (.struct fs)) (hs:(P.info? t).map (·.size)=some cs.length) (hl:look E s=some (none,.pointer (some ⟨g,0,none⟩))) (hv:look E u=some (none,v)) (hB:Blk w g t1 cs) (hR:R (.tuple #[.agg cs.toArray,v]) w) :
  KW N [] (bodyPost P fn (fun e w'=> ∃v,e= .returned v∧R v w') .ret) E w:=fun a ha=>by
 refine bodyPost_ret (v:= .tuple #[.agg cs.toArray,v]) ?_ ha.defers ⟨_,rfl,hR⟩
 have e:a.tmps.getD s undef= .pointer (some ⟨g,0,none⟩):=(ha.slots s none _ hl).1 trivial
 have e2:a.tmps.getD u undef=v:=(ha.slots u none _ hv).1 trivial
 simp only [Array.getD_eq_getD_getElem?] at e e2
 simp [results,hres,e,e2,asAddr,run_loadVarS hu hs (fun j v hj=>hB.fld hj)]
end
end Go.PF
namespace Go.Proofs.YtobaafdejnimkaaGreatDoor
open Go.PF Go.RowKit Go.Ord
attribute [local irreducible] TW CW KW DW
variable {l:List Ev} {ws:List (List Int)} {o t:Int}
def certS:List Spt→Spt×Bool
 | [s]=>(s,true)
 | _=>((0,0),false)
theorem reach_c {w:World} {dv lv wv:Value} {d:Dist} {f:Int} (hd:SD w dv d) (hl:SE w lv l) (hS:SD w wv ws) (hne: ∀e∈l,e.needs.length≤1000000) (hI:Knd.OK (.at o f t)) :
  Gives Tryz.prog 21 #[dv,lv,wv,.int .i64 o,.int .i64 f,.int .i64 t] w fun x w'=>Below w.heap.size w w'∧x= .bool (reachS d l ws o f t):=by
 obtain ⟨A,cap,rfl,hcap⟩:=hd.form
 obtain ⟨B,lcap,rfl,hlcap⟩:=hl.form
 obtain ⟨X,xcap,rfl,_⟩:=hS.form
 refine gv (f:=21) ?_
 refine rnT ?_
 refine TW.cl rfl (fitting_c hd hl) ?_
 rintro y w1 ⟨b1,rfl⟩
 refine rnT ?_
 refine CW.cond rfl (fun hbad=> ?_) (fun hgood=> ?_)
 ·refine rnT ?_
  refine rt1 rfl ⟨b1,?_⟩
  unfold reachS
  cases hf:dec (FitW d l ws.length) with
  | false=>rfl
  | true =>
   rw [hf] at hbad
   simp at hbad
   rw [decide_eq_false (by omega)]
   rfl
 have hg:FitW d l ws.length∧0≤o∧o<(d.length:Int):=by
  by_cases hf:FitW d l ws.length
  ·rw [dec_pos hf] at hgood
   simp at hgood
   exact ⟨hf,by omega,by omega⟩
  ·rw [dec_neg hf] at hgood
   simp at hgood
 have hwl:=hg.1.worlds
 have hll:=hg.1.few
 refine rnT ?_
 refine TW.cl rfl (restsOf_c (se_step hl b1) (sd_step hS b1) (by omega) hne (by omega)) ?_
 rintro rv w2 ⟨c2,h2⟩
 refine rnT ?_
 refine TW.cl rfl (visit_c) ?_
 rintro fv w3 ⟨c3,h3⟩
 obtain ⟨kf,caps,rfl,hen,hfo⟩:=h3.ok hI
 have b2:=b1.step c2
 have b3:=b2.step c3
 refine TW.cl rfl (can_c (sd_step hd b3) ((h2.below c3).wider fun q hq=>by have:=c3.size; omega) hen hfo hI (rests_len hg.1 ws)) ?_
 rintro y4 w4 ⟨c4,rfl⟩
 refine rnT ?_
 refine rt1 rfl ⟨b3.step c4,?_⟩
 unfold reachS
 rw [dec_pos hg.1,decide_eq_true hg.2]
 rfl
theorem seen_eq:(decide (0<ws.length)&& !(ws.any fun S=>decide ((restS (l.filter (isSeen o t)) S).length=0)))=seenS l ws o t:=by
 unfold seenS
 congr 1
 rw [List.not_any_eq_all_not]
 refine bool_ext ?_
 rw [List.all_eq_true,List.all_eq_true]
 refine forall_congr' fun S=>forall_congr' fun _=> ?_
 have e:restS (l.filter (isSeen o t)) S=(restS l S).filter (isSeen o t):=by
  unfold restS
  rw [List.filter_filter,List.filter_filter]
  exact List.filter_congr fun x _=>Bool.and_comm _ _
 rw [e]
 constructor
 ·intro h
  have h: ¬((restS l S).filter (isSeen o t)).length=0:=by simpa using h
  obtain ⟨x,hx⟩:=List.exists_mem_of_length_pos (Nat.pos_of_ne_zero h)
  obtain ⟨h1,h2⟩:=List.mem_filter.1 hx
  exact List.any_eq_true.2 ⟨x,h1,h2⟩
 ·intro h
  obtain ⟨x,h1,h2⟩:=List.any_eq_true.1 h
  have:=List.length_pos_of_mem (List.mem_filter.2 ⟨h1,h2⟩)
  rw [decide_eq_false (by omega)]
  rfl
theorem seen_c {w:World} {lv wv:Value} (hl:SE w lv l) (hS:SD w wv ws) (hsm:l.length≤1000000) (hne: ∀e∈l,e.needs.length≤1000000) :
  Gives Tryz.prog 22 #[lv,wv,.int .i64 o,.int .i64 t] w fun x w'=>Below w.heap.size w w'∧x= .bool (seenS l ws o t):=by
 obtain ⟨B,lcap,rfl,hlcap⟩:=hl.form
 obtain ⟨X,xcap,rfl,_⟩:=hS.form
 refine gv (f:=22) ?_
 refine rnT ?_
 refine TW.alloc rfl rfl zc31 ?_
 rintro g9 w1 f1
 refine rnT ?_
 have q9:=f1.at_
 have q9':=f1.size
 refine CW.lp [1,2,3,9,13,14] (fun x:Nat×Value×List (List Value×Ev)=> [(15,none,.int .i64 (x.1:Int))])
  (fun x W=>x.1≤l.length∧Below w.heap.size w W∧w1.heap.size≤W.heap.size∧Blk W g9 31 [x.2.1]∧OwnS W 60 4 x.2.1 x.2.2.length (x.2.2.flatMap (·.1))∧(∀g,x.2.1.ownBlock=some g→w1.heap.size≤g)∧x.2.2.map (·.2)=(l.take x.1).filter (isSeen o t)∧ ∀p∈x.2.2,evT.rep (fun k=>k<w.heap.size) w p.1 p.2) (fun x=>l.length-x.1) (0,.slice none 0 0,[]) ⟨Nat.zero_le _,f1.below,Nat.le_refl _,f1.blk,OwnS.nil _ _ _,fun g hg=>by simp [Value.ownBlock] at hg,rfl,fun p hp=>by cases hp⟩ ?_
 rintro ⟨i,vf,ps⟩ W ⟨hi,hB,hsW,hB9,hO,hob,hmap,hrep⟩
 dsimp only at hi hB9 hO hob hmap hrep
 have hpl:ps.length≤l.length:=by
  have:=congrArg List.length hmap
  simp only [List.length_map] at this
  have h2:=List.length_filter_le (isSeen o t) (l.take i)
  rw [List.length_take] at h2
  omega
 refine rnT ?_
 refine CW.condP rfl (fun hlt=> ?_) (fun hge=> ?_)
 ·obtain ⟨e,he,hem⟩:=getx (l:=l) (k:=i) (by omega)
  obtain ⟨ad,rfl⟩:=hl.addr (by omega)
  obtain ⟨nv,hcells0,i1,i2,i3,hn0⟩:=SE.get hl he
  obtain ⟨C,ncap,rfl,_⟩:=hn0.form
  have hcells: ∀j u,[Value.int .i64 e.office,.int .i64 e.low,.int .i64 e.high,.slice C e.needs.length ncap][j]?=some u→W.cell? ((ad.add ((i:Int).toNat*4)).add j)=some u:=fun j u hj=>(hB.cell (block_lt_of_cell (hcells0 j u hj))).trans (hcells0 j u hj)
  have htk:(l.take (i+1)).filter (isSeen o t)=(l.take i).filter (isSeen o t)++if isSeen o t e then [e] else []:=by
   rw [List.take_add_one,he,List.filter_append]
   cases hq:isSeen o t e<;>simp [List.filter,hq]
  refine rnT ?_
  refine TW.ldS rfl (hcells) ?_
  refine TW.newVar rfl zc60 rfl sz60 rfl rfl ?_
  rintro g11 w2 f2
  refine rnT ?_
  have hB92:=hB9.next f2.below
  refine TW.ld rfl (f2.blk.fld rfl) ?_
  refine rnT ?_
  refine TW.ld rfl (f2.blk.fld rfl) ?_
  refine rnT ?_
  refine CW.pk [1,2,3,9,11,13,14,15,28] rfl ?_
  refine CW.cond rfl (fun hyes=> ?_) (fun hno=> ?_)
  ·refine CW.region ?_
   refine TW.ld rfl (hB92.cell 0) ?_
   refine TW.ldS rfl (fun _ _ hv=>f2.blk.fld hv) ?_
   refine TW.buildSlice 60 _ rfl rfl rfl eo31 (Args.cons rfl ct Args.nil) rfl rfl rfl rfl rfl ?_
   rintro g3 w3 f3
   have b3:=f2.below.step f3.below
   have hB3:=hB.step b3
   have s3:=b3.size
   refine TW.append [.int .i64 e.office,.int .i64 e.low,.int .i64 e.high,.slice C e.needs.length ncap] rfl rfl go31 rfl (hO.below b3) rfl rfl (fun j v hj=>⟨⟨g3,0,none⟩,rfl,f3.blk.fld hj⟩) (fun v hv=>by simp at hv; rcases hv with rfl|rfl|rfl|rfl<;>rfl) (by omega) (by omega) ?_
   rintro vf' w4 o4 hg4 hn4
   have s4:=hg4.size
   have hB94:Blk w4 g9 31 [vf]:=Blk.keptO (hB9.next b3) hg4 (fun e=>by have:=hob _ e; omega)
   obtain ⟨A8,c8,hv8,_⟩:=o4.form
   have h18:vf'.oneCell'=true:=by rw [hv8]; rfl
   refine TW.store1 rfl sz31 rfl rfl (hB94.cell 0) (hB94.frozen 0) h18 ?_
   refine rnT ?_
   have hob': ∀g,vf'.ownBlock=some g→w1.heap.size≤g:=fun g hg=>by
    rcases hn4 with h|h
    ·exact hob g (by rw [←h]; exact hg)
    ·rw [h] at hg; cases hg; omega
   have hB4:Below w.heap.size w w4:=hB3.grown hg4 hB3.size (fun q hq=>by have:=hob q hq; omega)
   refine KW.rd (i+1,vf',ps++ [([.int .i64 e.office,.int .i64 e.low,.int .i64 e.high,.slice C e.needs.length ncap],e)]) ⟨by show i+1≤l.length; omega,hB4.setCell (by show w.heap.size≤g9; omega) _,by simp; omega,hB94.set 0 vf',?_,hob',?_,fun p hp=> ?_⟩
   ·show OwnS _ _ 4 vf' (ps++ [_]:List (List Value×Ev)).length ((ps++ [_]:List (List Value×Ev)).flatMap fun p=>p.1)
    rw [List.flatMap_append,List.length_append]
    have:=OwnS.kept o4 (w':=w4.setCell ⟨g9,0,none⟩ vf') fun q hq=>Below.heap_setCell _ _ _ _ (fun e=>by have e:q=g9:=e; have:=hob' q hq; omega)
    simpa using this
   ·show List.map Prod.snd (ps++ [_])=(l.take (i+1)).filter (isSeen o t)
    rw [List.map_append,hmap,htk]
    have:isSeen o t e=true:=by
     unfold isSeen
     simpa [and_comm] using hyes
    rw [this]
    rfl
   ·rcases List.mem_append.1 hp with h|h
    ·exact hrep p h
    ·rw [List.mem_singleton] at h
     subst h
     exact ⟨_,rfl,i1,i2,i3,hn0⟩
  ·refine rnT ?_
   refine KW.rd (i+1,vf,ps) ⟨by show i+1≤l.length; omega,hB.step f2.below,by have:=f2.below.size; omega,hB92,hO.below f2.below,hob,?_,hrep⟩
   show ps.map (·.2)=(l.take (i+1)).filter (isSeen o t)
   have:isSeen o t e=false:=by
    unfold isSeen
    cases hq:decide (e.office=o∧e.high≤t) with
    | false=>rfl
    | true=>exact absurd (by simpa using hq) (by simpa using hno)
   rw [hmap,htk,this]
   simp
 have hie:i=l.length:=by omega
 subst hie
 rw [List.take_length] at hmap
 have hth:SE W vf (l.filter (isSeen o t)):=by
  have:=OwnS.toSLn (by decide) hB hrep hO rfl (by omega)
  rw [hmap] at this
  exact this.wider fun q hq=>hq.elim (fun h=>by have:=hB.size; omega) (fun h=>hO.lt h)
 refine rnT ?_
 refine TW.makeFunc rfl rfl (Args.cons rfl ct Args.nil) ?_
 refine rnT ?_
 refine TW.callF (cap:= []) rfl rfl en62 rfl ct (Args.cons rfl id (Args.cons rfl id Args.nil)) (fun _=>someRI_c (sd_step hS hB) en61 (seen1_c hB9 hth (by have:=List.length_filter_le (isSeen o t) l; omega) (fun e he=>hne e ((List.mem_filter (p:=isSeen o t)).1 he).1))) ?_
 rintro w5 c5
 refine rnT ?_
 refine rt1 rfl ⟨hB.step c5,?_⟩
 rw [←seen_eq]
 simp
end Go.Proofs.YtobaafdejnimkaaGreatDoor
namespace Go.Ord
variable {d:Dist}
def pc:Nat→Nat
 | 0=>0
 | n+1=>(n+1)%2+pc ((n+1) / 2)
decreasing_by omega
theorem pc_eq (n:Nat):pc n=n%2+pc (n / 2):=by
 cases n with
 | zero=>simp [pc]
 | succ n=>rw [pc]
theorem left_consU (u:U) (us:List U) (m:Nat):left (u::us) m=(if m.testBit 0 then [] else [u])++left us (m / 2):=by
 unfold left
 rw [List.length_cons,List.range_succ_eq_map,List.filterMap_cons,List.filterMap_map]
 have e:((fun i=>if m.testBit i=true then none else (u::us)[i]?) ∘ Nat.succ)=fun i=>if (m / 2).testBit i=true then none else us[i]?:=by
  funext i
  simp [Function.comp,Nat.testBit_succ]
 rw [e]
 by_cases h:m.testBit 0=true
 ·simp [h]
 ·simp [h]
theorem pc_left: ∀(us:List U) (m:Nat),m<2 ^ us.length→pc m+(left us m).length=us.length
 | [],m,h=>by
  simp at h
  subst h
  simp [pc,left]
 | u::us,m,h=>by
  have h2:m / 2<2 ^ us.length:=by
   rw [List.length_cons,Nat.pow_succ] at h
   omega
  have ih:=pc_left us (m / 2) h2
  rw [left_consU,pc_eq,List.length_append,List.length_cons]
  by_cases hb:m.testBit 0=true
  ·have:m%2=1:=by rw [Nat.testBit_zero] at hb; simpa using hb
   simp [hb]
   omega
  ·have:m%2=0:=by
    rw [Nat.testBit_zero] at hb
    have:=Nat.mod_two_eq_zero_or_one m
    simp at hb
    omega
   simp [hb]
   omega
structure RS where
 time:Int
 last:Nat
 set:Nat
 frm:Int
def stOf (us:List U) (s:RS):St:=match us[s.last]? with
 | some u=>(some u.exit,s.time+u.span)
 | none=>(none,0)
structure RSOK (d:Dist) (us:List U) (s:RS):Prop where
 last:s.last<us.length
 bits:s.set<2 ^ us.length
 way:Way d us s.set (stOf us s) (pc s.set)
 t0:0≤s.time
 t1:s.time≤1000000
 f1: -1≤s.frm
structure DP (d:Dist) (us:List U) (r b:Nat) (L:List RS):Prop where
 each: ∀s∈L,RSOK d us s
 key:L.Pairwise fun a c=> ¬(a.set=c.set∧a.last=c.last)
 lo: ∀(i:Nat) s,L[i]?=some s→i<b→pc s.set≤r
 hi: ∀(i:Nat) s,L[i]?=some s→b≤i→pc s.set=r+1
 back: ∀(i:Nat) s,L[i]?=some s→s.frm<i
def Lat (b:Nat) (L L':List RS):Prop:=b≤L.length∧L'.take b=L.take b∧ ∀s∈L,∃s'∈L',s'.set=s.set∧s'.last=s.last∧s'.time≤s.time
theorem Lat.refl {b:Nat} {L:List RS} (h:b≤L.length):Lat b L L:=⟨h,rfl,fun s hs=>⟨s,hs,rfl,rfl,Int.le_refl _⟩⟩
theorem Lat.trans {b:Nat} {L L' L'':List RS} (h:Lat b L L') (h':Lat b L' L''):Lat b L L'':=by
 refine ⟨h.1,h'.2.1.trans h.2.1,fun s hs=> ?_⟩
 obtain ⟨s',h1,h2,h3,h4⟩:=h.2.2 s hs
 obtain ⟨s'',k1,k2,k3,k4⟩:=h'.2.2 s' h1
 exact ⟨s'',k1,k2.trans h2,k3.trans h3,Int.le_trans k4 h4⟩
def Has (L:List RS) (set last:Nat) (t:Int):Prop:= ∃s∈L,s.set=set∧s.last=last∧s.time≤t
theorem DP.app {us:List U} {r b:Nat} {L:List RS} (h:DP d us r b L) {n:RS} (hn:RSOK d us n) (hr:pc n.set=r+1) (hf:n.frm<b) (hb:b≤L.length) (hno: ∀(i:Nat) s,L[i]?=some s→b≤i→ ¬(s.set=n.set∧s.last=n.last)):DP d us r b (L++ [n])∧Lat b L (L++ [n]):=by
 have hat: ∀(i:Nat) s,(L++ [n])[i]?=some s→L[i]?=some s∨(i=L.length∧s=n):=fun i s hs=>by
  rcases Nat.lt_trichotomy i L.length with hi|hi|hi
  ·rw [List.getElem?_append_left hi] at hs; exact .inl hs
  ·subst hi; simp at hs; exact .inr ⟨rfl,hs.symm⟩
  ·rw [List.getElem?_eq_none (by simp; omega)] at hs; cases hs
 refine ⟨⟨fun s hs=> ?_,?_,fun i s hs hi=> ?_,fun i s hs hi=> ?_,fun i s hs=> ?_⟩,hb,by rw [List.take_append_of_le_length hb],fun s hs=>⟨s,List.mem_append_left _ hs,rfl,rfl,Int.le_refl _⟩⟩
 ·rcases List.mem_append.1 hs with hs|hs
  ·exact h.each s hs
  ·rw [List.mem_singleton] at hs; subst hs; exact hn
 ·refine List.pairwise_append.2 ⟨h.key,List.pairwise_singleton _ _,fun a ha c hc=> ?_⟩
  rw [List.mem_singleton] at hc
  subst hc
  obtain ⟨i,hi⟩:=List.mem_iff_getElem?.1 ha
  by_cases hib:i<b
  ·rintro ⟨e,_⟩
   have:=h.lo i a hi hib
   rw [e] at this
   omega
  ·exact hno i a hi (by omega)
 ·rcases hat i s hs with hs|⟨rfl,rfl⟩
  ·exact h.lo i s hs hi
  ·omega
 ·rcases hat i s hs with hs|⟨rfl,rfl⟩
  ·exact h.hi i s hs hi
  ·exact hr
 ·rcases hat i s hs with hs|⟨rfl,rfl⟩
  ·exact h.back i s hs
  ·omega
theorem DP.set {us:List U} {r b:Nat} {L:List RS} (h:DP d us r b L) {n o:RS} {k:Nat} (hk:L[k]?=some o) (hkb:b≤k) (hn:RSOK d us n) (hf:n.frm<b) (hb:b≤L.length) (h1:o.set=n.set) (h2:o.last=n.last) (ht:n.time≤o.time):DP d us r b (L.set k n)∧Lat b L (L.set k n):=by
 have hkl:=(List.getElem?_eq_some_iff.1 hk).1
 have hke:=(List.getElem?_eq_some_iff.1 hk).2
 have hat: ∀(i:Nat) s,(L.set k n)[i]?=some s→(i≠k∧L[i]?=some s)∨(i=k∧s=n):=fun i s hs=>by
  by_cases hik:k=i
  ·subst hik
   rw [List.getElem?_set_self hkl] at hs
   exact .inr ⟨rfl,by cases hs; rfl⟩
  ·rw [List.getElem?_set_ne hik] at hs
   exact .inl ⟨fun e=>hik e.symm,hs⟩
 have hpc:=h.hi k o hk hkb
 refine ⟨⟨fun s hs=> ?_,?_,fun i s hs hi=> ?_,fun i s hs hi=> ?_,fun i s hs=> ?_⟩,hb,?_,fun s hs=> ?_⟩
 ·rcases List.mem_or_eq_of_mem_set hs with hs|hs
  ·exact h.each s hs
  ·subst hs; exact hn
 ·rw [List.pairwise_iff_getElem]
  intro i j hi hj hij
  have hi':=List.getElem?_eq_getElem hi
  have hj':=List.getElem?_eq_getElem hj
  have key: ∀x y,L[i]?=some x→L[j]?=some y→ ¬(x.set=y.set∧x.last=y.last):=fun x y hx hy=>by
   obtain ⟨hx1,hx2⟩:=List.getElem?_eq_some_iff.1 hx
   obtain ⟨hy1,hy2⟩:=List.getElem?_eq_some_iff.1 hy
   have:=List.pairwise_iff_getElem.1 h.key i j hx1 hy1 hij
   rw [hx2,hy2] at this
   exact this
  rcases hat i _ hi' with ⟨_,hx⟩|⟨rfl,hx⟩<;>rcases hat j _ hj' with ⟨_,hy⟩|⟨rfl,hy⟩
  ·exact key _ _ hx hy
  ·rw [hy,←h1,←h2]; exact key _ _ hx hk
  ·rw [hx,←h1,←h2]; exact key _ _ hk hy
  ·omega
 ·rcases hat i s hs with ⟨_,hs⟩|⟨rfl,rfl⟩
  ·exact h.lo i s hs hi
  ·omega
 ·rcases hat i s hs with ⟨_,hs⟩|⟨rfl,rfl⟩
  ·exact h.hi i s hs hi
  ·rw [←h1]; exact hpc
 ·rcases hat i s hs with ⟨_,hs⟩|⟨rfl,rfl⟩
  ·exact h.back i s hs
  ·omega
 ·exact List.take_set_of_le hkb
 ·obtain ⟨i,hi⟩:=List.mem_iff_getElem?.1 hs
  by_cases hik:k=i
  ·subst hik
   rw [hk] at hi
   cases hi
   exact ⟨n,List.mem_iff_getElem?.2 ⟨k,List.getElem?_set_self hkl⟩,h1.symm,h2.symm,ht⟩
  ·exact ⟨s,List.mem_iff_getElem?.2 ⟨i,by rw [List.getElem?_set_ne hik]; exact hi⟩,rfl,rfl,Int.le_refl _⟩
theorem stOf_eq {us:List U} {s:RS} {u:U} (h:us[s.last]?=some u):stOf us s=(some u.exit,s.time+u.span):=by
 unfold stOf
 rw [h]
theorem pc_or {us:List U} {m i:Nat} (hi:i<us.length) (hm:m<2 ^ us.length) (h:m.testBit i=false):pc (m ||| 1 <<< i)=pc m+1∧m ||| 1 <<< i<2 ^ us.length:=by
 have h1:=pc_left us m hm
 have hlt:m ||| 1 <<< i<2 ^ us.length:=Nat.or_lt_two_pow hm (by rw [Nat.one_shiftLeft]; exact Nat.pow_lt_pow_right (by decide) hi)
 have h2:=pc_left us _ hlt
 have h3:=(left_cons (m:=m) h (List.getElem?_eq_getElem hi)).length_eq
 rw [List.length_cons] at h3
 exact ⟨by omega,hlt⟩
theorem RSOK.next {us:List U} (hw: ∀u∈us,0≤u.low∧u.low≤u.high∧u.high≤1000000) {s:RS} (h:RSOK d us s) {i:Nat} {u:U} (hu:us[i]?=some u) (hb:s.set.testBit i=false) (hc:CanB d (stOf us s) u) {k:Int} (hk: -1≤k) :
  RSOK d us ⟨beg d (stOf us s) u,i,s.set ||| 1 <<< i,k⟩∧pc (s.set ||| 1 <<< i)=pc s.set+1∧stOf us ⟨beg d (stOf us s) u,i,s.set ||| 1 <<< i,k⟩=nxt d (stOf us s) u:=by
 have hi:=(List.getElem?_eq_some_iff.1 hu).1
 obtain ⟨q1,q2⟩:=pc_or hi h.bits hb
 have e:stOf us ⟨beg d (stOf us s) u,i,s.set ||| 1 <<< i,k⟩=nxt d (stOf us s) u:=stOf_eq hu
 obtain ⟨w1,w2,w3⟩:=hw u (List.mem_of_getElem? hu)
 have hb1:beg d (stOf us s) u≤u.high:=by unfold beg; have:=hc.2; omega
 have hb0:u.low≤beg d (stOf us s) u:=by unfold beg; omega
 refine ⟨⟨hi,q2,?_,by show 0≤beg d (stOf us s) u; omega,by show beg d (stOf us s) u≤1000000; omega,hk⟩,q1,e⟩
 rw [e]
 show Way d us (s.set ||| 1 <<< i) (nxt d (stOf us s) u) (pc (s.set ||| 1 <<< i))
 rw [q1]
 exact h.way.step hu hb hc
def OpenP (d:Dist) (us:List U) (set:Nat) (s:St):Prop:= ∀(j:Nat) v,us[j]?=some v→set.testBit j=false→CanB d s v
def GoodR (d:Dist) (us:List U) (r:Nat) (L:List RS):Prop:= ∃s∈L,pc s.set=r∧Feas d (stOf us s) (left us s.set)
theorem DP.few {us:List U} {r b:Nat} {L:List RS} (h:DP d us r b L) (hu:us.length≤16):L.length≤1048576:=by
 have h1:(L.map fun s=>s.set*16+s.last).Nodup:=by
  rw [List.nodup_iff_pairwise_ne,List.pairwise_map]
  refine List.Pairwise.imp_of_mem ?_ h.key
  intro a c ha hc hk e
  have h1:=(h.each a ha).last
  have h2:=(h.each c hc).last
  apply hk
  omega
 have h2:=few_of_lt 1048576 _ h1 (fun x hx=>by
  obtain ⟨s,hs,rfl⟩:=List.mem_map.1 hx
  have h1:=(h.each s hs).last
  have h2:=(h.each s hs).bits
  have h3:2 ^ us.length≤2 ^ 16:=Nat.pow_le_pow_right (by decide) hu
  have h4:(2:Nat) ^ 16=65536:=by decide
  omega)
 simpa using h2
theorem DP.round {us:List U} {r b:Nat} {L:List RS} (h:DP d us r b L):DP d us (r+1) L.length L:=by
 refine ⟨h.each,h.key,fun i s hs hi=> ?_,fun i s hs hi=> ?_,h.back⟩
 ·by_cases hb:i<b
  ·have:=h.lo i s hs hb; omega
  ·exact Nat.le_of_eq (h.hi i s hs (by omega))
 ·have:=(List.getElem?_eq_some_iff.1 hs).1
  omega
def start1 (us:List U) (i:Nat):RS:=⟨((us[i]?).map (·.low)).getD 0,i,1 <<< i,-1⟩
def startL (us:List U) (k:Nat):List RS:=(List.range k).map (start1 us)
end Go.Ord
namespace Go.Proofs.YtobaafdejnimkaaGreatDoor
open Go.PF Go.RowKit Go.Ord
variable {d:Dist}
def Win (e:Ev) (t:Int):Prop:=0≤t∧t≤1000000∧e.low≤t∧t≤e.high
def Two (d:Dist) (l:List Ev) (ts:List Int) (j i:Nat):Prop:= ∀a s b t,l[j]?=some a→ts[j]?=some s→l[i]?=some b→ts[i]?=some t→Aft d (a,s) (b,t)∨Aft d (b,t) (a,s)
structure HoldsI (d:Dist) (l:List Ev) (ts:List Int):Prop where
 wf:WfE d l
 len:ts.length=l.length
 win: ∀(i:Nat) e t,l[i]?=some e→ts[i]?=some t→Win e t
 two: ∀j i,j<i→Two d l ts j i
theorem HoldsI.n {l:List Ev} {ts:List Int} (h:HoldsI d l ts):HoldsN d (l.zip ts):=by
 refine ⟨fun x hx=> ?_,List.pairwise_iff_getElem.2 fun i j hi hj hij=> ?_⟩
 ·obtain ⟨i,hi⟩:=List.mem_iff_getElem?.1 hx
  rw [List.getElem?_zip_eq_some] at hi
  exact h.win i _ _ hi.1 hi.2
 ·have hi':=List.getElem?_eq_getElem hi
  have hj':=List.getElem?_eq_getElem hj
  rw [List.getElem?_zip_eq_some] at hi' hj'
  exact h.two i j hij _ _ _ _ hi'.1 hi'.2 hj'.1 hj'.2
theorem HoldsI.poss {l:List Ev} {ts:List Int} (h:HoldsI d l ts):Poss d l:=⟨l.zip ts,by rw [List.map_fst_zip]; exact Nat.le_of_eq h.len.symm,h.n⟩
theorem Two.symm {d:Dist} {l:List Ev} {ts:List Int} {j i:Nat} (h:Two d l ts j i):Two d l ts i j:=fun a s b t h1 h2 h3 h4=>(h b t a s h3 h4 h1 h2).symm
def AftO (d:Dist) (a:Nat) (x:Int) (b:Nat) (y:Int):Prop:=at2 d a b≠ -1∧at2 d a b≤y-x
theorem aft_iff {e f:Ev} {x y:Int}:Aft d (e,x) (f,y)↔AftO d e.office.toNat x f.office.toNat y:=Iff.rfl
end Go.Proofs.YtobaafdejnimkaaGreatDoor
namespace Go.Proofs.YtobaafdejnimkaaGreatDoor
open Go.PF Go.RowKit Go.Ord
attribute [local irreducible] TW CW KW DW
variable {d:Dist} {w:World}
structure Nd where
 first:Int
 second:Int
 office:Int
 low:Int
 high:Int
 gap:Int
 endo:Int
def Nd.cells (x:Nd):List Value:= [.int .i64 x.first,.int .i64 x.second,.int .i64 x.office,.int .i64 x.low,.int .i64 x.high,.int .i64 x.gap,.int .i64 x.endo]
def Nd.u (x:Nd):U:=⟨x.low,x.high,x.gap,x.office.toNat,x.endo.toNat⟩
def ndT:Ty Nd where
 n:=7
 rep:=fun _ _ cs x=>cs=x.cells
 len:=fun _ _ _ _ h=>by rw [h]; rfl
 mono:=fun _ _ _ _ _ _ h=>h
 wider:=fun _ _ _ _ _ _ h=>h
def rsCells (s:RS):List Value:= [.int .i64 s.time,.int .i64 (s.last:Int),.int .i64 (s.set:Int),.int .i64 s.frm]
def rsT:Ty RS where
 n:=4
 rep:=fun _ _ cs x=>cs=rsCells x
 len:=fun _ _ _ _ h=>by rw [h]; rfl
 mono:=fun _ _ _ _ _ _ h=>h
 wider:=fun _ _ _ _ _ _ h=>h
structure NdOK (d:Dist) (m:Nat) (x:Nd):Prop where
 o0:0≤x.office
 e0:0≤x.endo
 g0:0≤x.gap
 g1:x.gap≤1000000
 w0:0≤x.low
 w1:x.low≤x.high
 w2:x.high≤1000000
 uok:UOK d x.u
 f0:0≤x.first
 f1:x.first<m
 s1:x.second<m
theorem NdOK.o1 {m:Nat} {x:Nd} (h:NdOK d m x):x.office.toNat<d.length:=h.uok.e1
theorem NdOK.e1 {m:Nat} {x:Nd} (h:NdOK d m x):x.endo.toNat<d.length:=h.uok.e2
abbrev usOf (ns:List Nd):List U:=ns.map Nd.u
abbrev RL (w:World) (v:Value) (L:List RS):Prop:=OwnS w 272 4 v L.length (L.flatMap rsCells)
theorem RL.sl {v:Value} {L:List RS} (h:RL w v L) (hL:L.length≤9223372036854775807):SL rsT (fun _=>True) w v L:=OwnS.toSL (T:=rsT) rsCells (fun _ _=>rfl) h (fun _ _=>trivial) hL
def Done (d:Dist) (us:List U) (s:RS) (L:List RS) (i:Nat):Prop:= ∀(j:Nat) v,j<i→us[j]?=some v→s.set.testBit j=false→CanB d (stOf us s) v→OpenP d us (s.set ||| 1 <<< j) (nxt d (stOf us s) v)→Has L (s.set ||| 1 <<< j) j (beg d (stOf us s) v)
def clipE (e:Ev):Ev:=if e.low>e.high∨e.low>1000000∨e.high<0 then {e with low:=1,high:=0} else {e with low:=max e.low 0,high:=min e.high 1000000}
def evV (e:Ev) (nv:Value):List Value:= [.int .i64 e.office,.int .i64 e.low,.int .i64 e.high,nv]
def nodeAt (i:Nat) (e:Ev):Nd:=⟨i,-1,e.office,(clipE e).low,(clipE e).high,0,e.office⟩
def nodesTo (l:List Ev) (k:Nat):List Nd:=(l.take k).mapIdx nodeAt
abbrev NL (w:World) (v:Value) (ns:List Nd):Prop:=OwnS w 270 7 v ns.length (ns.flatMap Nd.cells)
def nodeJ (n:Nat) (a b:Ev) (g:Int):Nd:=⟨n,n+1,a.office,max (clipE a).low ((clipE b).low-g),min (clipE a).high ((clipE b).high-g),g,b.office⟩
structure NodesJ (d:Dist) (rest:List Ev) (a b:Ev) (g:Int):Prop where
 leg:LegOK d a b g
 wa:lowC a≤highC a
 wb:lowC b≤highC b
 wj:(nodeJ 0 a b g).low≤(nodeJ 0 a b g).high
 each: ∀e∈rest,lowC e≤highC e
theorem oholds1_c {dv lv tv:Value} {l:List Ev} {ts:List Int} {F:Nat→Prop} {g1 g2 g3:Nat} (hd:SD w dv d) (hl:SE w lv l) (ht:SL intT F w tv ts) (hw:WfE d l) (hB1:Blk w g1 30 [dv]) (hB2:Blk w g2 31 [lv]) (hB3:Blk w g3 32 [tv])
 {i j:Nat} {a b:Ev} {s t:Int} (ha:l[i]?=some a) (hs:ts[i]?=some s) (hb:l[j]?=some b) (htt:ts[j]?=some t) (hws:0≤s∧s≤1000000) (hwt:0≤t∧t≤1000000) :
  Gives Tryz.prog 80 #[.int .i64 (i:Int),.int .i64 (j:Int),.pointer (some ⟨g1,0,none⟩),.pointer (some ⟨g2,0,none⟩),.pointer (some ⟨g3,0,none⟩)] w fun u w'=>Below w.heap.size w w'∧u= .bool (dec (Aft d (a,s) (b,t))):=by
 obtain ⟨A,cap,rfl,_⟩:=hd.form
 obtain ⟨B,bcap,rfl,_⟩:=hl.form
 obtain ⟨C,ccap,rfl,_⟩:=ht.form
 have hil:=(List.getElem?_eq_some_iff.1 ha).1
 have hjl:=(List.getElem?_eq_some_iff.1 hb).1
 have hil':=(List.getElem?_eq_some_iff.1 hs).1
 have hjl':=(List.getElem?_eq_some_iff.1 htt).1
 have hea:=hw.each a (List.mem_of_getElem? ha)
 have heb:=hw.each b (List.mem_of_getElem? hb)
 obtain ⟨ad,rfl⟩:=hl.addr (by omega)
 obtain ⟨td,rfl⟩:=ht.addr (by omega)
 obtain ⟨nv,hca,_,_,_,_⟩:=SE.get hl ha
 obtain ⟨nv',hcb,_,_,_,_⟩:=SE.get hl hb
 obtain ⟨ao,a1,a2,a3⟩:=a
 obtain ⟨bo,b1,b2,b3⟩:=b
 obtain ⟨o,rfl⟩: ∃o:Nat,ao=o:=⟨ao.toNat,by have:0≤ao:=hea.o1; omega⟩
 obtain ⟨p,rfl⟩: ∃o:Nat,bo=o:=⟨bo.toNat,by have:0≤bo:=heb.o1; omega⟩
 have ho:o<d.length:=by have:(o:Int)<d.length:=hea.o2; omega
 have hp:p<d.length:=by have:(p:Int)<d.length:=heb.o2; omega
 obtain ⟨r,hr⟩: ∃r,d[o]?=some r:=⟨d[o],List.getElem?_eq_getElem ho⟩
 have hrl:=hw.wd.row _ _ hr
 obtain ⟨z,hz⟩: ∃z,r[p]?=some z:=⟨r[p]'(by omega),List.getElem?_eq_getElem (by omega)⟩
 have hat:at2 d o p=z:=at2_eq hr hz
 have hrng:=hw.wd.rng o p ho hp
 rw [hat] at hrng
 obtain ⟨dd,rfl⟩:=hd.addr (by omega)
 obtain ⟨rv,hcell,hrow⟩:=hd.row hr
 obtain ⟨R,rcap,rfl,_⟩:=hrow.form
 obtain ⟨rd,rfl⟩:=hrow.addr (by omega)
 refine gv (f:=80) ?_
 refine rnT ?_
 refine CW.draw mixed (by kernel_rfl) ?_
 refine DW.ld rfl (hB1.cell 0) ?_
 refine DW.ld rfl (hB2.cell 0) ?_
 refine rnD ?_
 refine DW.ld rfl (hca 0 _ rfl) ?_
 refine rnD ?_
 refine DW.ld rfl hcell ?_
 refine DW.ld rfl (hB2.cell 0) ?_
 refine rnD ?_
 refine DW.ld rfl (hcb 0 _ rfl) ?_
 refine rnD ?_
 refine DW.ld rfl (hrow.getI hz) ?_
 refine rnD ?_
 refine DW.fi [0,1,2,3,4,7,8] rfl fun w1 c1=> ?_
 refine rnT ?_
 refine CW.draw mixed (by kernel_rfl) ?_
 refine rnD ?_
 have hB31:=hB3.next c1
 have ht1:=ht.below c1
 refine DW.ld rfl (hB31.cell 0) ?_
 refine rnD ?_
 refine DW.ld rfl (ht1.getI htt) ?_
 refine DW.ld rfl (hB31.cell 0) ?_
 refine rnD ?_
 refine DW.ld rfl (ht1.getI hs) ?_
 refine DW.v V.sub rfl ⟨id,id,trivial⟩ (fun _=>by omega) ?_
 refine rnD ?_
 refine DW.fi [0,1,2,3,4,7,8] rfl fun w2 c2=> ?_
 refine rnT ?_
 refine rt1 rfl ⟨c1.step c2,?_⟩
 congr 1
 rw [dec_congr aft_iff]
 show _=dec (AftO d o s p t)
 unfold AftO
 rw [hat,dec_eq_decide]
 by_cases h1:z ≥ 0
 ·by_cases h2:t-s ≥ z
  ·have h3:z≠ -1:=by omega
   simp [h1,h2,h3]
  ·simp [h1,h2]
 ·have h3:z= -1:=by omega
  simp [h1,h3]
theorem oholds_c {dv lv tv:Value} {l:List Ev} {ts:List Int} {F:Nat→Prop} (hd:SD w dv d) (hl:SE w lv l) (ht:SL intT F w tv ts) :
  Gives Tryz.prog 28 #[dv,lv,.slice none 0 0,tv] w fun u w'=>Below w.heap.size w w'∧u= .bool (dec (HoldsI d l ts)):=by
 obtain ⟨A,cap,rfl,_⟩:=hd.form
 obtain ⟨B,bcap,rfl,_⟩:=hl.form
 obtain ⟨C,ccap,rfl,_⟩:=ht.form
 have htmax:=ht.len.2.2
 have hlmax:=hl.len.2.2
 refine gv (f:=28) ?_
 refine rnT ?_
 refine TW.box rfl rfl rfl rfl ?_
 rintro g1 w1 f1
 refine TW.box rfl rfl rfl rfl ?_
 rintro g2 w2 f2
 refine TW.box rfl rfl rfl rfl ?_
 rintro g3 w3 f3
 refine rnT ?_
 refine TW.pk [0,1,2,3,4,5,7,8] rfl ?_
 have q2:=f1.below.step f2.below
 have q3:=q2.step f3.below
 have hB1:=(f1.blk.next f2.below).next f3.below
 have hB2:=f2.blk.next f3.below
 have hB3:=f3.blk
 have hd3:=sd_step hd q3
 have hl3:=se_step hl q3
 have ht3:=ht.below q3
 refine TW.ld rfl (hB1.cell 0) ?_
 refine TW.ld rfl (hB2.cell 0) ?_
 refine rnT ?_
 refine TW.cl rfl (owell_c hd3 hl3) ?_
 rintro y w4 ⟨c4,rfl⟩
 have q4:=q3.step c4
 have hB14:=hB1.next c4
 have hB24:=hB2.next c4
 have hB34:=hB3.next c4
 refine rnT ?_
 refine TW.ld rfl (hB34.cell 0) ?_
 refine rnT ?_
 refine TW.ld rfl (hB24.cell 0) ?_
 refine rnT ?_
 refine CW.cond rfl (fun hbad=> ?_) (fun hgood=> ?_)
 ·refine rnT ?_
  refine rt1 rfl ⟨q4,?_⟩
  rw [dec_neg]
  intro h
  simp [dec_pos h.wf] at hbad
  have:=h.len
  omega
 have hwf:WfE d l:=dec_iff.1 (by cases hq:dec (WfE d l)<;>simp_all)
 have hlen:ts.length=l.length:=by
  simp [dec_pos hwf] at hgood
  omega
 have hl16:=hwf.few
 have hd4:=sd_step hd3 c4
 have hl4:=se_step hl3 c4
 have ht4:=ht3.below c4
 refine rnT ?_
 refine TW.ld rfl (hB24.cell 0) ?_
 refine rnT ?_
 refine CW.lp [2,4,5,7,31,32] (fun k:Nat=> [(33,none,.int .i64 (k:Int))])
  (fun k W=>k≤l.length∧Below w4.heap.size w4 W∧ ∀(i:Nat) e t,i<k→l[i]?=some e→ts[i]?=some t→Win e t) (fun k=>l.length-k) 0 ⟨by omega,Below.refl _ _,fun i e t hi=>by omega⟩ ?_
 rintro k W ⟨hk,hB,hwin⟩
 refine rnT ?_
 refine CW.condP rfl (fun hlt=> ?_) (fun hge=> ?_)
 ·obtain ⟨e,he,hem⟩:=getx (l:=l) (k:=k) (by omega)
  obtain ⟨t,htt,_⟩:=getx (l:=ts) (k:=k) (by omega)
  have hlW:=se_step hl4 hB
  have htW:=ht4.below hB
  obtain ⟨ad,rfl⟩:=hlW.addr (by omega)
  obtain ⟨td,rfl⟩:=htW.addr (by omega)
  obtain ⟨nv,hcells,i1,i2,i3,hneeds⟩:=SE.get hlW he
  obtain ⟨N,ncap,rfl,_⟩:=hneeds.form
  have hBW:=hB34.next hB
  refine rnT ?_
  refine TW.ldS rfl (hcells) ?_
  refine TW.alloc rfl rfl zc60 ?_
  rintro g5 w5 f5
  refine rnT ?_
  refine TW.storeBlkF rfl rfl rfl f5.blk sz60 rfl rfl rfl ?_
  rintro w6 hB6 hbut6 hsz6
  refine rnT ?_
  refine CW.draw mixed (by kernel_rfl) ?_
  have ha5:=f5.at_
  have hs5:=f5.size
  have hW6:Below W.heap.size W w6:=f5.below.grown hbut6 f5.below.size (fun q hq=>by cases hq; omega)
  have hBW6:=hBW.next hW6
  have htW6:=htW.below hW6
  refine DW.ld rfl (hBW6.cell 0) ?_
  refine rnD ?_
  refine DW.ld rfl (htW6.getI htt) ?_
  refine rnD ?_
  refine DW.ld rfl (hB6.fld rfl) ?_
  refine DW.v V.maxI rfl ⟨ct,ct,trivial⟩ (fun _=>trivial) ?_
  refine rnD ?_
  refine DW.ld rfl (hBW6.cell 0) ?_
  refine rnD ?_
  refine DW.ld rfl (htW6.getI htt) ?_
  refine rnD ?_
  refine DW.ld rfl (hB6.fld rfl) ?_
  refine DW.v V.minI rfl ⟨id,ct,trivial⟩ (fun _=>trivial) ?_
  refine rnD ?_
  refine DW.fi [2,4,5,7,9,10,31,32,33,55] rfl fun w7 b7=> ?_
  refine KW.then_ ?_
  have hB7:=hB.step (hW6.step b7)
  refine CW.cond rfl (fun hbad2=> ?_) (fun hgood2=> ?_)
  ·refine rnT ?_
   refine rt1 rfl ⟨q4.step hB7,?_⟩
   rw [dec_neg]
   intro h
   obtain ⟨q1,q2,q3,q4⟩:=h.win k e t he htt
   simp at hbad2
   omega
  ·refine rnT ?_
   refine KW.rd (k+1) ⟨by omega,hB7,fun i e' t' hi he' ht'=> ?_⟩
   by_cases hik:i<k
   ·exact hwin i e' t' hik he' ht'
   ·have:i=k:=by omega
    subst this
    rw [he] at he'
    rw [htt] at ht'
    cases he'
    cases ht'
    simp at hgood2
    unfold Win
    omega
 have hwin': ∀(i:Nat) e t,l[i]?=some e→ts[i]?=some t→Win e t:=fun i e t h1 h2=>hwin i e t (by have:=(List.getElem?_eq_some_iff.1 h1).1; omega) h1 h2
 have hB2W:=hB24.next hB
 refine rnT ?_
 refine TW.makeFunc rfl rfl (Args.cons rfl ct (Args.cons rfl ct (Args.cons rfl ct Args.nil))) ?_
 refine rnT ?_
 refine TW.ld rfl (hB2W.cell 0) ?_
 refine rnT ?_
 refine CW.lp [2,11,59] (fun k:Nat=> [(60,none,.int .i64 (k:Int))])
  (fun k W=>k≤l.length∧Below w4.heap.size w4 W∧ ∀j i,j<i→i<k→Two d l ts j i) (fun k=>l.length-k) 0 ⟨by omega,hB,fun j i _ hi=>by omega⟩ ?_
 rintro i W2 ⟨hi,hB2',htwo⟩
 refine rnT ?_
 refine CW.pk [2,11,59,60,61] rfl ?_
 refine CW.condP rfl (fun hlt2=> ?_) (fun hge2=> ?_)
 ·refine rnT ?_
  refine CW.lp [2,11,12,59,60,63] (fun k:Nat=> [(64,none,.int .i64 (k:Int))])
   (fun k W=>k≤i∧Below w4.heap.size w4 W∧ ∀j,j<k→Two d l ts j i) (fun k=>i-k) 0 ⟨by omega,hB2',fun j hj=>by omega⟩ ?_
  rintro k W3 ⟨hk3,hB3',htw⟩
  refine rnT ?_
  refine CW.condP rfl (fun hlt3=> ?_) (fun hge3=> ?_)
  ·obtain ⟨e,he,hem⟩:=getx (l:=l) (k:=i) (by omega)
   obtain ⟨f,hf,hfm⟩:=getx (l:=l) (k:=k) (by omega)
   obtain ⟨t,htt,_⟩:=getx (l:=ts) (k:=i) (by omega)
   obtain ⟨s,hss,_⟩:=getx (l:=ts) (k:=k) (by omega)
   have hwe:=hwin' i e t he htt
   have hwf':=hwin' k f s hf hss
   have hte:0≤t∧t≤1000000:=⟨hwe.1,hwe.2.1⟩
   have htf:0≤s∧s≤1000000:=⟨hwf'.1,hwf'.2.1⟩
   refine rnT ?_
   refine TW.call0 rfl rfl en80 rfl (Args.cons rfl ct (Args.cons rfl ct Args.nil)) (oholds1_c (sd_step hd4 hB3') (se_step hl4 hB3') (ht4.below hB3') hwf (hB14.next hB3') (hB24.next hB3') (hB34.next hB3') hf hss he htt htf hte) ?_
   rintro y w5 ⟨c5,rfl⟩
   have hB5:=hB3'.step c5
   refine rnT ?_
   refine TW.callF rfl rfl en80 rfl id (Args.cons rfl id (Args.cons rfl id Args.nil)) (fun _=>oholds1_c (sd_step hd4 hB5) (se_step hl4 hB5) (ht4.below hB5) hwf (hB14.next hB5) (hB24.next hB5) (hB34.next hB5) he htt hf hss hte htf) ?_
   rintro w6 c6
   refine rnT ?_
   refine CW.pk [2,11,12,13,59,60,63,64,78] rfl ?_
   have hB6:=hB5.step c6
   refine CW.cond rfl (fun hbad3=> ?_) (fun hgood3=> ?_)
   ·refine rnT ?_
    refine rt1 rfl ⟨q4.step hB6,?_⟩
    rw [dec_neg]
    intro h
    have:=h.two k i (by omega) _ _ _ _ hf hss he htt
    rcases this with q|q
    ·simp [dec_pos q] at hbad3
    ·simp [dec_pos q] at hbad3
   ·refine rnT ?_
    refine KW.rd (k+1) ⟨by omega,hB6,fun j hj=> ?_⟩
    by_cases hjk:j<k
    ·exact htw j hjk
    ·have:j=k:=by omega
     subst this
     intro a' s' b' t' q1 q2 q3 q4
     rw [hf] at q1; rw [hss] at q2; rw [he] at q3; rw [htt] at q4
     cases q1; cases q2; cases q3; cases q4
     by_cases h1:Aft d (f,s) (e,t)
     ·exact .inl h1
     ·by_cases h2:Aft d (e,t) (f,s)
      ·exact .inr h2
      ·rw [dec_neg h1,dec_neg h2] at hgood3
       simp at hgood3
  ·refine rnT ?_
   refine KW.rd (i+1) ⟨by omega,hB3',fun j i' hj hi'=> ?_⟩
   by_cases hii:i'<i
   ·exact htwo j i' hj hii
   ·have:i'=i:=by omega
    subst this
    exact htw j (by omega)
 have hall:HoldsI d l ts:=⟨hwf,hlen,hwin',fun j i' hj=>by
  by_cases hii:i'<ts.length
  ·exact htwo j i' hj (by omega)
  ·intro a s b t _ _ _ h4
   rw [List.getElem?_eq_none (by omega)] at h4
   cases h4⟩
 refine rnT ?_
 refine CW.lp [2,81,82] (fun k:Nat=> [(83,none,.int .i64 (k:Int))])
  (fun k W=>k=0∧Below w4.heap.size w4 W) (fun k=>k) 0 ⟨rfl,hB2'⟩ ?_
 rintro k W5 ⟨rfl,hB5⟩
 refine rnT ?_
 refine CW.pk [2,81,82,83,84] rfl ?_
 refine CW.condP rfl (fun hlt5=> ?_) (fun hge5=> ?_)
 ·exact absurd hlt5 (by decide)
 refine rnT ?_
 refine rt1 rfl ⟨q4.step hB5,by rw [dec_pos hall]⟩
end Go.Proofs.YtobaafdejnimkaaGreatDoor
namespace Go.Proofs.YtobaafdejnimkaaGreatDoor
open Go.PF Go.RowKit Go.Ord
variable {W W':World} {b:Nat} {lv:Value} {rs:List (Value×List Int)}
structure Tab (W:World) (b:Nat) (lv:Value) (rs:List (Value×List Int)):Prop where
 own:OwnS W 32 1 lv rs.length (rs.map (·.1))
 lb: ∀g,lv.ownBlock=some g→b≤g
 row: ∀p∈rs,OwnS W 3 1 p.1 p.2.length (p.2.map (Value.int .i64))∧(∀x∈p.2,I64 x)∧ ∀g,p.1.ownBlock=some g→b≤g∧lv.ownBlock≠some g
 dis:rs.Pairwise fun p q=> ∀g,p.1.ownBlock=some g→q.1.ownBlock≠some g
theorem Tab.step (h:Tab W b lv rs) (hb:Below W.heap.size W W'):Tab W' b lv rs :=
 ⟨h.own.below hb,h.lb,fun p hp=>⟨(h.row p hp).1.below hb,(h.row p hp).2⟩,h.dis⟩
theorem Tab.sdF (h:Tab W b lv rs) (hs:rs.length≤1000) (hr: ∀p∈rs,p.2.length≤1000):SL (sliceT intT) (fun k=>b≤k∧k<W.heap.size) W lv (rs.map (·.2)):=by
 have key:SL (sliceT intT) (fun k=>b≤k∧k<W.heap.size) W lv ((rs.map fun p=>([p.1],p.2)).map (·.2)):=by
  refine OwnS.toSLp (T:=sliceT intT) (e:=32) (n:=rs.length) (rs.map fun p=>([p.1],p.2)) (fun q hq=> ?_) (by show 0<1; decide) ?_ (by simp) (fun g hg=>(⟨h.lb g hg,h.own.lt hg⟩:b≤g∧g<W.heap.size)) (by simp; omega)
  ·obtain ⟨p,hp,rfl⟩:=List.mem_map.1 hq
   obtain ⟨h1,h2,h3⟩:=h.row p hp
   exact ⟨p.1,rfl,OwnS.toInts h1 h2 (fun g hg=>(⟨(h3 g hg).1,h1.lt hg⟩:b≤g∧g<W.heap.size)) (by have:=hr p hp; show p.2.length≤_; omega)⟩
  ·have e:(rs.map fun p=>([p.1],p.2)).flatMap (·.1)=rs.map (·.1):=by
    clear h hs hr
    induction rs with
    | nil=>rfl
    | cons p rs ih=>simp only [List.map_cons,List.flatMap_cons,ih]; rfl
   rw [e]
   exact h.own
 rwa [List.map_map] at key
theorem Tab.sd (h:Tab W b lv rs) (hs:rs.length≤1000) (hr: ∀p∈rs,p.2.length≤1000):SD W lv (rs.map (·.2)):=(h.sdF hs hr).wider fun _ hk=>hk.2
theorem Tab.app {lv' rv:Value} {r:List Int} (h:Tab W b lv rs) (hO:OwnS W' 32 1 lv' (rs.length+1) (rs.map (·.1)++ [rv])) (hg:W.grownBy W' lv.ownBlock) (hn:lv'.ownBlock=lv.ownBlock∨lv'.ownBlock=some W.heap.size) (hb:b≤W.heap.size)
 (hr:OwnS W 3 1 rv r.length (r.map (Value.int .i64))) (hI: ∀x∈r,I64 x) (hrb: ∀g,rv.ownBlock=some g→b≤g∧lv.ownBlock≠some g) (hd: ∀p∈rs,∀g,p.1.ownBlock=some g→rv.ownBlock≠some g):Tab W' b lv' (rs++ [(rv,r)]):=by
 have out: ∀(v:Value) (n:Nat) (xs:List Value),OwnS W 3 1 v n xs→(∀g,v.ownBlock=some g→lv.ownBlock≠some g)→OwnS W' 3 1 v n xs∧ ∀g,v.ownBlock=some g→lv'.ownBlock≠some g:=by
  intro v n xs ho hne
  refine ⟨ho.kept fun g hg'=>hg.block g (ho.lt hg') (fun e=>hne g hg' e.symm),fun g hg' e=> ?_⟩
  rcases hn with h'|h'
  ·exact hne g hg' (by rw [←h']; exact e)
  ·rw [h'] at e; cases e; exact absurd (ho.lt hg') (Nat.lt_irrefl _)
 refine ⟨by simpa using hO,fun g hg'=> ?_,fun p hp=> ?_,?_⟩
 ·rcases hn with h'|h'
  ·exact h.lb g (by rw [←h']; exact hg')
  ·rw [h'] at hg'; cases hg'; exact hb
 ·rcases List.mem_append.1 hp with hp|hp
  ·obtain ⟨h1,h2,h3⟩:=h.row p hp
   obtain ⟨h4,h5⟩:=out _ _ _ h1 (fun g hg'=>(h3 g hg').2)
   exact ⟨h4,h2,fun g hg'=>⟨(h3 g hg').1,h5 g hg'⟩⟩
  ·rw [List.mem_singleton] at hp
   subst hp
   obtain ⟨h4,h5⟩:=out _ _ _ hr (fun g hg'=>(hrb g hg').2)
   exact ⟨h4,hI,fun g hg'=>⟨(hrb g hg').1,h5 g hg'⟩⟩
 ·refine List.pairwise_append.2 ⟨h.dis,List.pairwise_singleton _ _,fun p hp q hq=> ?_⟩
  rw [List.mem_singleton] at hq
  subst hq
  exact hd p hp
theorem Tab.set {W W':World} {b i:Nat} {lv rv:Value} {rs:List (Value×List Int)} {r r':List Int} {g:Nat} (h:Tab W b lv rs) (hi:rs[i]?=some (rv,r)) (hrv:rv.ownBlock=some g) (hb:But g W W') (hO:OwnS W' 3 1 rv r'.length (r'.map (Value.int .i64))) (hI: ∀x∈r',I64 x):Tab W' b lv (rs.set i (rv,r')):=by
 have hil:i<rs.length:=(List.getElem?_eq_some_iff.1 hi).1
 have hie:rs[i]=(rv,r):=(List.getElem?_eq_some_iff.1 hi).2
 have hm:=h.row (rv,r) (List.mem_of_getElem? hi)
 have hmap:(rs.set i (rv,r')).map (·.1)=rs.map (·.1):=by
  rw [List.map_set]
  apply List.ext_getElem?
  intro j
  rw [List.getElem?_set]
  split
  ·rename_i e
   subst e
   simp [hil,hie]
  ·rfl
 have hkeep: ∀k,k≠g→k<W.heap.size→W'.heap[k]?=W.heap[k]?:=fun k hk hlt=>hb.block k hlt (fun e=>hk (by cases e; rfl))
 refine ⟨by rw [hmap,List.length_set]; exact h.own.kept fun k hk=>hkeep k (fun e=>(hm.2.2 g hrv).2 (by rw [←e]; exact hk)) (h.own.lt hk),h.lb,fun p hp=> ?_,?_⟩
 ·obtain ⟨j,hj⟩:=List.mem_iff_getElem?.1 hp
  rw [List.getElem?_set] at hj
  by_cases hne:i=j
  ·subst hne
   simp [hil] at hj
   subst hj
   exact ⟨hO,hI,hm.2.2⟩
  ·rw [if_neg hne] at hj
   have hpm:=h.row p (List.mem_of_getElem? hj)
   refine ⟨hpm.1.kept fun k hk=>hkeep k (fun e=> ?_) (hpm.1.lt hk),hpm.2⟩
   subst e
   obtain ⟨hjl,hje⟩:=List.getElem?_eq_some_iff.1 hj
   rcases Nat.lt_or_gt_of_ne hne with hlt|hlt
   ·have:=List.pairwise_iff_getElem.1 h.dis i j hil hjl hlt
    rw [hie,hje] at this
    exact this k hrv hk
   ·have:=List.pairwise_iff_getElem.1 h.dis j i hjl hil hlt
    rw [hie,hje] at this
    exact this k hk hrv
 ·have h1:((rs.set i (rv,r')).map (·.1)).Pairwise fun p q=> ∀g,p.ownBlock=some g→q.ownBlock≠some g:=by
   rw [hmap,List.pairwise_map]
   exact h.dis
  rwa [List.pairwise_map] at h1
theorem Tab.nil {W:World} {b g:Nat} (hB:Blk W g 32 []) (hg:b≤g):Tab W b (.slice (some ⟨g,0,none⟩) 0 0) [] :=
 ⟨OwnS.of_blk hB rfl (by omega),(fun q hq=>by simp [Value.ownBlock] at hq; omega),(fun p hp=>by cases hp),List.Pairwise.nil⟩
theorem Tab.but {g:Nat} (h:Tab W b lv rs) (hb:But g W W') (h1:lv.ownBlock≠some g) (h2: ∀p∈rs,p.1.ownBlock≠some g):Tab W' b lv rs :=
 ⟨h.own.kept fun k hk=>hb.block k (h.own.lt hk) (fun e=>h1 (by rw [hk,e])),h.lb,fun p hp=>⟨(h.row p hp).1.kept fun k hk=>hb.block k ((h.row p hp).1.lt hk) (fun e=>h2 p hp (by rw [hk,e])),(h.row p hp).2⟩,h.dis⟩
theorem Tab.len (h:Tab W b lv rs):(rs.map (·.1)).length=rs.length:=List.length_map _
theorem Tab.put {i tg:Nat} {rv:Value} {r:List Int} (h:Tab W b lv rs) (hi:i<rs.length) (hlv:lv.ownBlock=some tg) (hb:But tg W W') (hO:OwnS W' 32 1 lv rs.length ((rs.map (·.1)).set i rv)) (hr:OwnS W' 3 1 rv r.length (r.map (Value.int .i64))) (hI: ∀x∈r,I64 x)
 (hrb: ∀g,rv.ownBlock=some g→b≤g∧lv.ownBlock≠some g) (hd: ∀p∈rs,∀g,p.1.ownBlock=some g→rv.ownBlock≠some g):Tab W' b lv (rs.set i (rv,r)):=by
 refine ⟨by rw [List.map_set,List.length_set]; exact hO,h.lb,fun p hp=> ?_,?_⟩
 ·rcases List.mem_or_eq_of_mem_set hp with hp|hp
  ·obtain ⟨h1,h2,h3⟩:=h.row p hp
   exact ⟨h1.kept fun k hk=>hb.block k (h1.lt hk) (fun e=>(h3 k hk).2 (by cases e; exact hlv)),h2,h3⟩
  ·subst hp
   exact ⟨hr,hI,hrb⟩
 ·rw [List.pairwise_iff_getElem]
  intro x y hx hy hxy
  have hx':x<rs.length:=by simpa using hx
  have hy':y<rs.length:=by simpa using hy
  rw [List.getElem_set,List.getElem_set]
  split
  ·rw [if_neg (by omega)]
   intro g hg e
   exact hd _ (List.getElem_mem hy') g e hg
  ·split
   ·intro g hg
    exact hd _ (List.getElem_mem hx') g hg
   ·exact List.pairwise_iff_getElem.1 h.dis x y hx' hy' hxy
theorem Tab.start {g n:Nat} (hB:Blk W g 32 (List.replicate n (.slice none 0 0))) (hg:b≤g) (hn:n≤9223372036854775807):Tab W b (.slice (some ⟨g,0,none⟩) n n) (List.replicate n (.slice none 0 0,[])):=by
 refine ⟨?_,(fun q hq=>by simp [Value.ownBlock] at hq; omega),(fun p hp=> ?_),?_⟩
 ·rw [List.length_replicate,List.map_replicate]
  exact OwnS.of_blk hB (by simp) hn
 ·rw [List.mem_replicate] at hp
  rw [hp.2]
  exact ⟨OwnS.nil _ _ _,(fun x hx=>by cases hx),(fun g hg=>by simp [Value.ownBlock] at hg)⟩
 ·rw [List.pairwise_iff_getElem]
  intro x y hx hy _
  simp [Value.ownBlock]
end Go.Proofs.YtobaafdejnimkaaGreatDoor
