/- Texts of this claim,joined. -/
import Derived.Test.YtobaafdejnimkaaGreatDoorQN
set_option linter.unusedSimpArgs false
set_option linter.unusedVariables false
set_option maxRecDepth 100000
set_option maxHeartbeats 4000000
namespace Go.Proofs.YtobaafdejnimkaaGreatDoor
open Go.PF Go.RowKit Go.Ord
attribute [local irreducible] TW CW KW DW
variable {w W W' w0:World} {N:Net} {v:NV} {i k n b g:Nat} {x:_} {r:List Int}
structure StrRow (W:World) (b:Nat) (v:Value) (l:List ByteArray):Prop where
 own:OwnS W 9 1 v l.length (l.map Value.string)
 lb: ∀g,v.ownBlock=some g→b≤g
theorem StrRow.below {W W':World} {b:Nat} {v:Value} {l:List ByteArray} (h:StrRow W b v l) (hb:Below W.heap.size W W'):StrRow W' b v l:=⟨h.own.below hb,h.lb⟩
theorem StrRow.form {W:World} {b:Nat} {v:Value} {l:List ByteArray} (h:StrRow W b v l): ∃A c,v= .slice A l.length c:=by
 obtain ⟨A,c,h1,_⟩:=h.own.form
 exact ⟨A,c,h1⟩
theorem StrRow.at {A:Option Addr} {c:Nat} {l:List ByteArray} {s:ByteArray} (h:StrRow W b (.slice A l.length c) l) (hs:l[i]?=some s): ∃g,A=some ⟨g,0,none⟩∧W.cell? (Addr.add ⟨g,0,none⟩ ((i:Int).toNat*1))=some (.string s):=by
 have hil:=(List.getElem?_eq_some_iff.1 hs).1
 obtain ⟨g,rfl⟩:=h.own.addr (by simp; omega)
 refine ⟨g,rfl,?_⟩
 rw [Nat.mul_one,Int.toNat_natCast]
 exact h.own.cell1 (by rw [List.getElem?_map,hs]; rfl)
theorem StrRow.app {W1:World} {v v':Value} {l:List ByteArray} {s:ByteArray} (h:StrRow W b v l) (hO:OwnS W' 9 1 v' (l.length+1) (l.map Value.string++ [.string s])) (hn:v'.ownBlock=v.ownBlock∨v'.ownBlock=some W1.heap.size) (hb:b≤W1.heap.size):StrRow W' b v' (l++ [s]):=by
 refine ⟨?_,new_own hn h.lb hb⟩
 rw [List.length_append,List.map_append]
 exact hO
theorem names1_c (hN:NetAt w v N) (hf:FewN N):Gives Tryz.prog 91 #[.agg v.cells.toArray,.int .i64 1] w fun u w'=>Below w.heap.size w w'∧StrRow w' w.heap.size u (calNm N):=by
 have hform:=NetIn.form hN
 obtain ⟨vc,vn,vo,vf,vl,vk⟩:=v
 obtain ⟨⟨A1,c1,e1⟩,⟨A2,c2,e2⟩,⟨A3,c3,e3⟩,⟨A4,c4,e4⟩,⟨A5,c5,e5⟩,⟨A6,c6,e6⟩⟩:=id hform
 dsimp only at e1 e2 e3 e4 e5 e6
 subst e1 e2 e3 e4 e5 e6
 have qc:=hf.c
 refine gv (f:=91) ?_
 refine rnT ?_
 refine TW.box rfl rfl rfl rfl ?_
 rintro g1 w1 f1
 refine rnT ?_
 have hB1:=f1.blk
 have hN1:=net_step hN f1.below
 have hb01:=f1.below.size
 refine CW.condP rfl (fun h1=> ?_) (fun n1=> ?_)
 ·refine rnT ?_
  refine CW.lp [2] (fun x:Nat×Value=> [(5,none,x.2),(6,none,.int .i64 (x.1:Int))])
   (fun x W=>x.1≤N.cals.length∧Below w1.heap.size w1 W∧StrRow W w1.heap.size x.2 ((calNm N).take x.1)) (fun x=>N.cals.length-x.1) (0,.slice none 0 0) ⟨Nat.zero_le _,Below.refl _ _,⟨OwnS.nil _ _ _,fun g hg=>by simp [Value.ownBlock] at hg⟩⟩ ?_
  rintro ⟨i,lv⟩ W ⟨hi,hB,hR⟩
  dsimp only at hi hR
  have hlen:(calNm N).length=N.cals.length:=calNm_len N
  have hti:((calNm N).take i).length=i:=by rw [List.length_take]; omega
  have hBW:=hB1.next hB
  have hbW:=hB.size
  obtain ⟨VA,vcap,rfl⟩:=hR.form
  refine rnT ?_
  refine TW.ld rfl (hBW.fld rfl) ?_
  refine rnT ?_
  refine CW.condP rfl (fun hlt=> ?_) (fun hge=> ?_)
  ·have hcel: ∀x,N.names[i]?=some x→ ∃ad,A2=some ad∧W.cell? (ad.add ((i:Int).toNat*1))=some (.string x):=fun x hx=>by
    have hnW:=hN1.n.below hB
    obtain ⟨ad,rfl⟩:=hnW.addr (by have:=(List.getElem?_eq_some_iff.1 hx).1; omega)
    exact ⟨ad,rfl,hnW.getT hx⟩
   refine rnT ?_
   refine TW.ld rfl (hBW.fld rfl) ?_
   refine rnT ?_
   refine CW.pk [2,5,6,25] rfl ?_
   refine CW.condP rfl (fun hin=> ?_) (fun hout=> ?_)
   ·obtain ⟨x,hx,_⟩:=getx (l:=N.names) (k:=i) (by omega)
    have hnm:(calNm N)[i]?=some x:=by
     unfold calNm
     rw [List.getElem?_map,List.getElem?_range (by omega)]
     simp [List.getD_eq_getElem?_getD,hx]
    obtain ⟨ad,rfl,hxc⟩:=hcel x hx
    refine rnT ?_
    refine TW.ld rfl (hBW.fld rfl) ?_
    refine rnT ?_
    refine TW.ld rfl hxc ?_
    refine TW.buildSlice 9 _ rfl rfl rfl eo23 (Args.cons rfl ct Args.nil) rfl rfl rfl rfl rfl ?_
    rintro g5 w5 f5
    have hR5:=hR.below f5.below
    have hb5:=f5.below.size
    refine TW.append [.string x] rfl rfl go23 rfl hR5.own rfl rfl (fun j u hj=>⟨_,rfl,f5.blk.fld hj⟩) (fun u hu=>by simp at hu; subst hu; rfl) (by omega) (by omega) ?_
    rintro lv' w6 o6 g6 n6
    refine rnT ?_
    have hW5:=hB.step f5.below
    have hR6:StrRow w6 w1.heap.size lv' ((calNm N).take (i+1)):=by
     rw [List.take_add_one,hnm]
     exact hR5.app o6 n6 (by omega)
    refine KW.rd (i+1,lv') ⟨by show i+1≤N.cals.length; omega,hW5.grown g6 hW5.size (fun q hq=>hR.lb q hq),hR6⟩
   ·have hnm:(calNm N)[i]?=some ⟨#[]⟩:=by
     unfold calNm
     rw [List.getElem?_map,List.getElem?_range (by omega)]
     simp [List.getD_eq_getElem?_getD,List.getElem?_eq_none (show N.names.length≤i by omega)]
    refine rnT ?_
    refine TW.buildSlice 9 _ rfl rfl rfl eo23 (Args.cons rfl ct Args.nil) rfl rfl rfl rfl rfl ?_
    rintro g5 w5 f5
    have hR5:=hR.below f5.below
    have hb5:=f5.below.size
    refine TW.append [.string ⟨#[]⟩] rfl rfl go23 rfl hR5.own rfl rfl (fun j u hj=>⟨_,rfl,f5.blk.fld hj⟩) (fun u hu=>by simp at hu; subst hu; rfl) (by omega) (by omega) ?_
    rintro lv' w6 o6 g6 n6
    refine rnT ?_
    have hW5:=hB.step f5.below
    have hR6:StrRow w6 w1.heap.size lv' ((calNm N).take (i+1)):=by
     rw [List.take_add_one,hnm]
     exact hR5.app o6 n6 (by omega)
    refine KW.rd (i+1,lv') ⟨by show i+1≤N.cals.length; omega,hW5.grown g6 hW5.size (fun q hq=>hR.lb q hq),hR6⟩
  ·have ht:(calNm N).take i=calNm N:=List.take_of_length_le (by omega)
   have hR':StrRow W w.heap.size (.slice VA ((calNm N).take i).length vcap) (calNm N):=⟨by
    have h9:=hR.own
    rw [ht] at h9 ⊢
    exact h9,fun g hg=>Nat.le_trans hb01 (hR.lb g hg)⟩
   refine rnT ?_
   refine rt1 rfl ⟨f1.below.step hB,hR'⟩
 ·exact absurd (by decide) n1
theorem names2_c (hN:NetAt w v N) (hf:FewN N):Gives Tryz.prog 91 #[.agg v.cells.toArray,.int .i64 2] w fun u w'=>Below w.heap.size w w'∧StrRow w' w.heap.size u (N.ops):=by
 have hform:=NetIn.form hN
 obtain ⟨vc,vn,vo,vf,vl,vk⟩:=v
 obtain ⟨⟨A1,c1,e1⟩,⟨A2,c2,e2⟩,⟨A3,c3,e3⟩,⟨A4,c4,e4⟩,⟨A5,c5,e5⟩,⟨A6,c6,e6⟩⟩:=id hform
 dsimp only at e1 e2 e3 e4 e5 e6
 subst e1 e2 e3 e4 e5 e6
 have qo:=hf.o
 refine gv (f:=91) ?_
 refine rnT ?_
 refine TW.box rfl rfl rfl rfl ?_
 rintro g1 w1 f1
 refine rnT ?_
 have hB1:=f1.blk
 have hN1:=net_step hN f1.below
 have hb01:=f1.below.size
 refine CW.condP rfl (fun h1=> ?_) (fun n1=> ?_)
 ·exact absurd h1 (by decide)
 refine rnT ?_
 refine CW.pk [0,1,2,4,5,11,37] rfl ?_
 refine CW.condP rfl (fun h2=> ?_) (fun n2=> ?_)
 ·refine rnT ?_
  refine CW.lp [2] (fun x:Nat×Value=> [(5,none,x.2),(7,none,.int .i64 (x.1:Int))])
   (fun x W=>x.1≤N.ops.length∧Below w1.heap.size w1 W∧StrRow W w1.heap.size x.2 ((N.ops).take x.1)) (fun x=>N.ops.length-x.1) (0,.slice none 0 0) ⟨Nat.zero_le _,Below.refl _ _,⟨OwnS.nil _ _ _,fun g hg=>by simp [Value.ownBlock] at hg⟩⟩ ?_
  rintro ⟨i,lv⟩ W ⟨hi,hB,hR⟩
  dsimp only at hi hR
  have hlen:(N.ops).length=N.ops.length:=rfl
  have hti:((N.ops).take i).length=i:=by rw [List.length_take]; omega
  have hBW:=hB1.next hB
  have hbW:=hB.size
  obtain ⟨VA,vcap,rfl⟩:=hR.form
  refine rnT ?_
  refine TW.ld rfl (hBW.fld rfl) ?_
  refine rnT ?_
  refine CW.condP rfl (fun hlt=> ?_) (fun hge=> ?_)
  ·obtain ⟨x,hx,_⟩:=getx (l:=N.ops) (k:=i) (by omega)
   have hnW:=hN1.o.below hB
   obtain ⟨ad,rfl⟩:=hnW.addr (by omega)
   obtain ⟨ad',cs,e9,hF9,hrep9,hc9⟩:=hnW.at hx
   cases e9
   obtain ⟨rfl,_⟩:=hrep9
   have hnm:(N.ops)[i]?=some x:=by exact hx
   refine rnT ?_
   refine TW.ld rfl (hBW.fld rfl) ?_
   refine rnT ?_
   refine TW.ld rfl (hc9 0 _ rfl) ?_
   refine TW.buildSlice 9 _ rfl rfl rfl eo23 (Args.cons rfl ct Args.nil) rfl rfl rfl rfl rfl ?_
   rintro g5 w5 f5
   have hR5:=hR.below f5.below
   have hb5:=f5.below.size
   refine TW.append [.string x] rfl rfl go23 rfl hR5.own rfl rfl (fun j u hj=>⟨_,rfl,f5.blk.fld hj⟩) (fun u hu=>by simp at hu; subst hu; rfl) (by omega) (by omega) ?_
   rintro lv' w6 o6 g6 n6
   refine rnT ?_
   have hW5:=hB.step f5.below
   have hR6:StrRow w6 w1.heap.size lv' ((N.ops).take (i+1)):=by
    rw [List.take_add_one,hnm]
    exact hR5.app o6 n6 (by omega)
   refine KW.rd (i+1,lv') ⟨by show i+1≤N.ops.length; omega,hW5.grown g6 hW5.size (fun q hq=>hR.lb q hq),hR6⟩
  ·have ht:(N.ops).take i=N.ops:=List.take_of_length_le (by omega)
   have hR':StrRow W w.heap.size (.slice VA ((N.ops).take i).length vcap) (N.ops):=⟨by
    have h9:=hR.own
    rw [ht] at h9 ⊢
    exact h9,fun g hg=>Nat.le_trans hb01 (hR.lb g hg)⟩
   refine rnT ?_
   refine rt1 rfl ⟨f1.below.step hB,hR'⟩
 ·exact absurd (by decide) n2
theorem names3_c (hN:NetAt w v N) (hf:FewN N):Gives Tryz.prog 91 #[.agg v.cells.toArray,.int .i64 3] w fun u w'=>Below w.heap.size w w'∧StrRow w' w.heap.size u (N.offs.map (·.name)):=by
 have hform:=NetIn.form hN
 obtain ⟨vc,vn,vo,vf,vl,vk⟩:=v
 obtain ⟨⟨A1,c1,e1⟩,⟨A2,c2,e2⟩,⟨A3,c3,e3⟩,⟨A4,c4,e4⟩,⟨A5,c5,e5⟩,⟨A6,c6,e6⟩⟩:=id hform
 dsimp only at e1 e2 e3 e4 e5 e6
 subst e1 e2 e3 e4 e5 e6
 have qf:=hf.f
 refine gv (f:=91) ?_
 refine rnT ?_
 refine TW.box rfl rfl rfl rfl ?_
 rintro g1 w1 f1
 refine rnT ?_
 have hB1:=f1.blk
 have hN1:=net_step hN f1.below
 have hb01:=f1.below.size
 refine CW.condP rfl (fun h1=> ?_) (fun n1=> ?_)
 ·exact absurd h1 (by decide)
 refine rnT ?_
 refine CW.condP rfl (fun h2=> ?_) (fun n2=> ?_)
 ·exact absurd h2 (by decide)
 refine rnT ?_
 refine CW.condP rfl (fun h3=> ?_) (fun n3=> ?_)
 ·refine rnT ?_
  refine CW.lp [2] (fun x:Nat×Value=> [(5,none,x.2),(8,none,.int .i64 (x.1:Int))])
   (fun x W=>x.1≤N.offs.length∧Below w1.heap.size w1 W∧StrRow W w1.heap.size x.2 ((N.offs.map (·.name)).take x.1)) (fun x=>N.offs.length-x.1) (0,.slice none 0 0) ⟨Nat.zero_le _,Below.refl _ _,⟨OwnS.nil _ _ _,fun g hg=>by simp [Value.ownBlock] at hg⟩⟩ ?_
  rintro ⟨i,lv⟩ W ⟨hi,hB,hR⟩
  dsimp only at hi hR
  have hlen:(N.offs.map (·.name)).length=N.offs.length:=List.length_map _
  have hti:((N.offs.map (·.name)).take i).length=i:=by rw [List.length_take]; omega
  have hBW:=hB1.next hB
  have hbW:=hB.size
  obtain ⟨VA,vcap,rfl⟩:=hR.form
  refine rnT ?_
  refine TW.ld rfl (hBW.fld rfl) ?_
  refine rnT ?_
  refine CW.pk [2,5,8,61] rfl ?_
  refine CW.condP rfl (fun hlt=> ?_) (fun hge=> ?_)
  ·obtain ⟨x,hx,_⟩:=getx (l:=N.offs) (k:=i) (by omega)
   have hnW:=hN1.f.below hB
   obtain ⟨ad,rfl⟩:=hnW.addr (by omega)
   obtain ⟨ad',cs,e9,hF9,hrep9,hc9⟩:=hnW.at hx
   cases e9
   obtain ⟨uv,rfl,_⟩:=hrep9
   have hnm:(N.offs.map (·.name))[i]?=some x.name:=by rw [List.getElem?_map,hx]; rfl
   refine rnT ?_
   refine TW.ld rfl (hBW.fld rfl) ?_
   refine rnT ?_
   refine TW.ld rfl (hc9 0 _ rfl) ?_
   refine TW.buildSlice 9 _ rfl rfl rfl eo23 (Args.cons rfl ct Args.nil) rfl rfl rfl rfl rfl ?_
   rintro g5 w5 f5
   have hR5:=hR.below f5.below
   have hb5:=f5.below.size
   refine TW.append [.string x.name] rfl rfl go23 rfl hR5.own rfl rfl (fun j u hj=>⟨_,rfl,f5.blk.fld hj⟩) (fun u hu=>by simp at hu; subst hu; rfl) (by omega) (by omega) ?_
   rintro lv' w6 o6 g6 n6
   refine rnT ?_
   have hW5:=hB.step f5.below
   have hR6:StrRow w6 w1.heap.size lv' ((N.offs.map (·.name)).take (i+1)):=by
    rw [List.take_add_one,hnm]
    exact hR5.app o6 n6 (by omega)
   refine KW.rd (i+1,lv') ⟨by show i+1≤N.offs.length; omega,hW5.grown g6 hW5.size (fun q hq=>hR.lb q hq),hR6⟩
  ·have ht:(N.offs.map (·.name)).take i=N.offs.map (·.name):=List.take_of_length_le (by omega)
   have hR':StrRow W w.heap.size (.slice VA ((N.offs.map (·.name)).take i).length vcap) (N.offs.map (·.name)):=⟨by
    have h9:=hR.own
    rw [ht] at h9 ⊢
    exact h9,fun g hg=>Nat.le_trans hb01 (hR.lb g hg)⟩
   refine rnT ?_
   refine rt1 rfl ⟨f1.below.step hB,hR'⟩
 ·exact absurd (by decide) n3
theorem names4_c (hN:NetAt w v N) (hf:FewN N):Gives Tryz.prog 91 #[.agg v.cells.toArray,.int .i64 4] w fun u w'=>Below w.heap.size w w'∧StrRow w' w.heap.size u (N.lines.map (·.name)):=by
 have hform:=NetIn.form hN
 obtain ⟨vc,vn,vo,vf,vl,vk⟩:=v
 obtain ⟨⟨A1,c1,e1⟩,⟨A2,c2,e2⟩,⟨A3,c3,e3⟩,⟨A4,c4,e4⟩,⟨A5,c5,e5⟩,⟨A6,c6,e6⟩⟩:=id hform
 dsimp only at e1 e2 e3 e4 e5 e6
 subst e1 e2 e3 e4 e5 e6
 have ql:=hf.l
 refine gv (f:=91) ?_
 refine rnT ?_
 refine TW.box rfl rfl rfl rfl ?_
 rintro g1 w1 f1
 refine rnT ?_
 have hB1:=f1.blk
 have hN1:=net_step hN f1.below
 have hb01:=f1.below.size
 refine CW.condP rfl (fun h1=> ?_) (fun n1=> ?_)
 ·exact absurd h1 (by decide)
 refine rnT ?_
 refine CW.condP rfl (fun h2=> ?_) (fun n2=> ?_)
 ·exact absurd h2 (by decide)
 refine rnT ?_
 refine CW.condP rfl (fun h3=> ?_) (fun n3=> ?_)
 ·exact absurd h3 (by decide)
 refine rnT ?_
 refine CW.condP rfl (fun h4=> ?_) (fun n4=> ?_)
 ·refine rnT ?_
  refine CW.lp [2] (fun x:Nat×Value=> [(5,none,x.2),(9,none,.int .i64 (x.1:Int))])
   (fun x W=>x.1≤N.lines.length∧Below w1.heap.size w1 W∧StrRow W w1.heap.size x.2 ((N.lines.map (·.name)).take x.1)) (fun x=>N.lines.length-x.1) (0,.slice none 0 0) ⟨Nat.zero_le _,Below.refl _ _,⟨OwnS.nil _ _ _,fun g hg=>by simp [Value.ownBlock] at hg⟩⟩ ?_
  rintro ⟨i,lv⟩ W ⟨hi,hB,hR⟩
  dsimp only at hi hR
  have hlen:(N.lines.map (·.name)).length=N.lines.length:=List.length_map _
  have hti:((N.lines.map (·.name)).take i).length=i:=by rw [List.length_take]; omega
  have hBW:=hB1.next hB
  have hbW:=hB.size
  obtain ⟨VA,vcap,rfl⟩:=hR.form
  refine rnT ?_
  refine TW.ld rfl (hBW.fld rfl) ?_
  refine rnT ?_
  refine CW.pk [2,5,9,79] rfl ?_
  refine CW.condP rfl (fun hlt=> ?_) (fun hge=> ?_)
  ·obtain ⟨x,hx,_⟩:=getx (l:=N.lines) (k:=i) (by omega)
   have hnW:=hN1.l.below hB
   obtain ⟨ad,rfl⟩:=hnW.addr (by omega)
   obtain ⟨ad',cs,e9,hF9,hrep9,hc9⟩:=hnW.at hx
   cases e9
   obtain ⟨rfl,_⟩:=hrep9
   have hnm:(N.lines.map (·.name))[i]?=some x.name:=by rw [List.getElem?_map,hx]; rfl
   refine rnT ?_
   refine TW.ld rfl (hBW.fld rfl) ?_
   refine rnT ?_
   refine TW.ld rfl (hc9 0 _ rfl) ?_
   refine TW.buildSlice 9 _ rfl rfl rfl eo23 (Args.cons rfl ct Args.nil) rfl rfl rfl rfl rfl ?_
   rintro g5 w5 f5
   have hR5:=hR.below f5.below
   have hb5:=f5.below.size
   refine TW.append [.string x.name] rfl rfl go23 rfl hR5.own rfl rfl (fun j u hj=>⟨_,rfl,f5.blk.fld hj⟩) (fun u hu=>by simp at hu; subst hu; rfl) (by omega) (by omega) ?_
   rintro lv' w6 o6 g6 n6
   refine rnT ?_
   have hW5:=hB.step f5.below
   have hR6:StrRow w6 w1.heap.size lv' ((N.lines.map (·.name)).take (i+1)):=by
    rw [List.take_add_one,hnm]
    exact hR5.app o6 n6 (by omega)
   refine KW.rd (i+1,lv') ⟨by show i+1≤N.lines.length; omega,hW5.grown g6 hW5.size (fun q hq=>hR.lb q hq),hR6⟩
  ·have ht:(N.lines.map (·.name)).take i=N.lines.map (·.name):=List.take_of_length_le (by omega)
   have hR':StrRow W w.heap.size (.slice VA ((N.lines.map (·.name)).take i).length vcap) (N.lines.map (·.name)):=⟨by
    have h9:=hR.own
    rw [ht] at h9 ⊢
    exact h9,fun g hg=>Nat.le_trans hb01 (hR.lb g hg)⟩
   refine rnT ?_
   refine rt1 rfl ⟨f1.below.step hB,hR'⟩
 ·exact absurd (by decide) n4
theorem names5_c (hN:NetAt w v N) (hf:FewN N):Gives Tryz.prog 91 #[.agg v.cells.toArray,.int .i64 5] w fun u w'=>Below w.heap.size w w'∧StrRow w' w.heap.size u (N.classes.map (·.name)):=by
 have hform:=NetIn.form hN
 obtain ⟨vc,vn,vo,vf,vl,vk⟩:=v
 obtain ⟨⟨A1,c1,e1⟩,⟨A2,c2,e2⟩,⟨A3,c3,e3⟩,⟨A4,c4,e4⟩,⟨A5,c5,e5⟩,⟨A6,c6,e6⟩⟩:=id hform
 dsimp only at e1 e2 e3 e4 e5 e6
 subst e1 e2 e3 e4 e5 e6
 have qk:=hf.k
 refine gv (f:=91) ?_
 refine rnT ?_
 refine TW.box rfl rfl rfl rfl ?_
 rintro g1 w1 f1
 refine rnT ?_
 have hB1:=f1.blk
 have hN1:=net_step hN f1.below
 have hb01:=f1.below.size
 refine CW.condP rfl (fun h1=> ?_) (fun n1=> ?_)
 ·exact absurd h1 (by decide)
 refine rnT ?_
 refine CW.condP rfl (fun h2=> ?_) (fun n2=> ?_)
 ·exact absurd h2 (by decide)
 refine rnT ?_
 refine CW.condP rfl (fun h3=> ?_) (fun n3=> ?_)
 ·exact absurd h3 (by decide)
 refine rnT ?_
 refine CW.condP rfl (fun h4=> ?_) (fun n4=> ?_)
 ·exact absurd h4 (by decide)
 refine rnT ?_
 refine CW.pk [0,1,2,4,5,11,91] rfl ?_
 refine CW.condP rfl (fun h5=> ?_) (fun n5=> ?_)
 ·refine rnT ?_
  refine CW.lp [2] (fun x:Nat×Value=> [(5,none,x.2),(10,none,.int .i64 (x.1:Int))])
   (fun x W=>x.1≤N.classes.length∧Below w1.heap.size w1 W∧StrRow W w1.heap.size x.2 ((N.classes.map (·.name)).take x.1)) (fun x=>N.classes.length-x.1) (0,.slice none 0 0) ⟨Nat.zero_le _,Below.refl _ _,⟨OwnS.nil _ _ _,fun g hg=>by simp [Value.ownBlock] at hg⟩⟩ ?_
  rintro ⟨i,lv⟩ W ⟨hi,hB,hR⟩
  dsimp only at hi hR
  have hlen:(N.classes.map (·.name)).length=N.classes.length:=List.length_map _
  have hti:((N.classes.map (·.name)).take i).length=i:=by rw [List.length_take]; omega
  have hBW:=hB1.next hB
  have hbW:=hB.size
  obtain ⟨VA,vcap,rfl⟩:=hR.form
  refine rnT ?_
  refine TW.ld rfl (hBW.fld rfl) ?_
  refine rnT ?_
  refine CW.condP rfl (fun hlt=> ?_) (fun hge=> ?_)
  ·obtain ⟨x,hx,_⟩:=getx (l:=N.classes) (k:=i) (by omega)
   have hnW:=hN1.k.below hB
   obtain ⟨ad,rfl⟩:=hnW.addr (by omega)
   obtain ⟨ad',cs,e9,hF9,hrep9,hc9⟩:=hnW.at hx
   cases e9
   obtain ⟨rfl,_⟩:=hrep9
   have hnm:(N.classes.map (·.name))[i]?=some x.name:=by rw [List.getElem?_map,hx]; rfl
   refine rnT ?_
   refine TW.ld rfl (hBW.fld rfl) ?_
   refine rnT ?_
   refine TW.ld rfl (hc9 0 _ rfl) ?_
   refine TW.buildSlice 9 _ rfl rfl rfl eo23 (Args.cons rfl ct Args.nil) rfl rfl rfl rfl rfl ?_
   rintro g5 w5 f5
   have hR5:=hR.below f5.below
   have hb5:=f5.below.size
   refine TW.append [.string x.name] rfl rfl go23 rfl hR5.own rfl rfl (fun j u hj=>⟨_,rfl,f5.blk.fld hj⟩) (fun u hu=>by simp at hu; subst hu; rfl) (by omega) (by omega) ?_
   rintro lv' w6 o6 g6 n6
   refine rnT ?_
   have hW5:=hB.step f5.below
   have hR6:StrRow w6 w1.heap.size lv' ((N.classes.map (·.name)).take (i+1)):=by
    rw [List.take_add_one,hnm]
    exact hR5.app o6 n6 (by omega)
   refine KW.rd (i+1,lv') ⟨by show i+1≤N.classes.length; omega,hW5.grown g6 hW5.size (fun q hq=>hR.lb q hq),hR6⟩
  ·have ht:(N.classes.map (·.name)).take i=N.classes.map (·.name):=List.take_of_length_le (by omega)
   have hR':StrRow W w.heap.size (.slice VA ((N.classes.map (·.name)).take i).length vcap) (N.classes.map (·.name)):=⟨by
    have h9:=hR.own
    rw [ht] at h9 ⊢
    exact h9,fun g hg=>Nat.le_trans hb01 (hR.lb g hg)⟩
   refine rnT ?_
   refine rt1 rfl ⟨f1.below.step hB,hR'⟩
 ·exact absurd (by decide) n5
theorem limit_c:Gives Tryz.prog 226 #[.int .i64 (k:Int)] w fun u w'=>Below w.heap.size w w'∧u= .int .i64 (limN k:Int):=by
 refine gv (f:=226) ?_
 refine rnT ?_
 refine CW.condP rfl (fun h3=> ?_) (fun n3=> ?_)
 ·refine rnT ?_
  have:k=3:=by omega
  subst this
  refine rt1 rfl ⟨Below.refl _ _,rfl⟩
 refine rnT ?_
 refine CW.condP rfl (fun h4=> ?_) (fun n4=> ?_)
 ·refine rnT ?_
  have:k=4:=by omega
  subst this
  refine rt1 rfl ⟨Below.refl _ _,rfl⟩
 refine rnT ?_
 refine CW.condP rfl (fun h5=> ?_) (fun n5=> ?_)
 ·refine rnT ?_
  have:k=5:=by omega
  subst this
  refine rt1 rfl ⟨Below.refl _ _,rfl⟩
 refine rnT ?_
 have e:limN k=6:=by
  unfold limN
  rw [if_neg (by omega),if_neg (by omega),if_neg (by omega)]
 rw [e]
 refine rt1 rfl ⟨Below.refl _ _,rfl⟩
theorem roffice_c {ov:Value} {o:Of} {F:Nat→Prop} (hN:NVform v N) (hf:FewN N) (h:OfIn F w ov o):Gives Tryz.prog 263 #[.agg v.cells.toArray,.agg (ofV o ov).toArray] w fun x w'=>Below w.heap.size w w'∧x= .bool (dec (OfOK N o)):=by
 obtain ⟨A,cap,rfl,_⟩:=h.cd.form
 obtain ⟨vc,vn,vo,vf,vl,vk⟩:=v
 obtain ⟨⟨A1,c1,e1⟩,_,⟨A3,c3,e3⟩,_,_,_⟩:=hN
 dsimp only at e1 e3
 subst e1 e3
 have qc:=hf.c
 have qo:=hf.o
 refine gv (f:=263) ?_
 refine rnT ?_
 refine TW.box rfl rfl rfl rfl ?_
 rintro g1 w1 f1
 refine TW.box rfl rfl rfl rfl ?_
 rintro g2 w2 f2
 refine rnT ?_
 have hB1:=f1.blk.next f2.below
 have hB2:=f2.blk
 have b2:=f1.below.step f2.below
 have hcd:=h.cd.below b2
 have hcl:=h.cd.len.2.2
 refine CW.lp [2,3] (fun k:Nat=> [(5,none,.int .i64 (k:Int))])
  (fun k W=>k≤o.codes.length∧Below w2.heap.size w2 W∧ ∀c∈o.codes.take k,CodeOK c) (fun k=>o.codes.length-k) 0 ⟨Nat.zero_le _,Below.refl _ _,fun c hc=>by simp at hc⟩ ?_
 rintro k W ⟨hk,hBW,hok⟩
 have hcW:=hcd.below hBW
 have hB1W:=hB1.next hBW
 have hB2W:=hB2.next hBW
 refine rnT ?_
 refine TW.ld rfl (hB2W.fld rfl) ?_
 refine rnT ?_
 refine CW.pk [2,3,5,11] rfl ?_
 refine CW.condP rfl (fun hlt=> ?_) (fun hge=> ?_)
 ·obtain ⟨c,hc,hcm⟩:=getx (l:=o.codes) (k:=k) (by omega)
  obtain ⟨ad,rfl⟩:=hcW.addr (by omega)
  refine rnT ?_
  refine TW.ld rfl (hB2W.fld rfl) ?_
  refine rnT ?_
  refine TW.ld rfl (hcW.getT hc) ?_
  refine TW.cl rfl (rcode_c) ?_
  rintro y5 w5 ⟨d5,rfl⟩
  refine rnT ?_
  refine CW.cond rfl (fun hb1=> ?_) (fun hb2=> ?_)
  ·refine rnT ?_
   refine rt1 rfl ⟨(b2.step hBW).step d5,?_⟩
   rw [dec_neg fun h=> ?_]
   rw [dec_pos (h.codes c hcm)] at hb1
   simp at hb1
  ·refine rnT ?_
   refine KW.rd (k+1) ⟨by omega,hBW.step d5,fun z hz=> ?_⟩
   rw [List.take_add_one,hc] at hz
   rcases List.mem_append.1 hz with hz|hz
   ·exact hok z hz
   ·simp at hz
    subst hz
    exact dec_iff.1 (by simpa using hb2)
 ·rw [List.take_of_length_le (by omega)] at hok
  refine rnT ?_
  refine TW.ld rfl (hB2W.fld rfl) ?_
  refine rnT ?_
  refine TW.ld rfl (hB2W.fld rfl) ?_
  refine rnT ?_
  refine TW.ld rfl (hB1W.fld rfl) ?_
  refine rnT ?_
  refine TW.callF (cap:= []) rfl rfl en104 rfl ct (Args.cons rfl id (Args.cons rfl ct (Args.cons rfl id Args.nil))) (fun _=>between_c) ?_
  rintro w5 d5
  refine rnT ?_
  have hB15:=hB1W.next d5
  have hB25:=hB2W.next d5
  refine TW.ld rfl (hB25.fld rfl) ?_
  refine rnT ?_
  refine TW.ld rfl (hB15.fld rfl) ?_
  refine rnT ?_
  refine TW.callF (cap:= []) rfl rfl en104 rfl ct (Args.cons rfl id (Args.cons rfl ct (Args.cons rfl id Args.nil))) (fun _=>between_c) ?_
  rintro w6 d6
  refine rnT ?_
  have hB26:=hB25.next d6
  refine TW.ld rfl (hB26.fld rfl) ?_
  refine TW.callF (cap:= []) rfl rfl en104 rfl ct (Args.cons rfl id (Args.cons rfl ct (Args.cons rfl ct Args.nil))) (fun _=>between_c) ?_
  rintro w7 d7
  refine rnT ?_
  have hB27:=hB26.next d7
  refine TW.ld rfl (hB27.fld rfl) ?_
  refine TW.callF (cap:= []) rfl rfl en104 rfl ct (Args.cons rfl id (Args.cons rfl ct (Args.cons rfl ct Args.nil))) (fun _=>between_c) ?_
  rintro w8 d8
  refine rnT ?_
  have hB28:=hB27.next d8
  refine TW.ld rfl (hB28.fld rfl) ?_
  refine TW.callF (cap:= []) rfl rfl en104 rfl ct (Args.cons rfl id (Args.cons rfl ct (Args.cons rfl ct Args.nil))) (fun _=>between_c) ?_
  rintro w9 d9
  refine rnT ?_
  refine rt1 rfl ⟨(((((b2.step hBW).step d5).step d6).step d7).step d8).step d9,?_⟩
  by_cases hq:OfOK N o
  ·rw [dec_pos hq]
   have q1:=hq.p1
   have q2:=hq.p2
   have q3:=hq.q1
   have q4:=hq.q2
   have q5:=hq.m1
   have q6:=hq.m2
   have q7:=hq.o1
   have q8:=hq.o2
   have q9:=hq.c1
   have qa:=hq.c2
   have qb:=hq.few
   simp [q1,q2,q3,q4,q5,q6,q7,q9]
   omega
  ·rw [dec_neg hq]
   have: ¬((((((o.codes.length:Int)≤20∧0≤o.op∧o.op≤(N.ops.length:Int)-1)∧0≤o.cal∧o.cal≤(N.cals.length:Int)-1)∧2≤o.pock∧o.pock≤64)∧1≤o.pass∧o.pass≤4)∧1≤o.mins∧o.mins≤240):=fun ⟨⟨⟨⟨⟨h1,h2,h3⟩,h4,h5⟩,h6,h7⟩,h8,h9⟩,ha,hb⟩=>hq ⟨h2,by omega,h4,by omega,by omega,hok,h6,h7,h8,h9,ha,hb⟩
   congr 1
   simp only [Bool.and_eq_false_iff,decide_eq_false_iff_not]
   omega
theorem rline_c {l:Li} (hN:NVform v N) (hf:FewN N):Gives Tryz.prog 264 #[.agg v.cells.toArray,.agg (liV l).toArray] w fun x w'=>Below w.heap.size w w'∧x= .bool (dec (LiOK N l)):=by
 obtain ⟨vc,vn,vo,vf,vl,vk⟩:=v
 obtain ⟨_,_,_,⟨A4,c4,e4⟩,_,_⟩:=hN
 dsimp only at e4
 subst e4
 have qf:=hf.f
 refine gv (f:=264) ?_
 refine rnT ?_
 refine TW.box rfl rfl rfl rfl ?_
 rintro g1 w1 f1
 refine TW.box rfl rfl rfl rfl ?_
 rintro g2 w2 f2
 refine rnT ?_
 have hB1:=f1.blk.next f2.below
 have hB2:=f2.blk
 have b2:=f1.below.step f2.below
 refine TW.ld rfl (hB1.fld rfl) ?_
 refine rnT ?_
 refine TW.ld rfl (hB2.fld rfl) ?_
 refine rnT ?_
 refine TW.cl rfl (between_c) ?_
 rintro y3 w3 ⟨d3,rfl⟩
 have hB23:=hB2.next d3
 refine rnT ?_
 refine TW.ld rfl (hB23.fld rfl) ?_
 refine rnT ?_
 refine TW.callF (cap:= []) rfl rfl en104 rfl ct (Args.cons rfl id (Args.cons rfl ct (Args.cons rfl id Args.nil))) (fun _=>between_c) ?_
 rintro w4 d4
 refine rnT ?_
 have hB24:=hB23.next d4
 have b4:=(b2.step d3).step d4
 refine TW.ld rfl (hB24.fld rfl) ?_
 refine rnT ?_
 refine TW.ld rfl (hB24.fld rfl) ?_
 refine rnT ?_
 refine TW.ld rfl (hB24.fld rfl) ?_
 refine TW.callF (cap:= []) rfl rfl en104 rfl ct (Args.cons rfl id (Args.cons rfl ct (Args.cons rfl ct Args.nil))) (fun _=>between_c) ?_
 rintro w5 d5
 refine rnT ?_
 have hB25:=hB24.next d5
 refine TW.ld rfl (hB25.fld rfl) ?_
 refine TW.callF (cap:= []) rfl rfl en104 rfl ct (Args.cons rfl id (Args.cons rfl ct (Args.cons rfl ct Args.nil))) (fun _=>between_c) ?_
 rintro w6 d6
 refine rnT ?_
 have hB26:=hB25.next d6
 refine TW.ld rfl (hB26.fld rfl) ?_
 refine TW.callF (cap:= []) rfl rfl en104 rfl ct (Args.cons rfl id (Args.cons rfl ct (Args.cons rfl ct Args.nil))) (fun _=>between_c) ?_
 rintro w7 d7
 refine rnT ?_
 refine rt1 rfl ⟨((b4.step d5).step d6).step d7,?_⟩
 by_cases hq:LiOK N l
 ·rw [dec_pos hq]
  have q1:=hq.a1
  have q2:=hq.a2
  have q3:=hq.r1
  have q4:=hq.r2
  have q5:=hq.d1
  have q6:=hq.d2
  have q7:=hq.f1
  have q8:=hq.f2
  have q9:=hq.t1
  have qa:=hq.t2
  have qb:=hq.ne
  simp [q1,q2,q3,q4,q5,q6,q7,q9,qb]
  omega
 ·rw [dec_neg hq]
  have: ¬((((((0≤l.frm∧l.frm≤(N.offs.length:Int)-1)∧0≤l.to∧l.to≤(N.offs.length:Int)-1)∧l.frm≠l.to)∧0≤l.at_∧l.at_≤1439)∧1≤l.trav∧l.trav≤5000)∧1≤l.load∧l.load≤40):=fun ⟨⟨⟨⟨⟨⟨h1,h2⟩,h3,h4⟩,h5⟩,h6,h7⟩,h8,h9⟩,ha,hb⟩=>hq ⟨h1,by omega,h3,by omega,h5,h6,h7,h8,h9,ha,hb⟩
  congr 1
  simp only [Bool.and_eq_false_iff,decide_eq_false_iff_not]
  omega
theorem numbers1_c (hN:NetAt w v N) (hf:FewN N) (hx:N.cals[i]?=some x):Gives Tryz.prog 249 #[.agg v.cells.toArray,.int .i64 1,.int .i64 (i:Int)] w fun u w'=>Below w.heap.size w w'∧u= .bool (dec (CalOK x)):=by
 have hform:=NetIn.form hN
 obtain ⟨vc,vn,vo,vf,vl,vk⟩:=v
 obtain ⟨⟨A1,c1,e1⟩,⟨A2,c2,e2⟩,⟨A3,c3,e3⟩,⟨A4,c4,e4⟩,⟨A5,c5,e5⟩,⟨A6,c6,e6⟩⟩:=id hform
 dsimp only at e1 e2 e3 e4 e5 e6
 subst e1 e2 e3 e4 e5 e6
 have hil:=(List.getElem?_eq_some_iff.1 hx).1
 refine gv (f:=249) ?_
 refine rnT ?_
 refine TW.box rfl rfl rfl rfl ?_
 rintro g1 w1 f1
 refine rnT ?_
 have hB1:=f1.blk
 have hN1:=net_step hN f1.below
 refine CW.condP rfl (fun h1=> ?_) (fun n1=> ?_)
 ·have hnW:=hN1.c
  obtain ⟨ad,rfl⟩:=hnW.addr (by omega)
  obtain ⟨ad',cs,e9,hF9,hrep9,hc9⟩:=hnW.at hx
  cases e9
  obtain ⟨u1,u2,rfl,q1,q2,q3⟩:=hrep9
  refine rnT ?_
  refine TW.ld rfl (hB1.fld rfl) ?_
  refine rnT ?_
  refine TW.ldS rfl (hc9) ?_
  refine TW.cl rfl (rcalValid_c (u:=u1) (v:=u2) ⟨q1,q2,q3⟩) ?_
  rintro y5 w5 ⟨d5,rfl⟩
  refine rnT ?_
  refine rt1 rfl ⟨f1.below.step d5,rfl⟩
 ·exact absurd (by decide) n1
theorem numbers2_c (hN:NetAt w v N) (hf:FewN N) (hx:N.ops[i]?=some x):Gives Tryz.prog 249 #[.agg v.cells.toArray,.int .i64 2,.int .i64 (i:Int)] w fun u w'=>Below w.heap.size w w'∧u= .bool (dec (True)):=by
 have hform:=NetIn.form hN
 obtain ⟨vc,vn,vo,vf,vl,vk⟩:=v
 obtain ⟨⟨A1,c1,e1⟩,⟨A2,c2,e2⟩,⟨A3,c3,e3⟩,⟨A4,c4,e4⟩,⟨A5,c5,e5⟩,⟨A6,c6,e6⟩⟩:=id hform
 dsimp only at e1 e2 e3 e4 e5 e6
 subst e1 e2 e3 e4 e5 e6
 have hil:=(List.getElem?_eq_some_iff.1 hx).1
 refine gv (f:=249) ?_
 refine rnT ?_
 refine TW.box rfl rfl rfl rfl ?_
 rintro g1 w1 f1
 refine rnT ?_
 have hB1:=f1.blk
 have hN1:=net_step hN f1.below
 refine CW.condP rfl (fun h1=> ?_) (fun n1=> ?_)
 ·exact absurd h1 (by decide)
 refine rnT ?_
 refine CW.pk [0,1,2,3,6,7,16] rfl ?_
 refine CW.condP rfl (fun h3=> ?_) (fun n3=> ?_)
 ·exact absurd h3 (by decide)
 refine rnT ?_
 refine CW.condP rfl (fun h4=> ?_) (fun n4=> ?_)
 ·exact absurd h4 (by decide)
 refine rnT ?_
 refine CW.condP rfl (fun h5=> ?_) (fun n5=> ?_)
 ·exact absurd h5 (by decide)
 refine rnT ?_
 refine rt1 rfl ⟨f1.below,by rw [dec_pos trivial]⟩
theorem numbers3_c (hN:NetAt w v N) (hf:FewN N) (hx:N.offs[i]?=some x):Gives Tryz.prog 249 #[.agg v.cells.toArray,.int .i64 3,.int .i64 (i:Int)] w fun u w'=>Below w.heap.size w w'∧u= .bool (dec (OfOK N x)):=by
 have hform:=NetIn.form hN
 obtain ⟨vc,vn,vo,vf,vl,vk⟩:=v
 obtain ⟨⟨A1,c1,e1⟩,⟨A2,c2,e2⟩,⟨A3,c3,e3⟩,⟨A4,c4,e4⟩,⟨A5,c5,e5⟩,⟨A6,c6,e6⟩⟩:=id hform
 dsimp only at e1 e2 e3 e4 e5 e6
 subst e1 e2 e3 e4 e5 e6
 have hil:=(List.getElem?_eq_some_iff.1 hx).1
 refine gv (f:=249) ?_
 refine rnT ?_
 refine TW.box rfl rfl rfl rfl ?_
 rintro g1 w1 f1
 refine rnT ?_
 have hB1:=f1.blk
 have hN1:=net_step hN f1.below
 refine CW.condP rfl (fun h1=> ?_) (fun n1=> ?_)
 ·exact absurd h1 (by decide)
 refine rnT ?_
 refine CW.pk [0,1,2,3,6,7,16] rfl ?_
 refine CW.condP rfl (fun h3=> ?_) (fun n3=> ?_)
 ·have hnW:=hN1.f
  obtain ⟨ad,rfl⟩:=hnW.addr (by omega)
  obtain ⟨ad',cs,e9,hF9,hrep9,hc9⟩:=hnW.at hx
  cases e9
  obtain ⟨u1,rfl,q1,q2,q3,q4,q5,q6,q7⟩:=hrep9
  have h9:OfIn _ w1 u1 x:=⟨q1,q2,q3,q4,q5,q6,q7⟩
  refine CW.seq ?_
  refine CW.draw mixed (by kernel_rfl) ?_
  refine DW.ldS rfl (fun _ _ hv=>hB1.fld hv) ?_
  refine rnD ?_
  refine DW.ld rfl (hB1.fld rfl) ?_
  refine rnD ?_
  refine DW.ldS rfl (hc9) ?_
  refine DW.cl (.ex (.bool (dec (OfOK N x)))) trivial rfl (fun _ w' hb'=>(roffice_c hform hf (h9.below hb')).mono fun u w'' ⟨p1,p2⟩=>⟨p1,p2⟩) ?_
  refine rnD ?_
  refine DW.fi [0,1,2,3,6,7] rfl fun w7 b7=> ?_
  refine rnT ?_
  refine rt1 rfl ⟨f1.below.step b7,rfl⟩
 ·exact absurd (by decide) n3
theorem numbers4_c (hN:NetAt w v N) (hf:FewN N) (hx:N.lines[i]?=some x):Gives Tryz.prog 249 #[.agg v.cells.toArray,.int .i64 4,.int .i64 (i:Int)] w fun u w'=>Below w.heap.size w w'∧u= .bool (dec (LiOK N x)):=by
 have hform:=NetIn.form hN
 obtain ⟨vc,vn,vo,vf,vl,vk⟩:=v
 obtain ⟨⟨A1,c1,e1⟩,⟨A2,c2,e2⟩,⟨A3,c3,e3⟩,⟨A4,c4,e4⟩,⟨A5,c5,e5⟩,⟨A6,c6,e6⟩⟩:=id hform
 dsimp only at e1 e2 e3 e4 e5 e6
 subst e1 e2 e3 e4 e5 e6
 have hil:=(List.getElem?_eq_some_iff.1 hx).1
 refine gv (f:=249) ?_
 refine rnT ?_
 refine TW.box rfl rfl rfl rfl ?_
 rintro g1 w1 f1
 refine rnT ?_
 refine CW.pk [0,1,2,3,6,7,8] rfl ?_
 have hB1:=f1.blk
 have hN1:=net_step hN f1.below
 refine CW.condP rfl (fun h1=> ?_) (fun n1=> ?_)
 ·exact absurd h1 (by decide)
 refine rnT ?_
 refine CW.condP rfl (fun h3=> ?_) (fun n3=> ?_)
 ·exact absurd h3 (by decide)
 refine rnT ?_
 refine CW.condP rfl (fun h4=> ?_) (fun n4=> ?_)
 ·have hnW:=hN1.l
  obtain ⟨ad,rfl⟩:=hnW.addr (by omega)
  obtain ⟨ad',cs,e9,hF9,hrep9,hc9⟩:=hnW.at hx
  cases e9
  obtain ⟨rfl,q1⟩:=hrep9
  refine CW.seq ?_
  refine CW.draw mixed (by kernel_rfl) ?_
  refine DW.ldS rfl (fun _ _ hv=>hB1.fld hv) ?_
  refine rnD ?_
  refine DW.ld rfl (hB1.fld rfl) ?_
  refine rnD ?_
  refine DW.ldS rfl (hc9) ?_
  refine DW.cl (.ex (.bool (dec (LiOK N x)))) trivial rfl (fun _ w' hb'=>(rline_c hform hf).mono fun u w'' ⟨p1,p2⟩=>⟨p1,p2⟩) ?_
  refine rnD ?_
  refine DW.fi [0,1,2,3,6,7] rfl fun w7 b7=> ?_
  refine rnT ?_
  refine rt1 rfl ⟨f1.below.step b7,rfl⟩
 ·exact absurd (by decide) n4
theorem numbers5_c (hN:NetAt w v N) (hf:FewN N) (hx:N.classes[i]?=some x):Gives Tryz.prog 249 #[.agg v.cells.toArray,.int .i64 5,.int .i64 (i:Int)] w fun u w'=>Below w.heap.size w w'∧u= .bool (dec (ClaOK x)):=by
 have hform:=NetIn.form hN
 obtain ⟨vc,vn,vo,vf,vl,vk⟩:=v
 obtain ⟨⟨A1,c1,e1⟩,⟨A2,c2,e2⟩,⟨A3,c3,e3⟩,⟨A4,c4,e4⟩,⟨A5,c5,e5⟩,⟨A6,c6,e6⟩⟩:=id hform
 dsimp only at e1 e2 e3 e4 e5 e6
 subst e1 e2 e3 e4 e5 e6
 have hil:=(List.getElem?_eq_some_iff.1 hx).1
 refine gv (f:=249) ?_
 refine rnT ?_
 refine TW.box rfl rfl rfl rfl ?_
 rintro g1 w1 f1
 refine rnT ?_
 refine CW.pk [0,1,2,3,6,7,8] rfl ?_
 have hB1:=f1.blk
 have hN1:=net_step hN f1.below
 refine CW.condP rfl (fun h1=> ?_) (fun n1=> ?_)
 ·exact absurd h1 (by decide)
 refine rnT ?_
 refine CW.condP rfl (fun h3=> ?_) (fun n3=> ?_)
 ·exact absurd h3 (by decide)
 refine rnT ?_
 refine CW.condP rfl (fun h4=> ?_) (fun n4=> ?_)
 ·exact absurd h4 (by decide)
 refine rnT ?_
 refine CW.condP rfl (fun h5=> ?_) (fun n5=> ?_)
 ·have hnW:=hN1.k
  obtain ⟨ad,rfl⟩:=hnW.addr (by omega)
  obtain ⟨ad',cs,e9,hF9,hrep9,hc9⟩:=hnW.at hx
  cases e9
  obtain ⟨rfl,q1⟩:=hrep9
  refine rnT ?_
  refine TW.ld rfl (hB1.fld rfl) ?_
  refine rnT ?_
  refine TW.ld rfl (hc9 1 _ rfl) ?_
  refine TW.cl rfl (between_c) ?_
  rintro y5 w5 ⟨d5,rfl⟩
  have hB5:=hB1.next d5
  have hc95:w5.cell? (Addr.add (Addr.add ad ((i:Int).toNat*3)) 2)=some (.int .i64 x.del):=by
   have h9:=hc9 2 _ rfl
   exact (d5.cell (block_lt_of_cell h9)).trans h9
  refine rnT ?_
  refine TW.ld rfl (hB5.fld rfl) ?_
  refine rnT ?_
  refine TW.ld rfl hc95 ?_
  refine TW.callF (cap:= []) rfl rfl en104 rfl ct (Args.cons rfl id (Args.cons rfl ct (Args.cons rfl ct Args.nil))) (fun _=>between_c) ?_
  rintro w6 d6
  refine rnT ?_
  refine rt1 rfl ⟨(f1.below.step d5).step d6,?_⟩
  by_cases hq:ClaOK x
  ·rw [dec_pos hq]
   simp [hq.c1,hq.c2,hq.d1,hq.d2]
  ·rw [dec_neg hq]
   have: ¬((0≤x.cut∧x.cut≤1439)∧0≤x.del∧x.del≤1439):=fun h=>hq ⟨h.1.1,h.1.2,h.2.1,h.2.2⟩
   congr 1
   simp only [Bool.and_eq_false_iff,decide_eq_false_iff_not]
   omega
 ·exact absurd (by decide) n5
theorem numbers_c (hN:NetAt w v N) (hf:FewN N) (h1:1≤k) (h5:k≤5) (hi:i<(namesK N k).length):Gives Tryz.prog 249 #[.agg v.cells.toArray,.int .i64 (k:Int),.int .i64 (i:Int)] w fun u w'=>Below w.heap.size w w'∧u= .bool (dec (numK N k i)):=by
 have one: ∀ {α:Type} {l:List α} {x:α} {p:α→Prop},l[i]?=some x→(p x↔ ∀y,l[i]?=some y→p y):=fun {α l x p} hx=>⟨fun h y hy=>by rw [hx] at hy; cases hy; exact h,fun h=>h _ hx⟩
 have:k=1∨k=2∨k=3∨k=4∨k=5:=by omega
 rcases this with rfl|rfl|rfl|rfl|rfl
 ·obtain ⟨x,hx,_⟩:=getx (l:=N.cals) (k:=i) (by have:(namesK N 1).length=N.cals.length:=calNm_len N; omega)
  exact (numbers1_c hN hf hx).mono fun u w' ⟨p1,p2⟩=>⟨p1,by rw [p2]; exact congrArg _ (dec_congr (one hx))⟩
 ·obtain ⟨x,hx,_⟩:=getx (l:=N.ops) (k:=i) hi
  exact (numbers2_c hN hf hx).mono fun u w' ⟨p1,p2⟩=>⟨p1,p2⟩
 ·obtain ⟨x,hx,_⟩:=getx (l:=N.offs) (k:=i) (by have:(namesK N 3).length=N.offs.length:=List.length_map _; omega)
  exact (numbers3_c hN hf hx).mono fun u w' ⟨p1,p2⟩=>⟨p1,by rw [p2]; exact congrArg _ (dec_congr (one hx))⟩
 ·obtain ⟨x,hx,_⟩:=getx (l:=N.lines) (k:=i) (by have:(namesK N 4).length=N.lines.length:=List.length_map _; omega)
  exact (numbers4_c hN hf hx).mono fun u w' ⟨p1,p2⟩=>⟨p1,by rw [p2]; exact congrArg _ (dec_congr (one hx))⟩
 ·obtain ⟨x,hx,_⟩:=getx (l:=N.classes) (k:=i) (by have:(namesK N 5).length=N.classes.length:=List.length_map _; omega)
  exact (numbers5_c hN hf hx).mono fun u w' ⟨p1,p2⟩=>⟨p1,by rw [p2]; exact congrArg _ (dec_congr (one hx))⟩
theorem names_c (hN:NetAt w v N) (hf:FewN N) (h1:1≤k) (h5:k≤5):Gives Tryz.prog 91 #[.agg v.cells.toArray,.int .i64 (k:Int)] w fun u w'=>Below w.heap.size w w'∧StrRow w' w.heap.size u (namesK N k):=by
 have:k=1∨k=2∨k=3∨k=4∨k=5:=by omega
 rcases this with rfl|rfl|rfl|rfl|rfl
 ·exact names1_c hN hf
 ·exact names2_c hN hf
 ·exact names3_c hN hf
 ·exact names4_c hN hf
 ·exact names5_c hN hf
theorem errno_c {lv:Value} (hN:NetAt w v N) (hf:FewN N) (h1:1≤k) (h5:k≤5) (hR:StrRow w b lv (namesK N k)) (hi:i<(namesK N k).length):Gives Tryz.prog 227 #[.agg v.cells.toArray,.int .i64 (k:Int),lv,.int .i64 (i:Int)] w fun u w'=>Below w.heap.size w w'∧ ∃e:Int,u= .int .i64 e∧(e=0↔eOK N k i):=by
 have hform:=NetIn.form hN
 obtain ⟨vc,vn,vo,vf,vl,vk⟩:=v
 obtain ⟨⟨A1,c1,e1⟩,⟨A2,c2,e2⟩,⟨A3,c3,e3⟩,⟨A4,c4,e4⟩,⟨A5,c5,e5⟩,⟨A6,c6,e6⟩⟩:=id hform
 dsimp only at e1 e2 e3 e4 e5 e6
 subst e1 e2 e3 e4 e5 e6
 obtain ⟨A,cap,rfl⟩:=hR.form
 have hnl:=hf.names k
 obtain ⟨s,hs,hsm⟩:=getx (l:=namesK N k) (k:=i) hi
 have heok:eOK N k i↔NameOK keys11 s∧s ∉ (namesK N k).take i∧numK N k i:=⟨fun h=>h s hs,fun h z hz=>by rw [hs] at hz; cases hz; exact h⟩
 obtain ⟨g,rfl,_⟩:=hR.at hs
 refine gv (f:=227) ?_
 refine rnT ?_
 refine TW.box rfl rfl rfl rfl ?_
 rintro g1 w1 f1
 refine rnT ?_
 have hB1:=f1.blk
 have hN1:=net_step hN f1.below
 have hR1:=hR.below f1.below
 obtain ⟨g',e',hsc1⟩:=hR1.at hs
 cases e'
 refine TW.ld rfl hsc1 ?_
 refine TW.cl rfl (rname_c (s:=s)) ?_
 rintro y2 w2 ⟨b2,rfl⟩
 have b02:=f1.below.step b2
 refine rnT ?_
 refine CW.cond rfl (fun hbad=> ?_) (fun hgood=> ?_)
 ·refine rnT ?_
  refine rt1 rfl ⟨b02,1,rfl,⟨fun h=>by omega,fun h=> ?_⟩⟩
  rw [dec_pos (heok.1 h).1] at hbad
  simp at hbad
 have hnm:NameOK keys11 s:=dec_iff.1 (by simpa using hgood)
 refine rnT ?_
 refine CW.lp [1,2,3,4] (fun j:Nat=> [(10,none,.int .i64 (j:Int))])
  (fun j W=>j≤i∧Below w2.heap.size w2 W∧s ∉ (namesK N k).take j) (fun j=>i-j) 0 ⟨Nat.zero_le _,Below.refl _ _,by simp⟩ ?_
 rintro j W ⟨hj,hW,hno⟩
 have hRW:=(hR1.below b2).below hW
 have hBW:=(hB1.next b2).next hW
 have hNW:=net_step (net_step hN1 b2) hW
 refine rnT ?_
 refine CW.condP rfl (fun hlt=> ?_) (fun hge=> ?_)
 ·obtain ⟨z,hz,hzm⟩:=getx (l:=namesK N k) (k:=j) (by omega)
  obtain ⟨g',e',hzc⟩:=hRW.at hz
  cases e'
  obtain ⟨g',e',hsc⟩:=hRW.at hs
  cases e'
  refine rnT ?_
  refine CW.draw mixed (by kernel_rfl) ?_
  refine rnD ?_
  refine DW.ld rfl hzc ?_
  refine rnD ?_
  refine DW.ld rfl hsc ?_
  refine rnD ?_
  rw [beqL]
  refine DW.fi [1,2,3,4,10,32] rfl fun w3 b3=> ?_
  refine KW.then_ ?_
  refine CW.cond rfl (fun heq=> ?_) (fun hne=> ?_)
  ·refine rnT ?_
   refine rt1 rfl ⟨(b02.step hW).step b3,4,rfl,⟨fun h=>by omega,fun h=> ?_⟩⟩
   have hzs:z=s:=of_decide_eq_true heq
   subst hzs
   exact absurd (List.mem_of_getElem? (i:=j) (by rw [List.getElem?_take_of_lt (by omega)]; exact hz)) (heok.1 h).2.1
  ·refine rnT ?_
   refine KW.rd (j+1) ⟨by omega,hW.step b3,fun h=> ?_⟩
   rw [List.take_add_one,hz] at h
   rcases List.mem_append.1 h with h|h
   ·exact hno h
   ·simp at h
    subst h
    exact of_decide_eq_false hne rfl
 ·have hji:j=i:=by omega
  subst hji
  refine rnT ?_
  refine TW.ldS rfl (fun _ _ hv=>hBW.fld hv) ?_
  refine rnT ?_
  refine TW.cl rfl (numbers_c (v:=⟨.slice A1 N.cals.length c1,.slice A2 N.names.length c2,.slice A3 N.ops.length c3,.slice A4 N.offs.length c4,.slice A5 N.lines.length c5,.slice A6 N.classes.length c6⟩) hNW hf h1 h5 hi) ?_
  rintro y4 w4 ⟨d4,rfl⟩
  refine rnT ?_
  refine CW.cond rfl (fun hbad2=> ?_) (fun hgood2=> ?_)
  ·refine rnT ?_
   refine rt1 rfl ⟨(b02.step hW).step d4,1,rfl,⟨fun h=>by omega,fun h=> ?_⟩⟩
   rw [dec_pos (heok.1 h).2.2] at hbad2
   simp at hbad2
  ·refine rnT ?_
   refine rt1 rfl ⟨(b02.step hW).step d4,0,rfl,⟨fun _=>heok.2 ⟨hnm,hno,dec_iff.1 (by simpa using hgood2)⟩,fun _=>rfl⟩⟩
theorem faults_c (hN:NetAt w v N) (hf:FewN N):Gives Tryz.prog 163 #[.agg v.cells.toArray] w fun u w'=>Below w.heap.size w w'∧ ∃n,FRow w' w.heap.size u n∧n≤1000∧(n=0↔ConsOK keys11 N):=by
 have hform:=NetIn.form hN
 obtain ⟨vc,vn,vo,vf,vl,vk⟩:=v
 obtain ⟨⟨A1,c1,e1⟩,⟨A2,c2,e2⟩,⟨A3,c3,e3⟩,⟨A4,c4,e4⟩,⟨A5,c5,e5⟩,⟨A6,c6,e6⟩⟩:=id hform
 dsimp only at e1 e2 e3 e4 e5 e6
 subst e1 e2 e3 e4 e5 e6
 have qc:=hf.c
 have qn:=hf.n
 refine gv (f:=163) ?_
 refine rnT ?_
 refine TW.box rfl rfl rfl rfl ?_
 rintro g1 w1 f1
 refine rnT ?_
 have hB1:=f1.blk
 have hN1:=net_step hN f1.below
 have hb01:=f1.below.size
 refine TW.ld rfl (hB1.fld rfl) ?_
 refine rnT ?_
 refine TW.ld rfl (hB1.fld rfl) ?_
 refine rnT ?_
 refine CW.joinP (fun z:Value×Nat=> [(1,none,.pointer (some ⟨g1,0,none⟩)),(3,none,z.1)])
  (fun z W'=>Below w1.heap.size w1 W'∧FRow W' w1.heap.size z.1 z.2∧z.2≤1∧(z.2=0↔N.names.length=N.cals.length)) (fun hj=> ?_) (fun z W2 hJ=> ?_)
 ·skip
  refine CW.condP rfl (fun hne=> ?_) (fun heq=> ?_)
  ·refine rnT ?_
   refine TW.build [0,1,2] _ [.int .i64 1,.int .i64 (-1),.int .i64 1] rfl rfl rfl (Args.cons rfl ct (Args.cons rfl ct (Args.cons rfl ct Args.nil))) (by kernel_rfl) ?_
   refine TW.buildSlice 167 _ rfl rfl rfl eo85 (Args.cons rfl ct Args.nil) rfl rfl rfl rfl rfl ?_
   rintro g2 w2 f2
   refine TW.append [.int .i64 1,.int .i64 (-1),.int .i64 1] rfl rfl go85 rfl (OwnS.nil _ _ _) rfl rfl (fun j u hj=>⟨_,rfl,f2.blk.fld hj⟩) (fun u hu=>by simp at hu; rcases hu with rfl|rfl|rfl<;>rfl) (by omega) (by omega) ?_
   rintro fv' w3 hO3 hg3 hn3
   refine TW.v V.assign rfl ⟨ct,trivial⟩ (fun _=>trivial) ?_
   refine TW.nil (KW.pick [0,1,2,3] [(0,_,_),(1,_,_),(2,_,_),(3,_,_)] rfl (KW.then_ ?_))
   exact CW.pick [1,3] _ rfl (hj (fv',1) _ ⟨f2.below.grown hg3 f2.below.size (fun q hq=>by simp [Value.ownBlock] at hq),FRow.app (w:=w2) (fun g hg=>by simp [Value.ownBlock] at hg) (fun u hu=>by cases hu) (fun u hu=>by simp at hu; rcases hu with rfl|rfl|rfl<;>rfl) hO3 hn3 f2.below.size,Nat.le_refl _,⟨fun h=>absurd h (Nat.succ_ne_zero 0),fun h=>by omega⟩⟩)
  ·refine CW.skip (KW.then_ ?_)
   exact CW.pick [1,3] _ rfl (hj (.slice none 0 0,0) _ ⟨Below.refl _ _,FRow.nil _ _,Nat.zero_le _,⟨fun _=>by omega,fun _=>rfl⟩⟩)
 obtain ⟨fv,n⟩:=z
 obtain ⟨b2,hFR,hn1,hiff⟩:=hJ
 dsimp only at hFR hn1 hiff
 refine rnT ?_
 refine CW.pk [1,3,4] rfl ?_
 refine CW.lp [1] (fun z:Nat×Value×Nat=> [(3,none,z.2.1),(4,none,.int .i64 (z.1:Int))])
  (fun z W=>1≤z.1∧z.1≤6∧Below w1.heap.size w1 W∧FRow W w1.heap.size z.2.1 z.2.2∧z.2.2+101≤102*z.1∧(z.2.2=0↔N.names.length=N.cals.length∧ ∀k,1≤k→k<z.1→KindR N k)) (fun z=>6-z.1) (1,fv,n) ⟨Nat.le_refl _,by show 1≤6; decide,b2,hFR,by show n+101≤102*1; omega,⟨fun h=>⟨hiff.1 h,fun k h1 h2=>by omega⟩,fun h=>hiff.2 h.1⟩⟩ ?_
 rintro ⟨k,fv2,m⟩ W ⟨hk1,hk6,hBW,hF2,hm,hmi⟩
 dsimp only at hk1 hk6 hF2 hm hmi
 have hB1W:=hB1.next hBW
 have hNW:=net_step hN1 hBW
 refine rnT ?_
 refine CW.condP rfl (fun hlt=> ?_) (fun hge=> ?_)
 ·have hk5:k≤5:=by omega
  have hnl:=hf.names k
  refine rnT ?_
  refine TW.ldS rfl (fun _ _ hv=>hB1W.fld hv) ?_
  refine rnT ?_
  refine TW.cl rfl (names_c (v:=⟨.slice A1 N.cals.length c1,.slice A2 N.names.length c2,.slice A3 N.ops.length c3,.slice A4 N.offs.length c4,.slice A5 N.lines.length c5,.slice A6 N.classes.length c6⟩) hNW hf hk1 hk5) ?_
  rintro y5 w5 ⟨d5,hR⟩
  obtain ⟨A,cap,rfl⟩:=hR.form
  have hF5:=hF2.below d5
  have hB5:=hBW.step d5
  have hlim:limN k≤40:=by
   unfold limN
   split
   ·omega
   split
   ·omega
   split<;>omega
  have hown5: ∀g,fv2.ownBlock=some g→(Value.slice A (namesK N k).length cap).ownBlock≠some g:=fun g hg e=>by
   obtain ⟨zs,hO,_,_⟩:=hF2
   have h1:=hO.lt hg
   have h2:=hR.lb g e
   omega
  refine rnT ?_
  refine CW.lp [1,4,5] (fun z:Nat×Value×Nat=> [(3,none,z.2.1),(6,none,.int .i64 (z.1:Int))])
   (fun z W'=>z.1≤(namesK N k).length∧z.1≤limN k∧Below w1.heap.size w1 W'∧FRow W' w1.heap.size z.2.1 z.2.2∧StrRow W' W.heap.size (.slice A (namesK N k).length cap) (namesK N k)∧(∀g,z.2.1.ownBlock=some g→(Value.slice A (namesK N k).length cap).ownBlock≠some g)∧z.2.2≤m+z.1∧(z.2.2=0↔m=0∧ ∀j,j<z.1→eOK N k j)) (fun z=>(namesK N k).length-z.1) (0,fv2,m) ⟨Nat.zero_le _,Nat.zero_le _,hB5,hF5,hR,hown5,by show m≤m+0; omega,⟨fun h=>⟨h,fun j hj=>by omega⟩,fun h=>h.1⟩⟩ ?_
  rintro ⟨i,fv3,m2⟩ W3 ⟨hi,hil,hB3,⟨zs,hO,h2,h3⟩,hR3,hd3,hm3,hi3⟩
  dsimp only at hi hil hO h3 hd3 hm3 hi3
  have hB13:=hB1.next hB3
  have hN3:=net_step hN1 hB3
  refine rnT ?_
  refine TW.callF (cap:= []) rfl rfl en226 rfl ct (Args.cons rfl id Args.nil) (fun _=>limit_c (k:=k)) ?_
  rintro w6 d6
  refine rnT ?_
  refine CW.pk [1,3,4,5,6,35] rfl ?_
  have hO:=hO.below d6
  have hBX:=hB3.step d6
  have hR6:=hR3.below d6
  have hB16:=hB13.next d6
  have hN6:=net_step hN3 d6
  refine CW.cond rfl (fun hlt2=> ?_) (fun hge2=> ?_)
  ·have hlt3:i<(namesK N k).length∧i<limN k:=by simp at hlt2; omega
   refine rnT ?_
   refine TW.ldS rfl (fun _ _ hv=>hB16.fld hv) ?_
   refine rnT ?_
   refine TW.cl rfl (errno_c (v:=⟨.slice A1 N.cals.length c1,.slice A2 N.names.length c2,.slice A3 N.ops.length c3,.slice A4 N.offs.length c4,.slice A5 N.lines.length c5,.slice A6 N.classes.length c6⟩) hN6 hf hk1 hk5 hR6 hlt3.1) ?_
   rintro y7 w7 ⟨d7,e,rfl,he⟩
   have hO:=hO.below d7
   have hBX:=hBX.step d7
   have hR7:=hR6.below d7
   refine rnT ?_
   refine CW.condP rfl (fun hne=> ?_) (fun heq=> ?_)
   ·have hne':e≠0:=by simpa using hne
    refine rnT ?_
    refine TW.build [0,1,2] _ [.int .i64 (k:Int),.int .i64 (i:Int),.int .i64 e] rfl rfl rfl (Args.cons rfl ct (Args.cons rfl ct (Args.cons rfl ct Args.nil))) (by kernel_rfl) ?_
    refine TW.buildSlice 167 _ rfl rfl rfl eo85 (Args.cons rfl ct Args.nil) rfl rfl rfl rfl rfl ?_
    rintro g8 w8 f8
    refine TW.append [.int .i64 (k:Int),.int .i64 (i:Int),.int .i64 e] rfl rfl go85 rfl (hO.below f8.below) rfl rfl (fun j u hj=>⟨_,rfl,f8.blk.fld hj⟩) (fun u hu=>by simp at hu; rcases hu with rfl|rfl|rfl<;>rfl) (by omega) (by omega) ?_
    rintro fv' w9 hO9 hg9 hn9
    refine rnT ?_
    have hB8:=hBX.step f8.below
    have hB9:=hB8.grown hg9 hB8.size h3
    have hF9:FRow w9 w1.heap.size fv' (m2+1):=FRow.app (w:=w8) h3 h2 (fun u hu=>by simp at hu; rcases hu with rfl|rfl|rfl<;>rfl) hO9 hn9 hB8.size
    have hR8:=hR7.below f8.below
    have hR9:StrRow w9 W.heap.size (.slice A (namesK N k).length cap) (namesK N k):=⟨hR8.own.kept fun q hq=>hg9.block q (hR8.own.lt hq) (fun e=>hd3 q e.symm hq),hR8.lb⟩
    refine KW.rd (i+1,fv',m2+1) ⟨by show i+1≤_; omega,by show i+1≤_; omega,hB9,hF9,hR9,fun g hg e=> ?_,by show m2+1≤m+(i+1); omega,⟨fun h=>absurd h (Nat.succ_ne_zero m2),fun h=>absurd (he.2 (h.2 i (by show i<i+1; omega))) hne'⟩⟩
    rcases hn9 with h|h
    ·exact hd3 g (by rw [←h]; exact hg) e
    ·rw [h] at hg
     cases hg
     exact absurd (hR8.own.lt e) (Nat.lt_irrefl _)
   ·have heq':e=0:=by simpa using heq
    refine rnT ?_
    refine KW.rd (i+1,fv3,m2) ⟨by show i+1≤_; omega,by show i+1≤_; omega,hBX,⟨zs,hO,h2,h3⟩,hR7,hd3,by show m2≤m+(i+1); omega,?_⟩
    show m2=0↔m=0∧ ∀j,j<i+1→eOK N k j
    rw [hi3]
    refine ⟨fun h=>⟨h.1,fun j hj=> ?_⟩,fun h=>⟨h.1,fun j hj=>h.2 j (by omega)⟩⟩
    rcases Nat.lt_or_ge j i with h'|h'
    ·exact h.2 j h'
    ·have:j=i:=by omega
     subst this
     exact he.1 heq'
  ·have hge3:i=(namesK N k).length∨i=limN k:=by
    simp only [Bool.and_eq_false_iff,decide_eq_false_iff_not] at hge2
    omega
   refine rnT ?_
   refine TW.cl rfl (limit_c (k:=k)) ?_
   rintro y7 w7 ⟨d7,rfl⟩
   have hO:=hO.below d7
   have hBX:=hBX.step d7
   refine rnT ?_
   refine CW.condP rfl (fun hgt=> ?_) (fun hle=> ?_)
   ·refine rnT ?_
    dsimp only at hgt
    refine TW.cl rfl (limit_c (k:=k)) ?_
    rintro y7b w7b ⟨d7b,rfl⟩
    have hO:=hO.below d7b
    have hBX:=hBX.step d7b
    refine TW.build [0,1,2] _ [.int .i64 (k:Int),.int .i64 (limN k:Int),.int .i64 2] rfl rfl rfl (Args.cons rfl ct (Args.cons rfl ct (Args.cons rfl ct Args.nil))) (by kernel_rfl) ?_
    refine TW.buildSlice 167 _ rfl rfl rfl eo85 (Args.cons rfl ct Args.nil) rfl rfl rfl rfl rfl ?_
    rintro g8 w8 f8
    refine TW.append [.int .i64 (k:Int),.int .i64 (limN k:Int),.int .i64 2] rfl rfl go85 rfl (hO.below f8.below) rfl rfl (fun j u hj=>⟨_,rfl,f8.blk.fld hj⟩) (fun u hu=>by simp at hu; rcases hu with rfl|rfl|rfl<;>rfl) (by omega) (by omega) ?_
    rintro fv' w9 hO9 hg9 hn9
    refine rnT ?_
    have hB8:=hBX.step f8.below
    have hB9:=hB8.grown hg9 hB8.size h3
    have hF9:FRow w9 w1.heap.size fv' (m2+1):=FRow.app (w:=w8) h3 h2 (fun u hu=>by simp at hu; rcases hu with rfl|rfl|rfl<;>rfl) hO9 hn9 hB8.size
    refine KW.rd (k+1,fv',m2+1) ⟨by show 1≤k+1; omega,by show k+1≤6; omega,hB9,hF9,by show m2+1+101≤102*(k+1); omega,⟨fun h=>absurd h (Nat.succ_ne_zero m2),fun h=>absurd (h.2 k hk1 (by show k<k+1; omega)).1 (by omega)⟩⟩
   ·refine rnT ?_
    dsimp only at hle
    refine KW.rd (k+1,fv3,m2) ⟨by show 1≤k+1; omega,by show k+1≤6; omega,hBX,⟨zs,hO,h2,h3⟩,by show m2+101≤102*(k+1); omega,?_⟩
    show m2=0↔N.names.length=N.cals.length∧ ∀j,1≤j→j<k+1→KindR N j
    rw [hi3,hmi]
    constructor
    ·rintro ⟨⟨h1,h2⟩,h3⟩
     refine ⟨h1,fun j hj1 hj=> ?_⟩
     rcases Nat.lt_or_ge j k with h'|h'
     ·exact h2 j hj1 h'
     ·have:j=k:=by omega
      subst this
      exact ⟨by omega,fun q hq=>h3 q (by omega)⟩
    ·rintro ⟨h1,h2⟩
     exact ⟨⟨h1,fun j hj1 hj=>h2 j hj1 (by omega)⟩,fun j hj=>(h2 k hk1 (by omega)).2 j (by omega)⟩
 ·have hk:k=6:=by omega
  subst hk
  refine rnT ?_
  refine rt1 rfl ⟨f1.below.step hBW,m,?_,by omega,?_⟩
  ·obtain ⟨zs,hO,h2,h3⟩:=hF2
   exact ⟨zs,hO,h2,fun g hg=>Nat.le_trans hb01 (h3 g hg)⟩
  ·rw [hmi,cons_iff]
   exact ⟨fun h=>⟨h.1,fun j h1 h5=>h.2 j h1 (by omega)⟩,fun h=>⟨h.1,fun j h1 h5=>h.2 j h1 (by omega)⟩⟩
theorem consist_c (hN:NetAt w v N) (hf:FewN N):Gives Tryz.prog 103 #[.agg v.cells.toArray] w fun u w'=>Below w.heap.size w w'∧u= .bool (dec (ConsOK keys11 N)):=by
 have hform:=NetIn.form hN
 obtain ⟨vc,vn,vo,vf,vl,vk⟩:=v
 obtain ⟨⟨A1,c1,e1⟩,⟨A2,c2,e2⟩,⟨A3,c3,e3⟩,⟨A4,c4,e4⟩,⟨A5,c5,e5⟩,⟨A6,c6,e6⟩⟩:=id hform
 dsimp only at e1 e2 e3 e4 e5 e6
 subst e1 e2 e3 e4 e5 e6
 refine gv (f:=103) ?_
 refine rnT ?_
 refine TW.box rfl rfl rfl rfl ?_
 rintro g1 w1 f1
 refine rnT ?_
 have hB1:=f1.blk
 have hN1:=net_step hN f1.below
 refine TW.ldS rfl (fun _ _ hv=>hB1.fld hv) ?_
 refine TW.cl rfl (faults_c (v:=⟨.slice A1 N.cals.length c1,.slice A2 N.names.length c2,.slice A3 N.ops.length c3,.slice A4 N.offs.length c4,.slice A5 N.lines.length c5,.slice A6 N.classes.length c6⟩) hN1 hf) ?_
 rintro y2 w2 ⟨d2,n,hR,hn,hiff⟩
 obtain ⟨Y,yc,rfl⟩:=FRow.form hR
 refine rnT ?_
 refine rt1 rfl ⟨f1.below.step d2,?_⟩
 by_cases hc:ConsOK keys11 N
 ·rw [dec_pos hc]
  simp [hiff.2 hc]
 ·rw [dec_neg hc]
  have:n≠0:=fun e=>hc (hiff.1 e)
  simp
  omega
theorem linesB_take {L:List Ln} {l:Ln} (h:L[i]?=some l):linesB r (L.take (i+1))=rlxB (linesB r (L.take i)) l:=by
 unfold linesB
 rw [List.take_add_one,h,List.foldl_append]
 rfl
def mfill (n b:Nat):List Int:=(List.range n).map fun i=>if i<b then -1 else 0
theorem mfill_len (n b:Nat):(mfill n b).length=n:=by simp [mfill]
theorem mfill_zero (n:Nat):mfill n 0=List.replicate n 0:=by
 apply List.ext_getElem?
 intro i
 simp [mfill,List.getElem?_replicate]
 split
 ·rename_i h; simp [h]
 ·rename_i h; rw [List.getElem?_eq_none (by simpa using h)]; rfl
theorem mfill_all (n:Nat):mfill n n=List.replicate n (-1):=by
 apply List.ext_getElem?
 intro i
 simp only [mfill,List.getElem?_replicate,List.getElem?_map]
 split
 ·rename_i h; simp [h]
 ·rename_i h; rw [List.getElem?_eq_none (by simpa using h)]; rfl
theorem mfill_succ (hb:b<n):(mfill n b).set b (-1)=mfill n (b+1):=by
 apply List.ext_getElem?
 intro i
 rw [List.getElem?_set,mfill_len]
 by_cases h:b=i
 ·subst h
  simp [mfill,hb]
 ·rw [if_neg h]
  unfold mfill
  rw [List.getElem?_map,List.getElem?_map]
  rcases Nat.lt_or_ge i n with hi|hi
  ·rw [List.getElem?_range hi]
   simp only [Option.map_some]
   congr 1
   by_cases h':i<b
   ·rw [if_pos h',if_pos (by omega)]
   ·rw [if_neg h',if_neg (by omega)]
  ·rw [List.getElem?_eq_none (by simpa using hi)]; rfl
structure RowW (w0 W:World) (g n:Nat) (r:List Int):Prop where
 own:OwnS W 3 1 (.slice (some ⟨g,0,none⟩) n n) n (r.map (Value.int .i64))
 len:r.length=n
 but:But g w0 W
theorem RowW.step {w0 W W':World} {g n:Nat} {r:List Int} (h:RowW w0 W g n r) (hb:Below W.heap.size W W'):RowW w0 W' g n r:=⟨h.own.below hb,h.len,h.but.step hb⟩
theorem RowW.cell {w0 W:World} {g n i:Nat} {r:List Int} (h:RowW w0 W g n r) (hi:i<n):W.cell? (Addr.add ⟨g,0,none⟩ ((i:Int).toNat*1))=some (.int .i64 (gB r i)):=by
 rw [Nat.mul_one,Int.toNat_natCast]
 refine h.own.cell1 ?_
 rw [List.getElem?_map,List.getElem?_eq_getElem (by have:=h.len; omega)]
 unfold gB
 rw [List.getD_eq_getElem?_getD,List.getElem?_eq_getElem (by have:=h.len; omega)]
 rfl
theorem RowW.put {x:Int} (h:RowW w0 W g n r) (o:OwnS W' 3 1 (.slice (some ⟨g,0,none⟩) n n) n ((r.map (Value.int .i64)).set ((i:Int).toNat*1) (.int .i64 x))) (hb:But g W W'):RowW w0 W' g n (r.set i x) :=
 ⟨by
  rw [Nat.mul_one,Int.toNat_natCast] at o
  rw [List.map_set]
  exact o,by rw [List.length_set]; exact h.len,h.but.trans hb⟩
theorem RowW.cellI {i:Int} (h:RowW w0 W g n r) (h0:0≤i) (hi:i<n):W.cell? (Addr.add ⟨g,0,none⟩ (i.toNat*1))=some (.int .i64 (gB r i.toNat)):=by
 obtain ⟨k,rfl⟩:=Int.eq_ofNat_of_zero_le h0
 exact h.cell (by omega)
theorem RowW.putN {j:Nat} {x:Int} (h:RowW w0 W g n r) (o:OwnS W' 3 1 (.slice (some ⟨g,0,none⟩) n n) n ((r.map (Value.int .i64)).set (j*1) (.int .i64 x))) (hb:But g W W'):RowW w0 W' g n (r.set j x) :=
 ⟨by
  rw [Nat.mul_one] at o
  rw [List.map_set]
  exact o,by rw [List.length_set]; exact h.len,h.but.trans hb⟩
theorem rb_at {L:List Ln} {a:Nat} (hL:LnOK n L) (ha:a<n) (hn:n≤12) (hl:L.length≤40) (hk:k≤n):RB L n a 3000000 (linesB (rndsB L (startB n a) k) (L.take i)):=by
 obtain ⟨h,_⟩:=RB.lines hL (L.take i) _ _ (fun l hl=>List.mem_of_mem_take hl) (by omega) (RB.rnds hL ha k)
 have h1:k*L.length≤12*40:=Nat.mul_le_mul (by omega) hl
 have h2:(L.take i).length≤L.length:=by rw [List.length_take]; omega
 exact ⟨h.len,h.own,fun b=>⟨(h.rng b).1,Int.le_trans (h.rng b).2 (by omega)⟩,h.sound⟩
theorem rdist_c (hN:NetAt w v N) (hf:FewN N) (hc:ConsOK keys11 N):Gives Tryz.prog 164 #[.agg v.cells.toArray] w fun u w'=>Below w.heap.size w w'∧SL (sliceT intT) (fun k=>w.heap.size≤k∧k<w'.heap.size) w' u ((List.range N.offs.length).map fun a=>rowB (lnOf N) N.offs.length a):=by
 have hform:=NetIn.form hN
 obtain ⟨vc,vn,vo,vf,vl,vk⟩:=v
 obtain ⟨⟨A1,c1,e1⟩,⟨A2,c2,e2⟩,⟨A3,c3,e3⟩,⟨A4,c4,e4⟩,⟨A5,c5,e5⟩,⟨A6,c6,e6⟩⟩:=id hform
 dsimp only at e1 e2 e3 e4 e5 e6
 subst e1 e2 e3 e4 e5 e6
 obtain ⟨hL,hn12,hl40⟩:=hc.ln
 have hll:(lnOf N).length=N.lines.length:=by unfold lnOf; rw [List.length_map]
 refine gv (f:=164) ?_
 refine rnT ?_
 refine TW.box rfl rfl rfl rfl ?_
 rintro g1 w1 f1
 refine rnT ?_
 have hB1:=f1.blk
 have hN1:=net_step hN f1.below
 have hb01:=f1.below.size
 refine TW.ldS rfl (fun _ _ hv=>hB1.fld hv) ?_
 refine TW.cl rfl (consist_c (v:=⟨.slice A1 N.cals.length c1,.slice A2 N.names.length c2,.slice A3 N.ops.length c3,.slice A4 N.offs.length c4,.slice A5 N.lines.length c5,.slice A6 N.classes.length c6⟩) hN1 hf) ?_
 rintro y2 w2 ⟨b2,rfl⟩
 rw [dec_pos hc]
 refine rnT ?_
 refine CW.cond rfl (fun hbad=> ?_) (fun hgood=> ?_)
 ·exact absurd hbad (by simp)
 have hB2:=hB1.next b2
 have hN2:=net_step hN1 b2
 have b02:=f1.below.step b2
 refine rnT ?_
 refine CW.lp [1] (fun x:Nat×Value×List (Value×List Int)=> [(3,none,x.2.1),(4,none,.int .i64 (x.1:Int))])
  (fun x W=>x.1≤N.offs.length∧Below w2.heap.size w2 W∧Tab W w2.heap.size x.2.1 x.2.2∧x.2.2.length=x.1∧x.2.2.map (·.2)=(List.range x.1).map fun a=>rowB (lnOf N) N.offs.length a) (fun x=>N.offs.length-x.1) (0,.slice none 0 0,[]) ⟨Nat.zero_le _,Below.refl _ _,⟨OwnS.nil _ _ _,(fun g hg=>by simp [Value.ownBlock] at hg),(fun p hp=>by cases hp),List.Pairwise.nil⟩,rfl,rfl⟩ ?_
 rintro ⟨a,tv,rs⟩ W ⟨ha,hW,hT,hrl,hrs⟩
 dsimp only at ha hT hrl hrs
 have hBW:=hB2.next hW
 have hbs:=hW.size
 obtain ⟨TA,tcap,htv,_⟩:=hT.own.form
 subst htv
 refine rnT ?_
 refine TW.ld rfl (hBW.fld rfl) ?_
 refine rnT ?_
 refine CW.pk [1,3,4,17] rfl ?_
 refine CW.condP rfl (fun hlt=> ?_) (fun hge=> ?_)
 ·have haN:a<N.offs.length:=by omega
  refine rnT ?_
  refine TW.ld rfl (hBW.fld rfl) ?_
  refine rnT ?_
  refine TW.makeSlice rfl rfl (zero1_of go32 ze3 rfl) rfl rfl (by omega) (by omega) ?_
  rintro gr wr fr
  refine rnT ?_
  have hatr:=fr.at_
  have hR0:RowW wr wr gr N.offs.length (mfill N.offs.length 0):=⟨by
   rw [mfill_zero,List.map_replicate]
   exact OwnS.of_blk fr.blk (by simp) (by omega),mfill_len _ _,But.of_below (Below.refl _ _)⟩
  refine CW.lp [1,3,4,5] (fun b:Nat=> [(6,none,.int .i64 (b:Int))])
   (fun b W'=>b≤N.offs.length∧RowW wr W' gr N.offs.length (mfill N.offs.length b)) (fun b=>N.offs.length-b) 0 ⟨Nat.zero_le _,hR0⟩ ?_
  rintro b W1 ⟨hb,hR1⟩
  refine rnT ?_
  refine CW.condP rfl (fun hltb=> ?_) (fun hgeb=> ?_)
  ·refine rnT ?_
   refine TW.storeRow1 rfl sz3 rfl rfl hR1.own (by rw [List.length_map,mfill_len]; omega) rfl ?_
   rintro W2 o2 hbut2 hsz2
   refine rnT ?_
   have hR2:=hR1.put o2 hbut2
   rw [mfill_succ (by omega)] at hR2
   refine KW.rd (b+1) ⟨by omega,hR2⟩
  have hbe:b=N.offs.length:=by omega
  subst hbe
  rw [mfill_all] at hR1
  refine rnT ?_
  refine TW.storeRow1 rfl sz3 rfl rfl hR1.own (by simp; omega) rfl ?_
  rintro W2 o2 hbut2 hsz2
  refine rnT ?_
  have hR2:RowW wr W2 gr N.offs.length (startB N.offs.length a):=hR1.put o2 hbut2
  have hTr:=hT.step fr.below
  have hg1r:g1<gr:=by have:=hB2.lt; omega
  have hkeep: ∀ {W':World},But gr wr W'→ ∀k,k<w2.heap.size→W'.heap[k]?=w2.heap[k]?:=fun hb k hk=>((hb.block k (by have:=fr.below.size; omega) (fun e=>by cases e; omega)).trans (fr.below.block k (by omega))).trans (hW.block k hk)
  refine CW.lp [1,3,4,5] (fun k:Nat=> [(7,none,.int .i64 (k:Int))])
   (fun k W'=>k≤N.offs.length∧RowW wr W' gr N.offs.length (rndsB (lnOf N) (startB N.offs.length a) k)) (fun k=>N.offs.length-k) 0 ⟨Nat.zero_le _,hR2⟩ ?_
  rintro k W3 ⟨hk,hR3⟩
  refine rnT ?_
  refine CW.condP rfl (fun hltk=> ?_) (fun hgek=> ?_)
  ·refine rnT ?_
   refine CW.lp [1,3,4,5,7] (fun i:Nat=> [(8,none,.int .i64 (i:Int))])
    (fun i W'=>i≤N.lines.length∧RowW wr W' gr N.offs.length (linesB (rndsB (lnOf N) (startB N.offs.length a) k) ((lnOf N).take i))) (fun i=>N.lines.length-i) 0 ⟨Nat.zero_le _,hR3⟩ ?_
   rintro i W4 ⟨hi,hR4⟩
   have hB4:Blk W4 g1 29 _:=(hkeep hR4.but g1 hB2.lt).trans hB2
   have hlW:=hN2.l.mono (Kept.of_blocks fun k hk _=>hkeep hR4.but k hk)
   refine rnT ?_
   refine TW.ld rfl (hB4.fld rfl) ?_
   refine rnT ?_
   refine CW.pk [1,3,4,5,7,8,46] rfl ?_
   refine CW.condP rfl (fun hlti=> ?_) (fun hgei=> ?_)
   ·obtain ⟨l,hl,hlm⟩:=getx (l:=N.lines) (k:=i) (by omega)
    obtain ⟨ad,rfl⟩:=hlW.addr (by omega)
    obtain ⟨ad',cs,e9,hF9,hrep9,hc9⟩:=hlW.at hl
    cases e9
    obtain ⟨rfl,_⟩:=hrep9
    have hgl:=hc.lines.good l hlm
    have q1:=hgl.f1
    have q2:=hgl.f2
    have q3:=hgl.t1
    have q4:=hgl.t2
    have q5:=hgl.r1
    have q6:=hgl.r2
    have hLi:(lnOf N)[i]?=some (l.frm.toNat,l.to.toNat,l.trav):=by unfold lnOf; rw [List.getElem?_map,hl]; rfl
    have hrb:=rb_at (i:=i) hL haN hn12 hl40 hk
    obtain ⟨r,hr⟩: ∃r,r=linesB (rndsB (lnOf N) (startB N.offs.length a) k) ((lnOf N).take i):=⟨_,rfl⟩
    have hrn:=linesB_take (r:=rndsB (lnOf N) (startB N.offs.length a) k) hLi
    rw [←hr] at hR4 hrb hrn
    have hx:=hrb.rng l.frm.toNat
    have hy:=hrb.rng l.to.toNat
    refine rnT ?_
    refine TW.ld rfl (hB4.fld rfl) ?_
    refine rnT ?_
    refine TW.ldS rfl (hc9) ?_
    refine TW.newVar rfl zc113 rfl sz113 rfl rfl ?_
    rintro g9 w9 f9
    refine rnT ?_
    refine CW.draw mixed (by kernel_rfl) ?_
    refine rnD ?_
    have hR9:=hR4.step f9.below
    have hB9:Blk w9 g9 113 (liV l):=f9.blk
    have hxc:=hR9.cellI q1 q2
    have hyc:=hR9.cellI q3 q4
    refine DW.ld rfl (hB9.fld rfl) ?_
    refine rnD ?_
    refine DW.ld rfl hxc ?_
    refine rnD ?_
    refine DW.ld rfl (hB9.fld rfl) ?_
    refine rnD ?_
    refine DW.ld rfl hyc ?_
    refine rnD ?_
    refine DW.ld rfl (hB9.fld rfl) ?_
    refine rnD ?_
    refine DW.ld rfl hyc ?_
    refine rnD ?_
    refine DW.ld rfl (hB9.fld rfl) ?_
    refine rnD ?_
    refine DW.ld rfl hxc ?_
    refine rnD ?_
    refine DW.ld rfl (hB9.fld rfl) ?_
    refine rnD ?_
    refine DW.fi [1,3,4,5,7,8,9,83] rfl fun w10 b10=> ?_
    refine KW.then_ ?_
    have hRA:=hR9.step b10
    have hBA:=hB9.next b10
    refine CW.cond rfl (fun hyes=> ?_) (fun hno=> ?_)
    ·skip
     refine CW.drawR mixed fun W5 h5=> ?_
     refine RW.draw .weak 12 (by kernel_rfl) (by kernel_rfl) rfl rfl h5 ?_
     refine rnD ?_
     refine DW.ld rfl (hBA.fld rfl) ?_
     refine rnD ?_
     refine DW.ld rfl (hBA.fld rfl) ?_
     refine rnD ?_
     refine DW.ld rfl (hRA.cellI q1 q2) ?_
     refine rnD ?_
     refine DW.ld rfl (hBA.fld rfl) ?_
     refine rnD ?_
     refine DW.nil (DW.fin [1,3,4,5,7,8,9,94,95] [(1,_,_),(3,_,_),(4,_,_),(5,_,_),(7,_,_),(8,_,_),(9,_,_),(94,_,_),(95,_,_)] rfl (fun w11 b11=>KW.rk' ?_))
     refine RW.one (by kernel_rfl) (by kernel_rfl) rfl ?_
     have hRB:=hRA.step b11
     refine TW.storeRow1 rfl sz3 rfl rfl hRB.own (by rw [List.length_map,hRB.len]; omega) rfl ?_
     rintro w12 o12 hbut12 hsz12
     refine TW.nil (KW.pick [1,3,4,5,7,8,9] [(1,_,_),(3,_,_),(4,_,_),(5,_,_),(7,_,_),(8,_,_),(9,_,_)] rfl (KW.rk ?_))
     refine RW.end rfl (KW.pick [1,3,4,5,7,8,9] [(1,_,_),(3,_,_),(4,_,_),(5,_,_),(7,_,_),(8,_,_),(9,_,_)] rfl (KW.blockN (KW.then_ ?_)))
     refine rnT ?_
     have hRC:=hRB.putN o12 hbut12
     have he:r.set l.to.toNat (gB r l.frm.toNat+l.trav)=rlxB r (l.frm.toNat,l.to.toNat,l.trav):=by
      unfold rlxB
      rw [if_pos (by simpa using hyes)]
     rw [he,←hrn] at hRC
     refine KW.rd (i+1) ⟨by omega,hRC⟩
    ·have he:r=rlxB r (l.frm.toNat,l.to.toNat,l.trav):=by
      unfold rlxB
      rw [if_neg (by simpa using hno)]
     rw [he,←hrn] at hRA
     refine rnT ?_
     refine KW.rd (i+1) ⟨by omega,hRA⟩
   ·have hie:i=N.lines.length:=by omega
    subst hie
    rw [←hll,List.take_length] at hR4
    refine rnT ?_
    refine KW.rd (k+1) ⟨by omega,hR4⟩
  have hke:k=N.offs.length:=by omega
  subst hke
  have hRF:RowW wr W3 gr N.offs.length (rowB (lnOf N) N.offs.length a):=hR3
  have hrow:=rowB_ok hL haN
  have hTF:Tab W3 w2.heap.size (.slice TA rs.length tcap) rs:=hTr.but hRF.but (fun e=>absurd (hT.own.lt e) (by omega)) (fun p hp e=>absurd ((hT.row p hp).1.lt e) (by omega))
  refine rnT ?_
  refine TW.buildSlice 32 _ rfl rfl rfl eo30 (Args.cons rfl ct Args.nil) rfl rfl rfl rfl rfl ?_
  rintro g26 w26 f26
  have hT26:=hTF.step f26.below
  have hR26:=hRF.step f26.below
  refine TW.append [.slice (some ⟨gr,0,none⟩) N.offs.length N.offs.length] rfl rfl go30 rfl hT26.own rfl rfl (fun j v hj=>⟨⟨g26,0,none⟩,rfl,f26.blk.fld hj⟩) (fun v hv=>by simp at hv; subst hv; rfl) (by omega) (by omega) ?_
  rintro tv' w27 o27 hg27 hn27
  refine rnT ?_
  have hl9:(rowB (lnOf N) N.offs.length a).length=N.offs.length:=hrow.1
  have hBw:Below w2.heap.size w2 w26:=((hW.step fr.below).grown hRF.but (by have:=fr.below.size; omega) (fun q hq=>by cases hq; omega)).step f26.below
  have hT27:Tab w27 w2.heap.size tv' (rs++ [(.slice (some ⟨gr,0,none⟩) N.offs.length N.offs.length,rowB (lnOf N) N.offs.length a)]):=by
   refine hT26.app o27 hg27 hn27 hBw.size (by rw [hl9]; exact hR26.own) (fun x hx=> ?_) (fun g hg=> ?_) (fun p hp g hg e=> ?_)
   ·obtain ⟨j,hj⟩:=List.mem_iff_getElem?.1 hx
    have h9:=hrow.2.1 j
    have h8:N.offs.length*(lnOf N).length≤12*40:=Nat.mul_le_mul hn12 hl40
    unfold gB at h9
    rw [List.getD_eq_getElem?_getD,hj] at h9
    simp only [Option.getD_some] at h9
    exact ⟨by omega,by omega⟩
   ·cases hg
    exact ⟨by show w2.heap.size≤gr; omega,fun e=>by
     have h9:gr<W.heap.size:=hT.own.lt e
     omega⟩
   ·cases e
    have h9:gr<W.heap.size:=(hT.row p hp).1.lt hg
    omega
  refine KW.rd (a+1,tv',rs++ [(.slice (some ⟨gr,0,none⟩) N.offs.length N.offs.length,rowB (lnOf N) N.offs.length a)]) ⟨by show a+1≤_; omega,hBw.grown hg27 hBw.size hT.lb,hT27,by simp [hrl],?_⟩
  show List.map Prod.snd (rs++ [_])=_
  rw [List.map_append,hrs,List.range_succ,List.map_append]
  rfl
 ·have hae:a=N.offs.length:=by omega
  subst hae
  have hsd:=hT.sdF (by omega) (fun p hp=>by
   have:p.2∈rs.map (·.2):=List.mem_map_of_mem hp
   rw [hrs] at this
   obtain ⟨i,hi,e⟩:=List.mem_map.1 this
   rw [←e,(rowB_ok hL (List.mem_range.1 hi)).1]
   omega)
  rw [hrs] at hsd
  refine rnT ?_
  refine rt1 rfl ⟨b02.step hW,hsd.wider fun k hk=>⟨Nat.le_trans b02.size hk.1,hk.2⟩⟩
theorem rcheck_c (hN:NetAt w v N) (hf:FewN N):Gives Tryz.prog 95 #[.agg v.cells.toArray] w fun u w'=>Below w.heap.size w w'∧ ∃A n c,u= .slice A n c∧(n=0↔SoundOK keys11 N):=by
 have hform:=NetIn.form hN
 obtain ⟨vc,vn,vo,vf,vl,vk⟩:=v
 obtain ⟨⟨A1,c1,e1⟩,⟨A2,c2,e2⟩,⟨A3,c3,e3⟩,⟨A4,c4,e4⟩,⟨A5,c5,e5⟩,⟨A6,c6,e6⟩⟩:=id hform
 dsimp only at e1 e2 e3 e4 e5 e6
 subst e1 e2 e3 e4 e5 e6
 refine gv (f:=95) ?_
 refine rnT ?_
 refine TW.box rfl rfl rfl rfl ?_
 rintro g1 w1 f1
 refine rnT ?_
 have hB1:=f1.blk
 have hN1:=net_step hN f1.below
 refine TW.ldS rfl (fun _ _ hv=>hB1.fld hv) ?_
 refine TW.cl rfl (faults_c (v:=⟨.slice A1 N.cals.length c1,.slice A2 N.names.length c2,.slice A3 N.ops.length c3,.slice A4 N.offs.length c4,.slice A5 N.lines.length c5,.slice A6 N.classes.length c6⟩) hN1 hf) ?_
 rintro y2 w2 ⟨d2,n,hR,hn,hiff⟩
 obtain ⟨Y,yc,rfl⟩:=FRow.form hR
 have b2:=f1.below.step d2
 have hB2:=hB1.next d2
 refine rnT ?_
 refine CW.condP rfl (fun hbad=> ?_) (fun hgood=> ?_)
 ·refine rnT ?_
  refine rt1 rfl ⟨b2,_,_,_,rfl,⟨fun h=>by omega,fun h=>hiff.2 h.cons⟩⟩
 have hcons:ConsOK keys11 N:=hiff.1 (by omega)
 obtain ⟨hL,hn12,hl40⟩:=hcons.ln
 have hn0:n=0:=by omega
 subst hn0
 refine rnT ?_
 refine TW.ldS rfl (fun _ _ hv=>hB2.fld hv) ?_
 refine TW.cl rfl (rdist_c (v:=⟨.slice A1 N.cals.length c1,.slice A2 N.names.length c2,.slice A3 N.ops.length c3,.slice A4 N.offs.length c4,.slice A5 N.lines.length c5,.slice A6 N.classes.length c6⟩) (net_step hN1 d2) hf hcons) ?_
 rintro y3 w3 ⟨d3,hd⟩
 obtain ⟨D,hD⟩: ∃D,D=(List.range N.offs.length).map fun a=>rowB (lnOf N) N.offs.length a:=⟨_,rfl⟩
 rw [←hD] at hd
 have hDl:D.length=N.offs.length:=by rw [hD]; simp
 have hDr: ∀a,a<N.offs.length→D[a]?=some (rowB (lnOf N) N.offs.length a):=fun a ha=>by rw [hD,List.getElem?_map,List.getElem?_range ha]; rfl
 obtain ⟨DA,dcap,rfl,_⟩:=hd.form
 have hR3:=hR.below d3
 have b3:=b2.step d3
 have b13:Below w1.heap.size w1 w3:=d2.step d3
 refine rnT ?_
 refine CW.lp [4] (fun z:Nat×Value×Nat=> [(3,none,z.2.1),(5,none,.int .i64 (z.1:Int))])
  (fun z W=>z.1≤N.offs.length∧Below w1.heap.size w1 W∧w3.heap.size≤W.heap.size∧SL (sliceT intT) (fun k=>w2.heap.size≤k∧k<w3.heap.size) W (.slice DA D.length dcap) D∧FRow W w1.heap.size z.2.1 z.2.2∧(∀g,z.2.1.ownBlock=some g→g<w2.heap.size∨w3.heap.size≤g)∧z.2.2≤z.1∧(z.2.2=0↔ ∀a b,b<z.1→a<N.offs.length→ReachL (lnOf N) a b)) (fun z=>N.offs.length-z.1) (0,.slice Y 0 yc,0) ⟨Nat.zero_le _,b13,Nat.le_refl _,hd,hR3,fun g hg=> .inl (by obtain ⟨zs,hO,_⟩:=hR; exact hO.lt hg),Nat.le_refl _,⟨fun _ a b hb=>by omega,fun _=>rfl⟩⟩ ?_
 rintro ⟨b,fv,n⟩ W ⟨hb,hW,hWs,hdW,⟨zs,hO,h2,h3⟩,hdj,hnb,hre⟩
 dsimp only at hb hO h3 hdj hnb hre
 refine rnT ?_
 refine CW.pk [3,4,5,19] rfl ?_
 refine CW.condP rfl (fun hlt=> ?_) (fun hge=> ?_)
 ·have hbN:b<N.offs.length:=by omega
  refine rnT ?_
  refine CW.lp [3,4,5] (fun z:Nat×Bool=> [(6,none,.bool z.2),(7,none,.int .i64 (z.1:Int))])
   (fun z W'=>z.1≤N.offs.length∧W'=W∧(z.2=false↔ ∀i,i<z.1→ReachL (lnOf N) i b)) (fun z=>N.offs.length-z.1) (0,false) ⟨Nat.zero_le _,rfl,⟨fun _ i hi=>by omega,fun _=>rfl⟩⟩ ?_
  rintro ⟨a,cut⟩ W' ⟨ha,rfl,hcut⟩
  dsimp only at ha hcut
  refine rnT ?_
  refine CW.condP rfl (fun hlt2=> ?_) (fun hge2=> ?_)
  ·have haN:a<N.offs.length:=by omega
   obtain ⟨DD,rfl⟩:=hdW.addr (by omega)
   have hra:=hDr a haN
   obtain ⟨rv,hcell,hrow⟩:=hdW.row hra
   obtain ⟨R,rcap,rfl,_⟩:=hrow.form
   have hro:=rowB_ok hL haN
   obtain ⟨rd,rfl⟩:=hrow.addr (by omega)
   obtain ⟨x,hx⟩: ∃x,(rowB (lnOf N) N.offs.length a)[b]?=some x:=⟨_,List.getElem?_eq_getElem (by omega)⟩
   have hgx:gB (rowB (lnOf N) N.offs.length a) b=x:=by unfold gB; rw [List.getD_eq_getElem?_getD,hx]; rfl
   have hiffab:=hro.2.2 b hbN
   rw [hgx] at hiffab
   have hrl:=hro.1
   refine rnT ?_
   refine TW.ld rfl hcell ?_
   refine rnT ?_
   refine TW.ld rfl (hrow.getI hx) ?_
   refine rnT ?_
   refine KW.rd (a+1,cut||decide (x<0)) ⟨by show a+1≤_; omega,rfl,?_⟩
   show (cut||decide (x<0))=false↔ ∀i,i<a+1→ReachL (lnOf N) i b
   rw [Bool.or_eq_false_iff,hcut,decide_eq_false_iff_not]
   constructor
   ·rintro ⟨h1,h2⟩ i hi
    rcases Nat.lt_or_ge i a with h|h
    ·exact h1 i h
    ·have:i=a:=by omega
     subst this
     exact Classical.byContradiction fun h=>h2 (hiffab.2 h)
   ·intro h
    exact ⟨fun i hi=>h i (by omega),fun hx0=>hiffab.1 hx0 (h a (by omega))⟩
  have hae:a=N.offs.length:=by omega
  subst hae
  refine rnT ?_
  refine CW.cond rfl (fun hyes=> ?_) (fun hno=> ?_)
  ·have hcb: ¬ ∀i,i<N.offs.length→ReachL (lnOf N) i b:=fun h=>by rw [hcut.2 h] at hyes; cases hyes
   refine rnT ?_
   refine TW.build [0,1,2] _ [.int .i64 3,.int .i64 (b:Int),.int .i64 111] rfl rfl rfl (Args.cons rfl ct (Args.cons rfl ct (Args.cons rfl ct Args.nil))) (by kernel_rfl) ?_
   refine TW.buildSlice 167 _ rfl rfl rfl eo85 (Args.cons rfl ct Args.nil) rfl rfl rfl rfl rfl ?_
   rintro g5 w5 f5
   refine TW.append [.int .i64 3,.int .i64 (b:Int),.int .i64 111] rfl rfl go85 rfl (hO.below f5.below) rfl rfl (fun j u hj=>⟨_,rfl,f5.blk.fld hj⟩) (fun u hu=>by simp at hu; rcases hu with rfl|rfl|rfl<;>rfl) (by omega) (by omega) ?_
   rintro fv' w6 hO6 hg6 hn6
   refine rnT ?_
   have hW5:=hW.step f5.below
   have hd6:=(hdW.below f5.below).mono (Kept.of_blocks fun k hk hlt=>hg6.block k hlt (fun e=>by have:=hdj k e.symm; omega))
   have hs3:=b13.size
   have hs5:w3.heap.size≤w5.heap.size:=Nat.le_trans hWs f5.below.size
   refine KW.rd (b+1,fv',n+1) ⟨by show b+1≤_; omega,hW5.grown hg6 hW5.size h3,Nat.le_trans hs5 hg6.size,hd6,FRow.app (w:=w5) h3 h2 (fun u hu=>by simp at hu; rcases hu with rfl|rfl|rfl<;>rfl) hO6 hn6 hW5.size,fun g hg=> ?_,by show n+1≤b+1; omega,⟨fun h=>absurd h (Nat.succ_ne_zero n),fun h=>absurd (fun i hi=>h i b (by show b<b+1; omega) hi) hcb⟩⟩
   rcases hn6 with h|h
   ·exact hdj g (by rw [←h]; exact hg)
   ·rw [h] at hg; cases hg; exact .inr hs5
  ·have hall:=hcut.1 hno
   refine rnT ?_
   refine KW.rd (b+1,fv,n) ⟨by show b+1≤_; omega,hW,hWs,hdW,⟨zs,hO,h2,h3⟩,hdj,by show n≤b+1; omega,?_⟩
   show n=0↔ ∀x y,y<b+1→x<N.offs.length→ReachL (lnOf N) x y
   rw [hre]
   refine ⟨fun h x y hy hx=> ?_,fun h x y hy hx=>h x y (by omega) hx⟩
   rcases Nat.lt_or_ge y b with h'|h'
   ·exact h x y h' hx
   ·have:y=b:=by omega
    subst this
    exact hall x hx
 ·have hbl:b=N.offs.length:=by omega
  subst hbl
  obtain ⟨Z,zc,hzv,_⟩:=hO.form
  subst hzv
  refine rnT ?_
  refine rt1 rfl ⟨f1.below.step hW,_,_,_,rfl,?_⟩
  rw [hre]
  exact ⟨fun h=>⟨hcons,fun a b ha hb=>h a b hb ha⟩,fun h a b hb ha=>h.all a b ha hb⟩
theorem rsound_c (hN:NetAt w v N) (hf:FewN N):Gives Tryz.prog 43 #[.agg v.cells.toArray] w fun u w'=>Below w.heap.size w w'∧u= .bool (dec (SoundOK keys11 N)):=by
 have hform:=NetIn.form hN
 obtain ⟨vc,vn,vo,vf,vl,vk⟩:=v
 obtain ⟨⟨A1,c1,e1⟩,⟨A2,c2,e2⟩,⟨A3,c3,e3⟩,⟨A4,c4,e4⟩,⟨A5,c5,e5⟩,⟨A6,c6,e6⟩⟩:=id hform
 dsimp only at e1 e2 e3 e4 e5 e6
 subst e1 e2 e3 e4 e5 e6
 refine gv (f:=43) ?_
 refine rnT ?_
 refine TW.box rfl rfl rfl rfl ?_
 rintro g1 w1 f1
 refine rnT ?_
 have hB1:=f1.blk
 have hN1:=net_step hN f1.below
 refine TW.ldS rfl (fun _ _ hv=>hB1.fld hv) ?_
 refine TW.cl rfl (rcheck_c (v:=⟨.slice A1 N.cals.length c1,.slice A2 N.names.length c2,.slice A3 N.ops.length c3,.slice A4 N.offs.length c4,.slice A5 N.lines.length c5,.slice A6 N.classes.length c6⟩) hN1 hf) ?_
 rintro y2 w2 ⟨d2,A,n,cap,rfl,hiff⟩
 refine rnT ?_
 refine rt1 rfl ⟨f1.below.step d2,?_⟩
 by_cases hc:SoundOK keys11 N
 ·rw [dec_pos hc]
  simp [hiff.2 hc]
 ·rw [dec_neg hc]
  have:n≠0:=fun e=>hc (hiff.1 e)
  simp
  omega
structure FewR (N:Net):Prop where
 c:N.cals.length≤10
 n:N.names.length≤10
 o:N.ops.length≤10
 f:N.offs.length≤16
 l:N.lines.length≤50
 k:N.classes.length≤8
 cal: ∀x∈N.cals,x.week.length≤20∧x.hol.length≤60
 cod: ∀x∈N.offs,x.codes.length≤30
 nam: ∀k,1≤k→k≤5→ ∀s∈namesK N k,s.size≤40
theorem FewR.few (h:FewR N):FewN N:=⟨by have:=h.c; omega,by have:=h.n; omega,by have:=h.o; omega,by have:=h.f; omega,by have:=h.l; omega,by have:=h.k; omega⟩
theorem rfew_c (hN:NetAt w v N):Gives Tryz.prog 34 #[.agg v.cells.toArray] w fun u w'=>Below w.heap.size w w'∧u= .bool (dec (FewR N)):=by
 have hform:=NetIn.form hN
 obtain ⟨vc,vn,vo,vf,vl,vk⟩:=v
 obtain ⟨⟨A1,c1,e1⟩,⟨A2,c2,e2⟩,⟨A3,c3,e3⟩,⟨A4,c4,e4⟩,⟨A5,c5,e5⟩,⟨A6,c6,e6⟩⟩:=id hform
 dsimp only at e1 e2 e3 e4 e5 e6
 subst e1 e2 e3 e4 e5 e6
 refine gv (f:=34) ?_
 refine rnT ?_
 refine TW.box rfl rfl rfl rfl ?_
 rintro g1 w1 f1
 refine rnT ?_
 have hB1:=f1.blk
 have hN1:=net_step hN f1.below
 have b1:=f1.below
 refine TW.ld rfl (hB1.fld rfl) ?_
 refine rnT ?_
 refine TW.ld rfl (hB1.fld rfl) ?_
 refine rnT ?_
 refine TW.ld rfl (hB1.fld rfl) ?_
 refine rnT ?_
 refine TW.ld rfl (hB1.fld rfl) ?_
 refine rnT ?_
 refine TW.ld rfl (hB1.fld rfl) ?_
 refine rnT ?_
 refine TW.ld rfl (hB1.fld rfl) ?_
 refine rnT ?_
 refine CW.pk [0,1,2,41] rfl ?_
 refine CW.cond rfl (fun hbad=> ?_) (fun hgood=> ?_)
 ·refine rnT ?_
  refine rt1 rfl ⟨b1,?_⟩
  rw [dec_neg fun h=> ?_]
  have q1:=h.c
  have q2:=h.n
  have q3:=h.o
  have q4:=h.f
  have q5:=h.l
  have q6:=h.k
  simp at hbad
  omega
 have hg:(N.cals.length≤10∧N.names.length≤10∧N.ops.length≤10)∧N.offs.length≤16∧N.lines.length≤50∧N.classes.length≤8:=by
  simp at hgood
  omega
 have hf:FewN N:=⟨by omega,by omega,by omega,by omega,by omega,by omega⟩
 refine rnT ?_
 refine CW.lp [1] (fun i:Nat=> [(3,none,.int .i64 (i:Int))])
  (fun i W=>i≤N.cals.length∧Below w1.heap.size w1 W∧ ∀x∈N.cals.take i,x.week.length≤20∧x.hol.length≤60) (fun i=>N.cals.length-i) 0 ⟨Nat.zero_le _,Below.refl _ _,fun x hx=>by simp at hx⟩ ?_
 rintro i W ⟨hi,hW,hok⟩
 have hBW:=hB1.next hW
 refine rnT ?_
 refine TW.ld rfl (hBW.fld rfl) ?_
 refine rnT ?_
 refine CW.condP rfl (fun hlt=> ?_) (fun hge=> ?_)
 ·obtain ⟨x,hx,hxm⟩:=getx (l:=N.cals) (k:=i) (by omega)
  have hnW:=hN1.c.below hW
  obtain ⟨ad,rfl⟩:=hnW.addr (by omega)
  obtain ⟨ad',cs,e9,hF9,hrep9,hc9⟩:=hnW.at hx
  cases e9
  obtain ⟨u1,u2,rfl,q1,q2,q3⟩:=hrep9
  refine rnT ?_
  refine TW.ld rfl (hBW.fld rfl) ?_
  refine rnT ?_
  refine TW.ldS rfl (hc9) ?_
  refine TW.cl rfl (rsmall_c (u:=u1) (v:=u2) ⟨q1,q2,q3⟩) ?_
  rintro y5 w5 ⟨d5,rfl⟩
  refine rnT ?_
  refine CW.pk [1,3,55] rfl ?_
  refine CW.cond rfl (fun hb1=> ?_) (fun hb2=> ?_)
  ·refine rnT ?_
   refine rt1 rfl ⟨(b1.step hW).step d5,?_⟩
   rw [dec_neg fun h=> ?_]
   have:=h.cal x hxm
   simp [this.1,this.2] at hb1
  ·refine rnT ?_
   refine KW.rd (i+1) ⟨by omega,hW.step d5,fun z hz=> ?_⟩
   rw [List.take_add_one,hx] at hz
   rcases List.mem_append.1 hz with hz|hz
   ·exact hok z hz
   ·simp at hz
    subst hz
    simpa using hb2
 rw [List.take_of_length_le (by omega)] at hok
 refine rnT ?_
 refine CW.lp [1] (fun j:Nat=> [(4,none,.int .i64 (j:Int))])
  (fun j W'=>j≤N.offs.length∧W'=W∧ ∀x∈N.offs.take j,x.codes.length≤30) (fun j=>N.offs.length-j) 0 ⟨Nat.zero_le _,rfl,fun x hx=>by simp at hx⟩ ?_
 rintro j W' ⟨hj,rfl,hcok⟩
 refine rnT ?_
 refine TW.ld rfl (hBW.fld rfl) ?_
 refine rnT ?_
 refine CW.condP rfl (fun hlt2=> ?_) (fun hge2=> ?_)
 ·obtain ⟨x,hx,hxm⟩:=getx (l:=N.offs) (k:=j) (by omega)
  have hnW:=hN1.f.below hW
  obtain ⟨ad,rfl⟩:=hnW.addr (by omega)
  obtain ⟨ad',cs,e9,hF9,hrep9,hc9⟩:=hnW.at hx
  cases e9
  obtain ⟨u1,rfl,q1,q2,q3,q4,q5,q6,q7⟩:=hrep9
  obtain ⟨U,ucap,rfl,_⟩:=q7.form
  refine rnT ?_
  refine TW.ld rfl (hBW.fld rfl) ?_
  refine rnT ?_
  refine TW.ld rfl (hc9 6 _ rfl) ?_
  refine rnT ?_
  refine CW.pk [1,4,70] rfl ?_
  refine CW.condP rfl (fun hb1=> ?_) (fun hb2=> ?_)
  ·refine rnT ?_
   refine rt1 rfl ⟨b1.step hW,?_⟩
   rw [dec_neg fun h=> ?_]
   have:=h.cod x hxm
   omega
  ·refine rnT ?_
   refine KW.rd (j+1) ⟨by omega,rfl,fun z hz=> ?_⟩
   rw [List.take_add_one,hx] at hz
   rcases List.mem_append.1 hz with hz|hz
   ·exact hcok z hz
   ·simp at hz
    subst hz
    omega
 rw [List.take_of_length_le (by omega)] at hcok
 refine rnT ?_
 refine CW.lp [1] (fun k:Nat=> [(5,none,.int .i64 (k:Int))])
  (fun k W'=>1≤k∧k≤6∧Below w1.heap.size w1 W'∧ ∀j,1≤j→j<k→ ∀s∈namesK N j,s.size≤40) (fun k=>6-k) 1 ⟨Nat.le_refl _,by decide,hW,fun j h1 h2=>by omega⟩ ?_
 rintro k W2 ⟨hk1,hk6,hW2,hnok⟩
 have hBW2:=hB1.next hW2
 have hNW2:=net_step hN1 hW2
 refine rnT ?_
 refine CW.condP rfl (fun hlt3=> ?_) (fun hge3=> ?_)
 ·have hk5:k≤5:=by omega
  have hnl:=hf.names k
  refine rnT ?_
  refine TW.ldS rfl (fun _ _ hv=>hBW2.fld hv) ?_
  refine rnT ?_
  refine TW.cl rfl (names_c (v:=⟨.slice A1 N.cals.length c1,.slice A2 N.names.length c2,.slice A3 N.ops.length c3,.slice A4 N.offs.length c4,.slice A5 N.lines.length c5,.slice A6 N.classes.length c6⟩) hNW2 hf hk1 hk5) ?_
  rintro y5 w5 ⟨d5,hR⟩
  obtain ⟨A,cap,rfl⟩:=hR.form
  refine rnT ?_
  refine CW.lp [1,5,6] (fun i:Nat=> [(7,none,.int .i64 (i:Int))])
   (fun i W'=>i≤(namesK N k).length∧W'=w5∧ ∀s∈(namesK N k).take i,s.size≤40) (fun i=>(namesK N k).length-i) 0 ⟨Nat.zero_le _,rfl,fun x hx=>by simp at hx⟩ ?_
  rintro i W3 ⟨hi,rfl,hiok⟩
  refine rnT ?_
  refine CW.pk [1,5,6,7,81] rfl ?_
  refine CW.condP rfl (fun hlt4=> ?_) (fun hge4=> ?_)
  ·obtain ⟨s,hs,hsm⟩:=getx (l:=namesK N k) (k:=i) (by omega)
   obtain ⟨g,rfl,hsc⟩:=hR.at hs
   refine rnT ?_
   refine TW.ld rfl hsc ?_
   refine rnT ?_
   refine CW.condP rfl (fun hb1=> ?_) (fun hb2=> ?_)
   ·refine rnT ?_
    refine rt1 rfl ⟨(b1.step hW2).step d5,?_⟩
    rw [dec_neg fun h=> ?_]
    have:=h.nam k hk1 hk5 s hsm
    omega
   ·refine rnT ?_
    refine KW.rd (i+1) ⟨by omega,rfl,fun z hz=> ?_⟩
    rw [List.take_add_one,hs] at hz
    rcases List.mem_append.1 hz with hz|hz
    ·exact hiok z hz
    ·simp at hz
     subst hz
     omega
  ·rw [List.take_of_length_le (by omega)] at hiok
   refine rnT ?_
   refine KW.rd (k+1) ⟨by omega,by omega,hW2.step d5,fun j h1 h2=> ?_⟩
   rcases Nat.lt_or_ge j k with h|h
   ·exact hnok j h1 h
   ·have:j=k:=by omega
    subst this
    exact hiok
 ·refine rnT ?_
  refine rt1 rfl ⟨b1.step hW2,?_⟩
  rw [dec_pos ⟨hg.1.1,hg.1.2.1,hg.1.2.2,hg.2.1,hg.2.2.1,hg.2.2.2,hok,hcok,fun j h1 h5=>hnok j h1 (by omega)⟩]
end Go.Proofs.YtobaafdejnimkaaGreatDoor
namespace Go.PF
open Go.RowKit
end Go.PF
namespace Go.Proofs.YtobaafdejnimkaaGreatDoor
open Go.PF Go.RowKit Go.Ord
attribute [local irreducible] TW CW KW DW
theorem rfitting_c {w:World} {dv lv:Value} {d:Dist} {l:List Ev} {W:Option Addr} {nw wc:Nat} (hd:SD w dv d) (hl:SE w lv l):Gives Tryz.prog 44 #[dv,lv,.slice W nw wc] w fun x w'=>Below w.heap.size w w'∧x= .bool (dec (FitW d l nw)):=by
 obtain ⟨A,cap,rfl,_⟩:=hd.form
 obtain ⟨B,bcap,rfl,_⟩:=hl.form
 refine gv (f:=44) ?_
 refine rnT ?_
 refine TW.callF (cap:= []) rfl rfl en96 rfl ct (Args.cons rfl id (Args.cons rfl id (Args.cons rfl ct Args.nil))) (fun _=>rvalid27_c hd hl) ?_
 rintro w3 c3
 refine rnT ?_
 refine rt1 rfl ⟨c3,?_⟩
 by_cases hf:FitW d l nw
 ·rw [dec_pos hf,dec_pos hf.wfe]
  have h1:=hf.few
  have h2:=hf.worlds
  simp
  omega
 ·rw [dec_neg hf]
  by_cases hw:WfE d l
  ·rw [dec_pos hw]
   have: ¬(l.length≤14∧nw≤400):=fun h=>hf ⟨h.1,h.2,hw.wd,hw.each⟩
   congr 1
   simp
   omega
  ·rw [dec_neg hw]
   simp
end Go.Proofs.YtobaafdejnimkaaGreatDoor
