/- Texts of this claim,joined. -/
import Derived.Test.YtffjgpoadfkjlaaGreatDoorQH
set_option linter.unusedSimpArgs false
set_option linter.unusedVariables false
set_option maxRecDepth 100000
set_option maxHeartbeats 4000000
namespace Go.Proofs.YtffjgpoadfkjlaaGreatDoor
open Go.PF Go.RowKit Go.Ord
attribute [local irreducible] TW CW KW DW
variable {w:World} {n:Nat}
structure LegAt (w:World) (ad:Addr) (n:Nat) (g:Int):Prop where
 c: ∀j u,[Value.int .i64 (n:Int),.int .i64 ((n:Int)+1),.int .i64 g][j]?=some u→w.cell? (ad.add j)=some u
theorem LegAt.below {w':World} {ad:Addr} {g:Int} (h:LegAt w ad n g) (hb:Below w.heap.size w w'):LegAt w' ad n g:=⟨fun j u hj=>(hb.cell (block_lt_of_cell (h.c j u hj))).trans (h.c j u hj)⟩
theorem LegAt.at0 {ad:Addr} {g:Int} (h:LegAt w ad n g): ∀j u,[Value.int .i64 (n:Int),.int .i64 ((n:Int)+1),.int .i64 g][j]?=some u→w.cell? ((ad.add (Int.toNat ((0:Nat):Int)*3)).add j)=some u:=fun j u hj=>by
 rw [Addr.add_add]
 have:Int.toNat ((0:Nat):Int)*3+j=j:=by simp
 rw [this]
 exact h.c j u hj
theorem wfJ1_c {g g5 g6 i cap:Nat} {B:Option Addr} {bs:List Bool} (hE:Blk w g 31 [.slice B n cap]) (hU:Blk w g6 92 [.slice (some ⟨g5,0,none⟩) n n]) (hb:Blk w g5 4 (bs.map Value.bool)) (hl:bs.length=n) (hn:n≤16) (hi:i<n) (h0:bs[i]?=some false) :
  Gives Tryz.prog 46 #[.int .i64 (i:Int),.pointer (some ⟨g,0,none⟩),.pointer (some ⟨g6,0,none⟩)] w fun u w'=>But g5 w w'∧Blk w' g5 4 ((bs.set i true).map Value.bool)∧u= .bool true:=by
 refine gv (f:=46) ?_
 refine rnT ?_
 have hc:w.cell? (Addr.add ⟨g5,0,none⟩ ((i:Int).toNat*1))=some (.bool false):=by
  rw [show (i:Int).toNat*1=i by omega]
  exact hb.fld (by rw [List.getElem?_map,h0]; rfl)
 refine TW.ld rfl (hE.cell 0) ?_
 refine rnT ?_
 refine TW.ld rfl (hU.cell 0) ?_
 refine rnT ?_
 refine TW.ld rfl hc ?_
 refine rnT ?_
 refine CW.cond rfl (fun hbad=> ?_) (fun hgood=> ?_)
 ·exfalso
  simp at hbad
  omega
 refine rnT ?_
 refine TW.ld rfl (hU.cell 0) ?_
 refine rnT ?_
 refine TW.storeFld rfl sz4 rfl rfl hb (by simp; omega) rfl ?_
 rintro w2 hB2 hbut2 hsz2
 refine rnT ?_
 refine rt1 rfl ⟨hbut2,?_,rfl⟩
 rw [show (i:Int).toNat*1=i by omega] at hB2
 rw [List.map_set]
 exact hB2
theorem owellJ_c {v u:Value} {d:Dist} {l:List Ev} {la:Addr} {lc:Nat} {gp:Int} (hd:SD w v d) (hl:SE w u l) (hleg:LegAt w la n gp) (hn:l.length=n+2) (hgp:0≤gp∧gp≤1000000):Gives Tryz.prog 20 #[v,u,.slice (some la) 1 lc] w fun x w'=>Below w.heap.size w w'∧x= .bool (dec (WfE d l)):=by
 obtain ⟨A,cap,rfl,hcap⟩:=hd.form
 obtain ⟨B,lcap,rfl,hlcap⟩:=hl.form
 have hmax:d.length≤9223372036854775807:=hd.len.2.2
 have hlmax:l.length≤9223372036854775807:=hl.len.2.2
 refine gv (f:=20) ?_
 refine rnT ?_
 refine TW.box rfl rfl rfl rfl ?_
 rintro g w1 f1
 refine rnT ?_
 refine TW.cl rfl (distances_c (sd_step hd f1.below)) ?_
 rintro v2 w2 ⟨hb2,rfl⟩
 have hB2:Below w.heap.size w w2:=f1.below.step hb2
 have hblk:=f1.blk.next hb2
 refine rnT ?_
 refine TW.ld rfl (hblk.cell 0) ?_
 refine rnT ?_
 refine CW.cond rfl (fun hbad=> ?_) (fun hgood=> ?_)
 ·refine rnT ?_
  refine rt1 rfl ⟨hB2,?_⟩
  rw [dec_neg]
  intro h
  simp [dec_pos h.wd] at hbad
  have:=h.few
  omega
 have hwd:WfD d:=dec_iff.1 (by cases hq:dec (WfD d)<;>simp_all)
 have hfew:l.length≤16:=by
  simp [dec_pos hwd] at hgood
  omega
 refine rnT ?_
 refine TW.ld rfl (hblk.cell 0) ?_
 refine rnT ?_
 refine CW.lp [0,1,2,4,6,21,22] (fun k:Nat=> [(23,none,.int .i64 (k:Int))])
  (fun k W=>k≤l.length∧Below w.heap.size w W∧Blk W g 31 [.slice B l.length lcap]∧ ∀(i:Nat) (e:Ev),i<k→l[i]?=some e→EOK d e) (fun k=>l.length-k) 0 ⟨by omega,hB2,hblk,fun i e hi=>by omega⟩ ?_
 rintro k W ⟨hk,hB3,hblk3,heach⟩
 refine rnT ?_
 refine CW.condP rfl (fun hlt=> ?_) (fun hge=> ?_)
 ·have hkl:k<l.length:=by omega
  obtain ⟨e,he⟩: ∃e,l[k]?=some e:=⟨l[k],List.getElem?_eq_getElem hkl⟩
  have hl3:=se_step hl hB3
  obtain ⟨ad,rfl⟩:=hl3.addr (by omega)
  obtain ⟨nv,hcells,i1,i2,i3,hneeds⟩:=SE.get hl3 he
  obtain ⟨C,ncap,rfl,_⟩:=hneeds.form
  refine rnT ?_
  refine TW.ldS rfl (hcells) ?_
  refine TW.newVar rfl zc39 rfl sz39 rfl rfl ?_
  rintro g4 w4 f4
  refine rnT ?_
  refine TW.ld rfl (f4.blk.fld rfl) ?_
  refine rnT ?_
  refine TW.ld rfl (f4.blk.fld rfl) ?_
  refine rnT ?_
  refine CW.pk [0,1,2,4,6,8,21,22,23,36] rfl ?_
  refine CW.cond rfl (fun hbad2=> ?_) (fun hgood2=> ?_)
  ·refine rnT ?_
   refine rt1 rfl ⟨hB3.step f4.below,?_⟩
   rw [dec_neg]
   intro h
   have h1:=h.each e (List.mem_of_getElem? he)
   have:=h1.o1
   have:=h1.o2
   simp at hbad2
   omega
  refine rnT ?_
  refine KW.rd (k+1) ⟨by omega,hB3.step f4.below,hblk3.next f4.below,fun i e' hi he'=> ?_⟩
  rcases Nat.lt_or_ge i k with h|h
  ·exact heach i e' h he'
  ·obtain rfl:i=k:=by omega
   rw [he] at he'; cases he'
   simp at hgood2
   exact ⟨by omega,by omega⟩
 ·have hok:WfE d l:=⟨hwd,hfew,fun e he=>by
   obtain ⟨i,hi,he'⟩:=List.getElem_of_mem he
   exact heach i e (by omega) (by rw [List.getElem?_eq_getElem hi,he'])⟩
  refine rnT ?_
  refine TW.ld rfl (hblk3.cell 0) ?_
  refine rnT ?_
  refine TW.makeSlice rfl rfl (zero1_of go92 ze4 rfl) rfl rfl (by omega) (by omega) ?_
  rintro g5 w5 f5
  refine TW.newVar1 rfl zc92 rfl sz92 rfl ?_
  rintro g6 w6 f6
  refine rnT ?_
  refine TW.makeFunc rfl rfl (Args.cons rfl ct (Args.cons rfl ct Args.nil)) ?_
  refine rnT ?_
  have hB6:=(hB3.step f5.below).step f6.below
  have hE6:=(hblk3.next f5.below).next f6.below
  have hU6:=f6.blk
  have hb6:Blk w6 g5 4 ((List.replicate l.length false).map Value.bool):=by
   rw [List.map_replicate]
   exact f5.blk.next f6.below
  have hg5:=f5.at_
  have hg6:=f6.at_
  have hW3:=hB3.size
  have hE3:=hblk3.lt
  have hl6:=hleg.below hB6
  have hf5:=f5.size
  have hf6:=f6.size
  refine CW.lp [10,42,43] (fun k:Nat=> [(44,none,.int .i64 (k:Int))])
   (fun k W'=>k≤1∧Below w.heap.size w W'∧(k=0→W'=w6)) (fun k=>1-k) 0 ⟨Nat.zero_le _,hB6,fun _=>rfl⟩ ?_
  rintro k2 W' ⟨hk2,hBW,hW0⟩
  refine rnT ?_
  refine CW.pk [10,42,43,44,45] rfl ?_
  refine CW.condP rfl (fun hlt2=> ?_) (fun hge2=> ?_)
  ·have hk0:k2=0:=by omega
   subst hk0
   have hw:=hW0 rfl
   subst hw
   refine rnT ?_
   refine TW.ldS rfl (hl6.at0) ?_
   refine TW.newVar rfl zc43 rfl sz43 rfl rfl ?_
   rintro g7 w7 f7
   refine rnT ?_
   have hE7:=hE6.next f7.below
   have hU7:=hU6.next f7.below
   have hb7:=hb6.next f7.below
   refine TW.ld rfl (f7.blk.fld rfl) ?_
   refine TW.call0 rfl rfl en46 rfl (Args.cons rfl ct Args.nil) (wfJ1_c (i:=n) hE7 hU7 hb7 (by simp) hfew (by omega) (by rw [List.getElem?_replicate,if_pos (by omega)])) ?_
   rintro y8 w8 ⟨hbut8,hb8,rfl⟩
   have hg7:=f7.at_
   have hE8:=But.blk hbut8 hE7 (by omega)
   have hU8:=But.blk hbut8 hU7 (by omega)
   have hL8:=But.blk (k:=g7) hbut8 f7.blk (by omega)
   refine TW.v V.not rfl ⟨ct,trivial⟩ (fun _=>trivial) ?_
   refine TW.v V.move rfl ⟨ct,trivial⟩ (fun _=>trivial) ?_
   refine TW.known rfl (by simp [Cnd]) ?_
   refine TW.v V.move rfl ⟨ct,trivial⟩ (fun _=>trivial) ?_
   refine TW.known rfl (by simp [Cnd]) ?_
   refine rnT ?_
   refine TW.known rfl (by simp [Cnd]) ?_
   refine TW.ld rfl (hL8.fld rfl) ?_
   refine TW.known rfl (by simp [Cnd]) ?_
   refine TW.call0 rfl rfl en46 rfl (Args.cons rfl ct Args.nil) (wfJ1_c (i:=n+1) hE8 hU8 hb8 (by simp) hfew (by omega) (by rw [List.getElem?_set_ne (by omega),List.getElem?_replicate,if_pos (by omega)])) ?_
   rintro y9 w9 ⟨hbut9,hb9,rfl⟩
   have hL9:=But.blk (k:=g7) hbut9 hL8 (by omega)
   refine rnT ?_
   refine TW.ld rfl (hL9.fld rfl) ?_
   refine rnT ?_
   refine TW.ld rfl (hL9.fld rfl) ?_
   refine rnT ?_
   refine CW.pk [10,12,42,43,44,69] rfl ?_
   have hBW7:=hBW.step f7.below
   have hBW9:Below w.heap.size w w9:=hBW7.grown (But.trans hbut8 hbut9) hBW7.size (fun q hq=>by cases hq; omega)
   refine CW.cond rfl (fun hbad3=> ?_) (fun hgood3=> ?_)
   ·exfalso
    simp at hbad3
    omega
   refine rnT ?_
   refine KW.rd 1 ⟨Nat.le_refl _,hBW9,fun h=>absurd h (by decide)⟩ (hm:=by decide)
  ·refine rnT ?_
   refine rt1 rfl ⟨hBW,by rw [dec_pos hok]⟩
end Go.Proofs.YtffjgpoadfkjlaaGreatDoor
namespace Go.PF
open Go.RowKit
abbrev SI (w:World) (v:Value) (l:List Int):Prop:=SL intT (fun k=>k<w.heap.size) w v l
theorem getx {α:Type} {l:List α} {k:Nat} (h:k<l.length): ∃x,l[k]?=some x∧x∈l:=⟨l[k],List.getElem?_eq_getElem h,List.getElem_mem h⟩
theorem SL.getT {F:Nat→Prop} {w:World} {ad:Addr} {n cap:Nat} {l:List ByteArray} (h:SL strT F w (.slice (some ad) n cap) l) {i:Nat} {x:ByteArray} (hx:l[i]?=some x):w.cell? (ad.add ((i:Int).toNat*1))=some (.string x):=by
 obtain ⟨ad',cs,h1,_,⟨rfl,_⟩,hc⟩:=h.at hx
 cases h1
 have:=hc 0 (.string x) rfl
 simpa [strT,Addr.add] using this
end Go.PF
namespace Go.Proofs.YtffjgpoadfkjlaaGreatDoor
open Go.PF Go.RowKit Go.Ord
attribute [local irreducible] TW CW KW DW
theorem used_at {m n k:Nat} (hm:m=n+2) (hk:k<m):(((List.replicate m false).set n true).set (n+1) true)[k]?=some (decide (n≤k)):=by
 rw [List.getElem?_set,List.getElem?_set,List.length_set,List.length_replicate,List.getElem?_replicate]
 by_cases h1:n+1=k
 ·rw [if_pos h1,if_pos (by omega),decide_eq_true (by omega)]
 ·rw [if_neg h1]
  by_cases h2:n=k
  ·rw [if_pos h2,if_pos (by omega),decide_eq_true (by omega)]
  ·rw [if_neg h2,if_pos hk,decide_eq_false (by omega)]
theorem splitJ_c {w:World} {dv u:Value} {d:Dist} {rest l:List Ev} {a b:Ev} {la:Addr} {n lc m:Nat} {gp:Int} (hd:SD w dv d) (hl:SE w u l) (hleg:LegAt w la n gp) (hle:l=rest++ [a,b]) (hn:rest.length=n) (hgp:0≤gp∧gp≤1000000) (hok:WfE d l) (hm:m%32=l.length) (hx:m / 32=0∨m / 32=n+1∧0<gp):Gives Tryz.prog 21 #[dv,u,.slice (some la) 1 lc] w fun x w'=>Below w.heap.size w w' ∧
  ((x= .tuple #[.slice none 0 0,.bool false]∧(¬LegOK d a b gp∨ ∃u∈jU a b gp::rest.map uOf,u.high<u.low))∨ ∃v us,x= .tuple #[v,.bool true]∧SL (uvT m) (fun k=>k<w'.heap.size) w' v us∧us.Perm (jU a b gp::rest.map uOf)∧LegOK d a b gp∧ ∀u∈us,u.low≤u.high):=by
 obtain ⟨A,cap,rfl,hcap⟩:=hd.form
 obtain ⟨B,lcap,rfl,hlcap⟩:=hl.form
 have h16:=hok.few
 have hll:l.length=n+2:=by rw [hle,List.length_append,hn]; rfl
 have hla:l[n]?=some a:=by rw [hle,List.getElem?_append_right (by omega),hn]; simp
 have hlb:l[n+1]?=some b:=by rw [hle,List.getElem?_append_right (by omega),hn]; simp
 have hoa:=hok.each a (List.mem_of_getElem? hla)
 have hob:=hok.each b (List.mem_of_getElem? hlb)
 have a1:=hoa.o1
 have a2:=hoa.o2
 have b1:=hob.o1
 have b2:=hob.o2
 refine gv (f:=21) ?_
 refine rnT ?_
 refine TW.makeSlice rfl rfl (zero1_of go92 ze4 rfl) rfl rfl (by omega) (by omega) ?_
 rintro g1 w1 f1
 refine rnT ?_
 have hg1:=f1.at_
 refine CW.lp [0,1,9,22,23] (fun x:Nat×Value×List (Value×U)=> [(8,none,x.2.1),(24,none,.int .i64 (x.1:Int))])
  (fun x W=>x.1≤1∧Below w.heap.size w W∧(x.1=0→W=w1∧x.2.1= .slice none 0 0)∧(x.1=1→LegOK d a b gp∧Blk W g1 4 ((((List.replicate l.length false).set n true).set (n+1) true).map Value.bool)∧OwnS W 78 1 x.2.1 1 (x.2.2.map (·.1))∧(∀g,x.2.1.ownBlock=some g→g1<g)∧Prs m x.2.2∧x.2.2.map (·.2)= [jU a b gp])) (fun x=>1-x.1) (0,.slice none 0 0,[]) ⟨Nat.zero_le _,f1.below,fun _=>⟨rfl,rfl⟩,fun h=>absurd h (by decide)⟩ ?_
 rintro ⟨k0,uv0,ps0⟩ W ⟨hk0,hBW,h0,h1⟩
 dsimp only at hk0 h0 h1
 refine rnT ?_
 refine CW.condP rfl (fun hlt=> ?_) (fun hge=> ?_)
 ·have hk:k0=0:=by omega
  subst hk
  obtain ⟨rfl,rfl⟩:=h0 rfl
  have hl1:=hleg.below f1.below
  have hd1:=sd_step hd f1.below
  have hs1:=se_step hl f1.below
  obtain ⟨ad,rfl⟩:=hs1.addr (by omega)
  obtain ⟨da,rfl⟩:=hd1.addr (by omega)
  have hb1:Blk W g1 4 ((List.replicate l.length false).map Value.bool):=by
   rw [List.map_replicate]
   exact f1.blk
  refine rnT ?_
  refine TW.ldS rfl (hl1.at0) ?_
  refine TW.newVar rfl zc43 rfl sz43 rfl rfl ?_
  rintro g11 w2 f2
  refine rnT ?_
  refine CW.drawR mixed fun W1 hW1=> ?_
  refine RW.drawStore (g1) 4 ((((List.replicate l.length false).map Value.bool)).set ((n:Int).toNat*1) (.bool true)) 8 (by kernel_rfl) (by kernel_rfl) rfl rfl rfl hW1 ?_
  refine DS.move rfl rfl rfl ct ?_
  refine DS.fieldAddr rfl rfl fo43_0 rfl ct ?_
  have hne:g11≠g1:=by
   have:=f2.at_
   have:=hb1.lt
   omega
  have hb2:=hb1.next f2.below
  refine DS.load rfl rfl one3 rfl ct (fun _=>⟨f2.blk.fld rfl,hne⟩) ?_
  refine DS.move rfl rfl rfl ct ?_
  refine DS.fieldAddr rfl rfl fo43_1 rfl ct ?_
  refine DS.load rfl rfl one3 rfl ct (fun _=>⟨f2.blk.fld rfl,hne⟩) ?_
  refine DS.indexAddr rfl rfl Tryz.underlying92 sz4 rfl ct rfl ct (fun _=>by (try dsimp only); omega) ?_
  refine DS.store rfl sz4 rfl rfl hb2 (by simp; omega) rfl rfl ?_
  refine DS.nil (DS.fin [0,1,8,9,11,22,23,24,31,33] [(0,_,_),(1,_,_),(8,_,_),(9,_,_),(11,_,_),(22,_,_),(23,_,_),(24,_,_),(31,_,_),(33,_,_)] rfl (fun w3 b3 hB3=>KW.rk' ?_))
  refine RW.one (by kernel_rfl) (by kernel_rfl) rfl ?_
  refine TW.v V.indexAddr rfl ⟨ct,ct,trivial⟩ (fun _=>by (try dsimp only); omega) ?_
  refine TW.nil (KW.pick [0,1,8,9,11,22,23,24,35] [(0,_,_),(1,_,_),(8,_,_),(9,_,_),(11,_,_),(22,_,_),(23,_,_),(24,_,_),(35,_,_)] rfl (KW.rk ?_))
  refine RW.one (by kernel_rfl) (by kernel_rfl) rfl ?_
  refine TW.storeFld rfl sz4 rfl rfl hB3 (by simp; omega) rfl ?_
  rintro w4 hB4 hbut4 hsz4
  have hbut:=But.trans b3 hbut4
  refine TW.nil (KW.pick [0,1,8,9,11,22,23,24] [(0,_,_),(1,_,_),(8,_,_),(9,_,_),(11,_,_),(22,_,_),(23,_,_),(24,_,_)] rfl (KW.rk ?_))
  refine RW.end rfl (KW.pick [0,1,8,9,11,22,23,24] [(0,_,_),(1,_,_),(8,_,_),(9,_,_),(11,_,_),(22,_,_),(23,_,_),(24,_,_)] rfl (KW.then_ ?_))
  refine CW.seq ?_
  refine CW.draw mixed (by kernel_rfl) ?_
  refine rnD ?_
  have hw1s:=f1.size
  have hB04:Below w.heap.size w w4:=(f1.below.step f2.below).grown hbut (f1.below.step f2.below).size (fun q hq=>by cases hq; omega)
  have hL4:=But.blk (k:=g11) hbut f2.blk hne
  have hs4:=hl.below hB04
  have hd4:=hd.below hB04
  obtain ⟨nva,hca,ia1,ia2,ia3,hna⟩:=SE.get hs4 hla
  obtain ⟨nvb,hcb,ib1,ib2,ib3,hnb⟩:=SE.get hs4 hlb
  rw [show ((n+1:Nat):Int)=(n:Int)+1 by omega] at hcb
  obtain ⟨Ca,nca,rfl,_⟩:=hna.form
  obtain ⟨Cb,ncb,rfl,_⟩:=hnb.form
  obtain ⟨row,hr⟩: ∃r,d[a.office.toNat]?=some r:=⟨_,List.getElem?_eq_getElem (by omega)⟩
  obtain ⟨rv,hcell,hrow⟩:=hd4.row hr
  obtain ⟨R1,rcap,rfl,_⟩:=hrow.form
  have hrl:row.length=d.length:=hok.wd.row _ row hr
  obtain ⟨ra,rfl⟩:=hrow.addr (by omega)
  obtain ⟨z,hz⟩: ∃z,row[b.office.toNat]?=some z:=⟨_,List.getElem?_eq_getElem (by omega)⟩
  have hza:=at2_eq hr hz
  have hzc:=hrow.getI hz
  simp only [Int.toNat_natCast] at hcell hzc
  refine DW.ld rfl (hL4.fld rfl) ?_
  refine rnD ?_
  refine DW.ld rfl (hca 0 _ rfl) ?_
  refine rnD ?_
  refine DW.ld rfl hcell ?_
  refine rnD ?_
  refine DW.ld rfl (hL4.fld rfl) ?_
  refine rnD ?_
  refine DW.ld rfl (hcb 0 _ rfl) ?_
  refine rnD ?_
  refine DW.ld rfl hzc ?_
  refine rnD ?_
  refine DW.fi [0,1,8,9,11,12,22,23,24] rfl fun w5 b5=> ?_
  refine rnT ?_
  have hL5:=hL4.next b5
  refine TW.ld rfl (hL5.fld rfl) ?_
  refine rnT ?_
  refine CW.pk [0,1,8,9,11,12,22,23,24,60] rfl ?_
  have hB05:=hB04.step b5
  refine CW.cond rfl (fun hbad=> ?_) (fun hgood=> ?_)
  ·refine rnT ?_
   refine rt2 rfl ⟨hB05,.inl ⟨rfl,.inl fun h=> ?_⟩⟩
   have q1:=h.1
   have q2:=h.2
   rw [hza] at q1 q2
   simp at hbad
   omega
  have hlo:LegOK d a b gp:=by
   simp at hgood
   exact ⟨by rw [hza]; omega,by rw [hza]; omega⟩
  have hca5: ∀j u,[Value.int .i64 a.office,.int .i64 a.low,.int .i64 a.high,.slice Ca a.needs.length nca][j]?=some u→w5.cell? ((ad.add ((n:Int).toNat*4)).add j)=some u:=fun j u hj=>(b5.cell (block_lt_of_cell (hca j u hj))).trans (hca j u hj)
  have hcb5: ∀j u,[Value.int .i64 b.office,.int .i64 b.low,.int .i64 b.high,.slice Cb b.needs.length ncb][j]?=some u→w5.cell? ((ad.add (((n:Int)+1).toNat*4)).add j)=some u:=fun j u hj=>(b5.cell (block_lt_of_cell (hcb j u hj))).trans (hcb j u hj)
  refine rnT ?_
  refine CW.drawR mixed fun W3 hb3=> ?_
  refine RW.draw .weak 15 (by kernel_rfl) (by kernel_rfl) rfl rfl hb3 ?_
  refine rnD ?_
  refine DW.ldS rfl (fun _ _ hv=>hL5.fld hv) ?_
  refine rnD ?_
  refine DW.ld rfl (hL5.fld rfl) ?_
  refine rnD ?_
  refine DW.ldS rfl (hca5) ?_
  refine rnD ?_
  refine DW.ld rfl (hL5.fld rfl) ?_
  refine rnD ?_
  refine DW.ldS rfl (hcb5) ?_
  refine DW.build [0,1,2] [.tmp 62,.tmp 67,.tmp 72] (jV n gp a b (.slice Ca a.needs.length nca) (.slice Cb b.needs.length ncb)) rfl rfl rfl rfl (DArgs.cons rfl ct (DArgs.cons rfl ct (DArgs.cons rfl ct DArgs.nil))) (by kernel_rfl) ?_
  refine DW.v (V.makeIface rfl) rfl ⟨ct,trivial⟩ (fun _=>trivial) ?_
  refine DW.buildSlice 78 _ rfl rfl rfl eo65 (DArgs.cons rfl ct DArgs.nil) rfl rfl rfl rfl rfl ?_
  refine DW.nil (DW.finX [0,1,8,9,11,12,22,23,24,61] [(0,_,_),(1,_,_),(8,_,_),(9,_,_),(11,_,_),(12,_,_),(22,_,_),(23,_,_),(24,_,_),(61,_,_)] rfl [75] rfl fun vs w6 b6 hs6=>KW.rk' ?_)
  obtain ⟨v75,rfl,h75⟩:=Sats.one hs6
  obtain ⟨g6,rfl,hB6⟩:=h75
  refine RW.one (by kernel_rfl) (by kernel_rfl) rfl ?_
  refine TW.append [.iface 114 (.agg (jV n gp a b (.slice Ca a.needs.length nca) (.slice Cb b.needs.length ncb)).toArray)] rfl rfl go65 rfl (OwnS.nil _ _ _) rfl rfl (fun j v hj=>⟨⟨g6,0,none⟩,rfl,hB6.fld hj⟩) (fun v hv=>by simp at hv; subst hv; rfl) (by omega) (by omega) ?_
  rintro uv' w7 hO7 hg7 hnew7
  refine TW.nil (KW.pick [0,1,8,9,11,12,22,23,24,76] [(0,_,_),(1,_,_),(8,_,_),(9,_,_),(11,_,_),(12,_,_),(22,_,_),(23,_,_),(24,_,_),(76,_,_)] rfl (KW.rk ?_))
  refine RW.one (by kernel_rfl) (by kernel_rfl) rfl ?_
  refine TW.v V.assign rfl ⟨ct,trivial⟩ (fun _=>trivial) ?_
  refine TW.nil (KW.pick [0,1,8,9,11,12,22,23,24] [(0,_,_),(1,_,_),(8,_,_),(9,_,_),(11,_,_),(12,_,_),(22,_,_),(23,_,_),(24,_,_)] rfl (KW.rk ?_))
  refine RW.end rfl (KW.pick [0,1,8,9,11,12,22,23,24] [(0,_,_),(1,_,_),(8,_,_),(9,_,_),(11,_,_),(12,_,_),(22,_,_),(23,_,_),(24,_,_)] rfl (KW.blockN (KW.then_ ?_)))
  refine rnT ?_
  have hB06:=hB05.step b6
  have hbl:Blk w6 g1 4 ((((List.replicate l.length false).set n true).set (n+1) true).map Value.bool):=by
   have e1:(n:Int).toNat*1=n:=by omega
   have e2:((n:Int)+1).toNat*1=n+1:=by omega
   rw [e1,e2] at hB4
   rw [List.map_set,List.map_set]
   exact (hB4.next b5).next b6
  have hg1l:=hbl.lt
  refine KW.rd (1,uv',[(.iface 114 (.agg (jV n gp a b (.slice Ca a.needs.length nca) (.slice Cb b.needs.length ncb)).toArray),jU a b gp)]) ⟨Nat.le_refl _,hB06.grown hg7 hB06.size (fun q hq=>by simp [Value.ownBlock] at hq),fun h=>absurd (show (1:Nat)=0 from h) (by decide),fun _=>⟨hlo,GB.blk hg7 hbl (fun e=>by simp [Value.ownBlock] at e),hO7,fun q hq=> ?_,fun p hp=> ?_,rfl⟩⟩ (hm:=by show 1-1<1-0; decide)
  ·rcases hnew7 with h|h
   ·rw [h] at hq; simp [Value.ownBlock] at hq
   ·rw [h] at hq; cases hq; exact hg1l
  ·rw [List.mem_singleton] at hp
   subst hp
   exact uv_journey (by omega) (by omega) hx hgp a1 b1
 ·have hk:k0=1:=by omega
  subst hk
  obtain ⟨hlo,hbl,hO0,hgo,hps0,hm0⟩:=h1 rfl
  have hl0:ps0.length=1:=by have:=congrArg List.length hm0; simpa using this
  have htk: ∀k,k≤n→l.take k=rest.take k:=fun k hk=>by rw [hle,List.take_append_of_le_length (by omega)]
  refine rnT ?_
  refine CW.lp [9,78,79] (fun x:Nat×Value×List (Value×U)=> [(8,none,x.2.1),(80,none,.int .i64 (x.1:Int))])
   (fun x W'=>x.1≤l.length∧Below w.heap.size w W'∧Blk W' g1 4 ((((List.replicate l.length false).set n true).set (n+1) true).map Value.bool)∧OwnS W' 78 1 x.2.1 x.2.2.length (x.2.2.map (·.1))∧(∀g,x.2.1.ownBlock=some g→g1<g)∧Prs m x.2.2∧x.2.2.map (·.2)=jU a b gp::(rest.take (min x.1 n)).map uOf) (fun x=>l.length-x.1) (0,uv0,ps0) ⟨Nat.zero_le _,hBW,hbl,by rw [hl0]; exact hO0,hgo,hps0,by rw [hm0]; simp⟩ ?_
  rintro ⟨k,uv,ps⟩ W' ⟨hk,hB,hbk,hO,hg,hps,hmap⟩
  dsimp only at hk hO hg hps hmap
  have hpl:ps.length=min k n+1:=by
   have:=congrArg List.length hmap
   simp [hn] at this
   omega
  refine rnT ?_
  refine CW.condP rfl (fun hlt1=> ?_) (fun hge1=> ?_)
  ·have hkl:k<l.length:=by omega
   obtain ⟨e,he⟩: ∃e,l[k]?=some e:=⟨l[k],List.getElem?_eq_getElem hkl⟩
   have hlW:=hl.below hB
   obtain ⟨ad,rfl⟩:=hlW.addr (by omega)
   obtain ⟨nv,hcells,i1,i2,i3,hneeds⟩:=SE.get hlW he
   obtain ⟨C,ncap,rfl,_⟩:=hneeds.form
   have heok:=hok.each e (List.mem_of_getElem? he)
   refine rnT ?_
   refine TW.ldS rfl (hcells) ?_
   refine TW.alloc rfl rfl zc39 ?_
   rintro g2 w2 f2
   refine rnT ?_
   have hg2:=f2.at_
   have hbs:=hB.size
   have hgl1:=hbk.lt
   refine TW.storeBlkF rfl rfl rfl f2.blk sz39 rfl rfl rfl ?_
   rintro w3 hB3 hg3 hsz3
   have hbel3:Below w.heap.size w w3:=(hB.step f2.below).grown hg3 (hB.step f2.below).size (fun q hq=>by cases hq; omega)
   have hbk3:Blk w3 g1 4 ((((List.replicate l.length false).set n true).set (n+1) true).map Value.bool):=But.blk hg3 (hbk.next f2.below) (by omega)
   have hBk3:w3.cell? (Addr.add ⟨g1,0,none⟩ ((k:Int).toNat*1))=some (.bool (decide (n≤k))):=by
    rw [show (k:Int).toNat*1=k by omega]
    exact hbk3.fld (by rw [List.getElem?_map,used_at hll hkl]; rfl)
   have hO3:OwnS w3 78 1 uv ps.length (ps.map (·.1)):=(hO.below f2.below).kept fun q hq=>hg3.block q ((hO.below f2.below).lt hq) (fun e=>by cases e; have:=hO.lt hq; omega)
   refine rnT ?_
   refine TW.ld rfl hBk3 ?_
   refine rnT ?_
   refine CW.pk [8,9,13,14,78,79,80,89] rfl ?_
   refine CW.cond rfl (fun hin=> ?_) (fun hout=> ?_)
   ·have hkn:k<n:=by simpa using hin
    refine rnT ?_
    refine TW.ldS rfl (fun _ _ h=>hB3.fld h) ?_
    refine TW.build [0,1] [.tmp 91,.tmp 92] [.int .i64 (k:Int),.int .i64 e.office,.int .i64 e.low,.int .i64 e.high,.slice C e.needs.length ncap] rfl rfl rfl (Args.cons rfl ct (Args.cons rfl ct Args.nil)) (by kernel_rfl) ?_
    refine TW.v (V.makeIface rfl) rfl ⟨ct,trivial⟩ (fun _=>trivial) ?_
    refine TW.buildSlice 78 _ rfl rfl rfl eo65 (Args.cons rfl ct Args.nil) rfl rfl rfl rfl rfl ?_
    rintro g5 w5 f5
    have hO5:=hO3.below f5.below
    refine TW.append [.iface 116 (.agg #[.int .i64 (k:Int),.int .i64 e.office,.int .i64 e.low,.int .i64 e.high,.slice C e.needs.length ncap])] rfl rfl go65 rfl hO5 rfl rfl (fun j v hj=>⟨⟨g5,0,none⟩,rfl,f5.blk.fld hj⟩) (fun v hv=>by simp at hv; subst hv; rfl) (by omega) (by omega) ?_
    rintro uv' w6 hO6 hg6 hnew6
    refine rnT ?_
    have hbel5:=hbel3.step f5.below
    have hw2:=f2.size
    refine KW.rd (k+1,uv',ps++ [(.iface 116 (.agg #[.int .i64 (k:Int),.int .i64 e.office,.int .i64 e.low,.int .i64 e.high,.slice C e.needs.length ncap]),uOf e)]) ⟨by show k+1≤l.length; omega,hbel5.grown hg6 hbel5.size (fun q hq=>by have:=hg q hq; omega),GB.blk hg6 (hbk3.next f5.below) (fun e=>by have:=hg g1 e; omega),by rw [List.map_append,List.length_append]; exact hO6,fun q hq=> ?_,fun p hp=> ?_,?_⟩
    ·rcases hnew6 with h|h
     ·exact hg q (by rw [←h]; exact hq)
     ·rw [h] at hq; cases hq; have:=f5.below.size; omega
    ·rcases List.mem_append.1 hp with h|h
     ·exact hps p h
     ·rw [List.mem_singleton] at h
      subst h
      exact uv_single (by omega) (by omega) (by omega) heok.o1
    ·show List.map Prod.snd (ps++ [_])=jU a b gp::(rest.take (min (k+1) n)).map uOf
     have hre:rest[k]?=some e:=by rw [hle,List.getElem?_append_left (by omega)] at he; exact he
     rw [List.map_append,hmap,Nat.min_eq_left (by omega),Nat.min_eq_left (by omega),List.take_add_one,List.map_append,hre]
     rfl
   ·have hkn:n≤k:=by simpa using hout
    refine rnT ?_
    refine KW.rd (k+1,uv,ps) ⟨by show k+1≤l.length; omega,hbel3,hbk3,hO3,hg,hps,?_⟩
    show ps.map (·.2)=jU a b gp::(rest.take (min (k+1) n)).map uOf
    rw [hmap,Nat.min_eq_right (by omega),Nat.min_eq_right (by omega)]
  have hke:k=l.length:=by omega
  subst hke
  have hps2:ps.map (·.2)=jU a b gp::rest.map uOf:=by rw [hmap,Nat.min_eq_right (by omega),List.take_of_length_le (by omega)]
  obtain ⟨UA,ucap,rfl,hucap,_⟩:=hO.form
  refine rnT ?_
  refine CW.lp [8,98,99] (fun x:Nat=> [(100,none,.int .i64 (x:Int))])
   (fun x W2=>x≤ps.length∧Below W'.heap.size W' W2∧ ∀(i:Nat) (p:Value×U),i<x→ps[i]?=some p→p.2.low≤p.2.high) (fun x=>ps.length-x) 0 ⟨Nat.zero_le _,Below.refl _ _,fun i e hi=>by omega⟩ ?_
  rintro k W2 ⟨hk2,hB2,hwin⟩
  have hO2:=hO.below hB2
  refine rnT ?_
  refine CW.condP rfl (fun hlt2=> ?_) (fun hge2=> ?_)
  ·obtain ⟨p,hp,hpm⟩:=getx (l:=ps) (k:=k) (by omega)
   obtain ⟨gu,rfl⟩:=hO2.addr (by simp; omega)
   have hc:W2.cell? (Addr.add ⟨gu,0,none⟩ ((k:Int).toNat*1))=some p.1:=hO2.cell1 (by simp [hp])
   obtain ⟨t,x,kw,ke,ks,kr,hpx,mw,me,ms,mr,cw,ce,cs,cr⟩:=hps p hpm
   rw [hpx] at hc
   refine rnT ?_
   refine TW.ld rfl hc ?_
   refine rnT ?_
   refine TW.invoke0 rfl rfl (mw) rfl Args.nil (cw _) ?_
   rintro y3 w3 ⟨hb3,rfl⟩
   refine rnT ?_
   refine CW.pk [8,16,17,18,98,99,100,111] rfl ?_
   refine CW.condP rfl (fun hbad=> ?_) (fun hgood=> ?_)
   ·refine rnT ?_
    refine rt2 rfl ⟨(hB.step hB2).step hb3,.inl ⟨rfl,.inr ⟨p.2,?_,hbad⟩⟩⟩
    rw [←hps2]
    exact List.mem_map_of_mem hpm
   ·refine rnT ?_
    refine KW.rd (k+1) ⟨by omega,hB2.step hb3,fun i e hi he=> ?_⟩
    rcases Nat.lt_or_ge i k with h|h
    ·exact hwin i e h he
    ·obtain rfl:i=k:=by omega
     rw [hp] at he
     cases he
     omega
  ·refine rnT ?_
   have hU:UVs m (ps.map (·.1)):=fun v hv=>by
    rw [List.mem_map] at hv
    obtain ⟨p,hp,rfl⟩:=hv
    exact ⟨p.2,hps p hp⟩
   refine TW.cl rfl (sortStable_c hO2 (by omega) hU) ?_
   rintro y4 w4 ⟨hg4,vs',hp4,hO4⟩
   refine rnT ?_
   obtain ⟨ps',hp5,rfl⟩:=perm_map_inv ps vs' hp4
   have hbel:Below w.heap.size w W2:=hB.step hB2
   have hbel4:Below w.heap.size w w4:=hbel.grown hg4 hbel.size (fun q hq=>by have:=hg q hq; omega)
   refine rt2 rfl ⟨hbel4,.inr ⟨_,ps'.map (·.2),rfl,?_,?_,hlo,fun u hu=> ?_⟩⟩
   ·have:=Prs.sl (fun p hp=>hps p (hp5.mem_iff.1 hp)) hO4 (by omega) (fun q hq=>hO4.lt hq)
    exact this
   ·rw [←hps2]
    exact hp5.map _
   ·obtain ⟨p,hp,rfl⟩:=List.mem_map.1 hu
    obtain ⟨i,hi⟩:=List.mem_iff_getElem?.1 (hp5.mem_iff.1 hp)
    exact hwin i p (by have:=(List.getElem?_eq_some_iff.1 hi).1; omega) hi
end Go.Proofs.YtffjgpoadfkjlaaGreatDoor
namespace Go.Ord
variable {d:Dist}
def wrt (d:Dist):St→Int→List U→Int
 | _,x,[]=>x
 | s,x,u::us=>wrt d (nxt d s u) (if 0<u.span then beg d s u else x) us
theorem wrt_append {b:List U}: ∀ {a:List U} {s:St} {x:Int},wrt d s x (a++b)=wrt d (fin d s a) (wrt d s x a) b
 | [],_,_=>rfl
 | u::a,s,x=>wrt_append (a:=a)
theorem wrt_zero: ∀ {us:List U} {s:St} {x:Int},(∀u∈us,u.span=0)→wrt d s x us=x
 | [],_,_,_=>rfl
 | u::us,s,x,h=>by
  have h0:=h u (by simp)
  show wrt d (nxt d s u) (if 0<u.span then beg d s u else x) us=x
  rw [if_neg (by omega)]
  exact wrt_zero fun v hv=>h v (by simp [hv])
theorem possJ_at (hd:WfD d) {rest:List Ev} (he: ∀e∈rest,EOK d e) {a b:Ev} {g:Int} (ha:EOK d a) (hb:EOK d b) (hg:0<g) (hl:LegOK d a b g) {us T:List U} (hp:us.Perm (jU a b g::rest.map uOf)) (hT:T.Perm us) (hw: ∀u∈us,u.low≤u.high) (hr:Run d (none,0) T) {x:Int}:0≤wrt d (none,0) x T∧wrt d (none,0) x T≤1000000∧PossJ d rest {a with low:=wrt d (none,0) x T,high:=wrt d (none,0) x T} b g:=by
 have hTp:=hT.trans hp
 obtain ⟨pre,post,rfl⟩:=List.append_of_mem (hTp.mem_iff.2 (List.mem_cons_self ..))
 have hpp:(pre++post).Perm (rest.map uOf):=List.Perm.cons_inv (List.perm_middle.symm.trans hTp)
 have hz: ∀u∈pre++post,u.span=0:=fun u hu=>by
  obtain ⟨e,_,rfl⟩:=List.mem_map.1 (hpp.mem_iff.1 hu)
  rfl
 have hwx:wrt d (none,0) x (pre++jU a b g::post)=beg d (fin d (none,0) pre) (jU a b g):=by
  rw [wrt_append]
  show wrt d (nxt d _ (jU a b g)) (if 0<(jU a b g).span then _ else _) post=_
  rw [if_pos (show 0<(jU a b g).span from hg)]
  exact wrt_zero fun u hu=>hz u (List.mem_append_right _ hu)
 rw [hwx]
 rw [Run.append] at hr
 obtain ⟨hr1,hc,hr2⟩:=hr
 generalize hs:fin d (none,0) pre=s at hr1 hc hr2 ⊢
 have hwj:=hw (jU a b g) (hp.mem_iff.2 (by simp))
 have h1:0≤lowC a∧lowC a≤1000001:=by unfold lowC; omega
 have h3: -1≤highC a∧highC a≤1000000:=by unfold highC; omega
 have e1:(jU a b g).low=max (lowC a) (lowC b-g):=rfl
 have e2:(jU a b g).high=min (highC a) (highC b-g):=rfl
 have hf:far d s.1 (jU a b g)=far d s.1 (jU a b g):=rfl
 have hcc:=hc.2
 have eb:beg d s (jU a b g)=max (jU a b g).low (s.2+far d s.1 (jU a b g)):=rfl
 generalize ht:beg d s (jU a b g)=t at eb ⊢
 have b1:0≤t:=by omega
 have b2:t≤1000000:=by omega
 refine ⟨b1,b2,?_⟩
 have ha':EOK d {a with low:=t,high:=t}:=⟨ha.o1,ha.o2⟩
 refine (feasJ_iff hd he ha' hb (by omega) hl (List.Perm.refl _)).2 ⟨fun u hu=> ?_,?_⟩
 ·rcases List.mem_cons.1 hu with rfl|h
  ·show max (min (max t 0) 1000001) (lowC b-g)≤min (max (min t 1000000) (-1)) (highC b-g)
   omega
  ·exact hw u (hp.mem_iff.2 (List.mem_cons_of_mem _ h))
 ·refine ⟨pre++jU {a with low:=t,high:=t} b g::post,?_,?_⟩
  ·exact List.perm_middle.trans (hpp.cons _)
  ·rw [Run.append,hs]
   have q1:(jU {a with low:=t,high:=t} b g).low=max (min (max t 0) 1000001) (lowC b-g):=rfl
   have q2:(jU {a with low:=t,high:=t} b g).high=min (max (min t 1000000) (-1)) (highC b-g):=rfl
   have q3:far d s.1 (jU {a with low:=t,high:=t} b g)=far d s.1 (jU a b g):=by
    obtain ⟨o,z⟩:=s
    cases o<;>rfl
   have q4:beg d s (jU {a with low:=t,high:=t} b g)=max (jU {a with low:=t,high:=t} b g).low (s.2+far d s.1 (jU {a with low:=t,high:=t} b g)):=rfl
   refine ⟨hr1,⟨by rw [q3]; exact hc.1,by rw [q3,q2]; omega⟩,?_⟩
   have q5:nxt d s (jU {a with low:=t,high:=t} b g)=nxt d s (jU a b g):=by
    show (some _,beg d s (jU {a with low:=t,high:=t} b g)+g)=(some _,beg d s (jU a b g)+g)
    rw [ht,q4,q3,q1,show max (max (min (max t 0) 1000001) (lowC b-g)) (s.2+far d s.1 (jU a b g))=t by omega]
    rfl
   rw [q5]
   exact hr2
theorem SeqR.at {us:List U} {L:List Nat} {T:List U} (h:SeqR d us L T) {i y:Nat} {u:U} (hy:L[i]?=some y) (hu:us[y]?=some u):T.take (i+1)=T.take i++ [u]∧CanB d (fin d (none,0) (T.take i)) u:=by
 have h1:T[i]?=some u:=by
  have:=congrArg (·[i]?) h.of
  simp only [List.getElem?_map,hy,Option.map_some,hu] at this
  cases hT:T[i]? with
  | none=>rw [hT] at this; simp at this
  | some v=>rw [hT] at this; simpa using this.symm
 have h2:T.take (i+1)=T.take i++ [u]:=by rw [List.take_add_one,h1]; rfl
 refine ⟨h2,?_⟩
 have hr:=h.run
 rw [←List.take_append_drop (i+1) T,h2,List.append_assoc,Run.append] at hr
 exact hr.2.1
theorem SeqR.len {us:List U} {L:List Nat} {T:List U} (h:SeqR d us L T):T.length=L.length:=by
 have:=congrArg List.length h.of
 simpa using this.symm
end Go.Ord
namespace Go.Proofs.YtffjgpoadfkjlaaGreatDoor
open Go.PF Go.RowKit Go.Ord
attribute [local irreducible] TW CW KW DW
variable {w:World} {l rest:List Ev} {d:Dist} {v dv:Value} {a b:Ev} {k:FuncId} {caps:List Value} {gp:Int} {n g:Nat} {L:List (List Int)}
def FittedJ (d:Dist) (l rest:List Ev) (a b:Ev) (g:Int):Prop:=WfE d l∧PossJ d rest a b g
theorem numJ {g:Int} (ha:EOK d a) (hb:EOK d b) (hl:LegOK d a b g) (hg:0≤g∧g≤1000000) (hw:(jU a b g).low≤(jU a b g).high):Num d (jU a b g):=by
 have h1:0≤lowC a∧lowC a≤1000001:=by unfold lowC; omega
 have h2:0≤lowC b∧lowC b≤1000001:=by unfold lowC; omega
 have h3: -1≤highC a∧highC a≤1000000:=by unfold highC; omega
 have h4: -1≤highC b∧highC b≤1000000:=by unfold highC; omega
 have e1:(jU a b g).low=max (lowC a) (lowC b-g):=rfl
 have e2:(jU a b g).high=min (highC a) (highC b-g):=rfl
 exact ⟨jU_ok ha hb hl,by omega,by omega,hg⟩
def FitX (d:Dist) (l rest:List Ev) (a b:Ev) (gp:Int) (n:Nat) (x:Value) (w':World):Prop:= ∃v,x= .tuple #[v,.bool (dec (FittedJ d l rest a b gp))]∧(FittedJ d l rest a b gp→0<gp→ ∃g t,v= .slice (some ⟨g,0,none⟩) l.length l.length∧w'.cell? (Addr.add ⟨g,0,none⟩ n)=some (.int .i64 t)∧0≤t∧t≤1000000∧PossJ d rest {a with low:=t,high:=t} b gp)
theorem FitX.no {w':World} (h: ¬FittedJ d l rest a b gp):FitX d l rest a b gp n (.tuple #[v,.bool false]) w':=⟨v,by rw [dec_neg h],fun h'=>absurd h' h⟩
theorem FitX.yes {m:Nat} {w':World} {L:List Nat} {us T:List U} {i:Nat} (hF:FittedJ d l rest a b gp) (hm:0<gp→m / 32=n+1)
 (hle:l=rest++ [a,b]) (hl:LegOK d a b gp) (hp:us.Perm (jU a b gp::rest.map uOf)) (hw: ∀u∈us,u.low≤u.high) (hs:SeqR d us L T) (hi: ¬i<L.length) (hT:TimesX w' g m (wrt d (none,0) 0 (T.take i))):FitX d l rest a b gp n (.tuple #[.slice (some ⟨g,0,none⟩) l.length l.length,.bool true]) w':=by
 refine ⟨_,by rw [dec_pos hF],fun _ hg=> ?_⟩
 obtain ⟨xs,h1,h2,h3⟩:=hT
 rw [List.take_of_length_le (by rw [hs.len]; omega)] at h3
 have hok:=hF.1.each
 obtain ⟨q1,q2,q3⟩:=possJ_at hF.1.wd (fun e he=>hok e (by rw [hle]; exact List.mem_append_left _ he)) (hok a (by rw [hle]; simp)) (hok b (by rw [hle]; simp)) hg hl hp hs.perm hw hs.run (x:=0)
 exact ⟨g,_,rfl,h2.fld (by rw [List.getElem?_map,h3 n (hm hg)]; rfl),q1,q2,q3⟩
theorem fitX_c {ev:Value} {la:Addr} {lc:Nat} (hd:SD w dv d) (hl:SE w ev l) (hleg:LegAt w la n gp) (hle:l=rest++ [a,b]) (hn:rest.length=n) (hgp:0≤gp∧gp≤1000000):Gives Tryz.prog 6 #[dv,ev,.slice (some la) 1 lc] w fun x w'=>Below w.heap.size w w'∧FitX d l rest a b gp n x w':=by
 have hll:l.length=n+2:=by rw [hle,List.length_append,hn]; rfl
 obtain ⟨A,cap,rfl,hcap⟩:=hd.form
 obtain ⟨B,lcap,rfl,hlcap⟩:=hl.form
 refine gv (f:=6) ?_
 refine rnT ?_
 refine TW.cl rfl (owellJ_c hd hl hleg hll hgp) ?_
 rintro y1 w1 ⟨hb1,rfl⟩
 refine rnT ?_
 refine CW.cond rfl (fun hbad=> ?_) (fun hgood=> ?_)
 ·refine rnT ?_
  refine rt2 rfl ⟨hb1,.no fun h=>ndec hbad h.1⟩
 have hok:WfE d l:=ndec' hgood
 have hwd:=hok.wd
 have h16:=hok.few
 obtain ⟨m,hm32,hmx,hm⟩: ∃m,m%32=l.length∧(m / 32=0∨m / 32=n+1∧0<gp)∧(0<gp→m / 32=n+1):=by
  rcases Int.lt_or_le 0 gp with h|h
  ·exact ⟨l.length+32*(n+1),by omega,.inr ⟨by omega,h⟩,fun _=>by omega⟩
  ·exact ⟨l.length,by omega,.inl (by omega),fun h'=>by omega⟩
 refine rnT ?_
 refine TW.cl rfl (splitJ_c (sd_step hd hb1) (se_step hl hb1) (hleg.below hb1) hle hn hgp hok hm32 hmx) ?_
 rintro y2 w2 ⟨hb2,hsp⟩
 have hoa:=hok.each a (by rw [hle]; simp)
 have hob:=hok.each b (by rw [hle]; simp)
 have hor: ∀e∈rest,EOK d e:=fun e he=>hok.each e (by rw [hle]; exact List.mem_append_left _ he)
 rcases hsp with ⟨rfl,hno0⟩|⟨uv,us,rfl,hus,hperm,hlo,hwin⟩
 ·skip
  refine rnT ?_
  refine CW.pk [0,1,2,6,7,8,9,31] rfl ?_
  refine CW.cond rfl (fun h1=> ?_) (fun h2=> ?_)
  ·refine rnT ?_
   refine rt2 rfl ⟨hb1.step hb2,.no fun h=> ?_⟩
   rcases hno0 with h0|⟨u0,hu0,hw0⟩
   ·exact h0 h.2.1
   ·have:=((feasJ_iff hwd hor hoa hob hgp.1 h.2.1 (List.Perm.refl _)).1 h.2).1 u0 hu0
    omega
  ·exact absurd h2 (by simp)
 have hlen:us.length=n+1:=by have:=hperm.length_eq; simp [hn] at this; exact this
 have hu16:us.length≤16:=by omega
 have hnum: ∀u∈us,Num d u:=fun u hu=>by
  rcases List.mem_cons.1 (hperm.mem_iff.1 hu) with rfl|h
  ·exact numJ hoa hob hlo hgp (hwin _ hu)
  ·obtain ⟨e,he,rfl⟩:=List.mem_map.1 h
   exact num_of hwd (hor e he)
 have huok: ∀u∈us,UOK d u:=fun u hu=>(hnum u hu).ok
 have hposs:PossJ d rest a b gp↔Feas d (none,0) us:=by
  rw [feasJ_iff hwd hor hoa hob hgp.1 hlo hperm]
  exact ⟨fun h=>h.2,fun h=>⟨hwin,h⟩⟩
 obtain ⟨UA,ucap,rfl,_⟩:=hus.form
 have hB2:=hb1.step hb2
 refine rnT ?_
 refine CW.cond rfl (fun h1=> ?_) (fun h2=> ?_)
 ·exact absurd h1 (by simp)
 refine rnT ?_
 refine TW.build [0,1] [.tmp 32,.tmp 33] [.slice A d.length cap,.slice UA us.length ucap,.slice none 0 0] rfl rfl rfl (Args.cons rfl ct (Args.cons rfl ct Args.nil)) (by kernel_rfl) ?_
 refine TW.box rfl rfl rfl rfl ?_
 rintro g w3 f3
 refine rnT ?_
 have hB3:=hB2.step f3.below
 have hgw:w.heap.size≤g:=by have:=f3.at_; have:=hB2.size; omega
 have hS:Srch w3 g m d us (.slice A d.length cap) (.slice UA us.length ucap) (.slice none 0 0):=by
  refine ⟨f3.blk,?_,?_⟩
  ·have:=((sd_step hd hB2).below f3.below)
   rw [f3.at_]; exact this
  ·have:=hus.below f3.below
   rw [f3.at_]; exact this
 refine TW.cl rfl (precede_c hwd hS hnum hu16) ?_
 rintro y4 w4 ⟨hb4,hpre⟩
 have hB4:Below w.heap.size w w4:=But.below hB3 hb4 hgw
 rcases hpre with ⟨rfl,i,j,u,v,hi,hj,hij,hn1,hn2⟩|⟨rfl,gf,F,hSF,hF,hF2⟩
 ·skip
  refine rnT ?_
  refine CW.pk [0,1,2,6,7,8,9,10,38] rfl ?_
  refine CW.cond rfl (fun h1=> ?_) (fun h3=> ?_)
  ·refine rnT ?_
   refine rt2 rfl ⟨hB4,.no fun h=> ?_⟩
   rcases feas_pair hwd huok (s:=(none,0)) (fun x hx=>by cases hx) (hposs.1 h.2) hi hj hij with h'|h'
   ·exact hn1 h'
   ·exact hn2 h'
  ·exact absurd h3 (by simp)
 refine rnT ?_
 refine CW.cond rfl (fun h1=> ?_) (fun h3=> ?_)
 ·exact absurd h1 (by simp)
 refine rnT ?_
 refine TW.cl rfl (quick_c hwd hSF hnum hu16) ?_
 rintro y5 w5 ⟨hb5,hq⟩
 have hB5:=hB4.step hb5
 have hS5:=hSF.step hb5
 rcases hq with rfl|⟨sv,L,rfl,hL,hLi,T,hseq⟩
 ·skip
  refine rnT ?_
  refine CW.cond rfl (fun h4=> ?_) (fun h5=> ?_)
  ·refine rnT ?_
   refine TW.cl rfl (full_c hwd hS5 hnum hu16 hF hF2) ?_
   rintro y6 w6 ⟨hb6,hfu⟩
   have hB6:=hB5.step hb6
   have hS6:=hS5.step hb6
   rcases hfu with ⟨rfl,hno⟩|⟨sv,L,rfl,hL,hLi,T,hseq⟩
   ·skip
    refine rnT ?_
    refine CW.pk [0,1,2,6,7,8,9,10,11,52] rfl ?_
    refine CW.cond rfl (fun h6=> ?_) (fun h7=> ?_)
    ·refine rnT ?_
     refine rt2 rfl ⟨hB6,.no fun h=>hno (hposs.1 h.2)⟩
    ·exact absurd h7 (by simp)
   ·skip
    refine rnT ?_
    refine CW.cond rfl (fun h6=> ?_) (fun h7=> ?_)
    ·exact absurd h6 (by simp)
    obtain ⟨SA,scap,rfl,_⟩:=hL.form
    have hSbig:=hL.big
    refine rnT ?_
    refine TW.makeSlice rfl rfl (zero1_of go37 ze3 rfl) rfl rfl (by omega) (by omega) ?_
    rintro g12 w7 f7
    refine rnT ?_
    refine TW.pk [0,1,2,6,7,8,9,10,11,12] rfl ?_
    refine TW.build [1] [.const (.int .i64 (-1))] [.int .u32 ((0:Nat):Int),.int .i64 (-1)] rfl rfl rfl (Args.cons rfl ct Args.nil) (by kernel_rfl) ?_
    refine TW.newVar rfl zc75 rfl sz75 rfl rfl ?_
    rintro g13 w8 f8
    refine rnT ?_
    have hg12:=f7.at_
    have hg13:=f8.at_
    have hw7:=f7.size
    have hBW8:Below w6.heap.size w6 w8:=f7.below.step f8.below
    refine CW.lp [1,8,10,12,13,57,58] (fun x:Nat×Nat×St=> [(14,none,.int .i64 x.2.2.2),(59,none,.int .i64 (x.1:Int))])
     (fun x W=>x.1≤L.length∧Below w6.heap.size w6 W∧Blk W g13 75 [.int .u32 (x.2.1:Int),.int .i64 (offI x.2.2.1)]∧TimesX W g12 m (wrt d (none,0) 0 (T.take x.1))∧x.2.2=fin d (none,0) (T.take x.1)∧SOK d x.2.2∧ -1≤x.2.2.2∧x.2.2.2≤3000000∧x.2.1<2 ^ 32) (fun x=>L.length-x.1) (0,0,(none,0)) ⟨Nat.zero_le _,hBW8,f8.blk,⟨List.replicate l.length 0,by simp; omega,by simpa using f7.blk.next f8.below,fun k hk=>by rw [List.getElem?_eq_getElem (by simp; omega)]; simp [wrt]⟩,rfl,(fun x hx=>by cases hx),by decide,by decide,(by decide:0<2 ^ 32)⟩ ?_
    rintro ⟨i,k,s⟩ W ⟨hi,hBW,hBs,hT,hsf,hso,ht0,ht1,hk⟩
    dsimp only at hi hBW hBs hT hsf hso ht0 ht1 hk
    refine rnT ?_
    refine CW.condP rfl (fun hlt=> ?_) (fun hge=> ?_)
    ·have hil:i<L.length:=by omega
     obtain ⟨y,hy⟩: ∃y,L[i]?=some y:=⟨L[i],List.getElem?_eq_getElem hil⟩
     obtain ⟨gs,rfl,hcy⟩:=(hL.below hBW).get hy
     have hyl:=hLi y (List.mem_of_getElem? hy)
     obtain ⟨u,hu⟩: ∃u,us[y]?=some u:=⟨us[y],List.getElem?_eq_getElem hyl⟩
     have nu:=hnum u (List.mem_of_getElem? hu)
     obtain ⟨qt,qc⟩:=hseq.at hy hu
     rw [←hsf] at qc
     have hbe:begI d s u=beg d s u:=by rw [begI,dec_pos qc]; rfl
     have hfn:(some u.exit,begI d s u+u.span)=fin d (none,0) (T.take (i+1)):=by rw [qt,fin_append,←hsf,hbe]; rfl
     have hwr:wrt d (none,0) 0 (T.take (i+1))=if 0<u.span then begI d s u else wrt d (none,0) 0 (T.take i):=by rw [qt,wrt_append,←hsf,hbe]; rfl
     have hSW:=hS6.step hBW
     have hbr:=begI_rng (s:=s) nu
     have hspn:=nu.span
     obtain ⟨ua,rfl⟩:=hSW.s.units.addr (by omega)
     refine rnT ?_
     refine TW.ld rfl hcy ?_
     refine rnT ?_
     refine TW.ldS rfl (fun _ _ h=>hBs.fld h) ?_
     refine rnT ?_
     refine TW.cl rfl (begin_c (k:=k) hwd hSW.s hu nu hso ⟨ht0,ht1⟩) ?_
     rintro y9 w9 ⟨hb9,rfl⟩
     have hT9:TimesX w9 g12 m (wrt d (none,0) 0 (T.take i)):=by
      obtain ⟨xs,h1,h2,h3⟩:=hT
      exact ⟨xs,h1,h2.next hb9,h3⟩
     have hS9:=hSW.step hb9
     have hBs9:=hBs.next hb9
     obtain ⟨v1,hc1,hv1⟩:=uv_at hS9.s.units hu
     obtain ⟨tt,x,kw,ke,ks,kr,rfl,mw,me,ms,mr,cw,ce,cs,cr⟩:=hv1
     rw [hm32] at cr
     refine rnT ?_
     refine TW.ld rfl hc1 ?_
     refine rnT ?_
     refine TW.invoke0 rfl rfl (mr) rfl (Args.cons rfl ct (Args.cons rfl ct Args.nil)) (cr _ _ _ _ (by omega) (by omega) hT9) ?_
     rintro y10 w10 ⟨hbut10,hT10⟩
     refine rnT ?_
     refine CW.pk [1,8,10,12,13,14,16,17,57,58,59] rfl ?_
     refine CW.drawPlus [4] 11 mixed (by kernel_rfl) (fun _ _ d _ _ h=>by cases d<;>exact h) fun W22 hb22=> ?_
     refine RW.draw .weak 10 (by kernel_rfl) (by kernel_rfl) rfl rfl hb22 ?_
     refine rnD ?_
     have hBW9:=hBW.step hb9
     have hBW10:Below w6.heap.size w6 w10:=hBW9.grown hbut10 hBW9.size (fun q hq=>by cases hq; omega)
     have hS10:=hS6.step hBW10
     have hBs10:=But.blk (k:=g13) hbut10 hBs9 (by omega)
     obtain ⟨v2,hc2,hv2⟩:=uv_at hS10.s.units hu
     obtain ⟨tt2,x2,kw2,ke2,ks2,kr2,rfl,mw2,me2,ms2,mr2,cw2,ce2,cs2,cr2⟩:=hv2
     refine DW.ldS rfl (fun _ _ h=>hBs10.fld h) ?_
     refine rnD ?_
     refine DW.cl (.ex (.agg #[.int .u32 ((k ||| 1 <<< y:Nat):Int),.int .i64 (u.exit:Int)])) trivial rfl (fun _ w' hb'=>after_c (k:=k) (hS10.step hb').s hu hk (by omega)) ?_
     refine rnD ?_
     refine DW.ld rfl hc2 ?_
     refine DW.invoke (.ex (.int .i64 u.span)) trivial rfl rfl (ms2) rfl ct DArgs.nil (fun _ w' _=>cs2 w') ?_
     refine DW.nil (DW.fin [1,8,10,12,13,14,16,17,57,58,59,78,79,84] [(1,_,_),(8,_,_),(10,_,_),(12,_,_),(13,_,_),(14,_,_),(16,_,_),(17,_,_),(57,_,_),(58,_,_),(59,_,_),(78,_,_),(79,_,_),(84,_,_)] rfl (fun w11 hb11=>KW.rk' ?_))
     refine RW.pure (by kernel_rfl) (by kernel_rfl) (fun _ _ d _ _ h=>by cases d<;>exact h) rfl rfl rfl (fun _ h=>by cases h) (fun a w ha=>X.add (ha.eval rfl trivial) (ha.eval rfl trivial) (by (try dsimp only); omega)) ?_
     refine RW.one (by kernel_rfl) (by kernel_rfl) rfl ?_
     have hBs11:=hBs10.next hb11
     refine TW.storeBlkF rfl rfl rfl hBs11 sz75 rfl rfl rfl ?_
     rintro w12 hBs12 hg12' hsz12
     refine TW.nil (KW.pick [1,8,10,12,13,14,16,17,57,58,59,85] [(1,_,_),(8,_,_),(10,_,_),(12,_,_),(13,_,_),(14,_,_),(16,_,_),(17,_,_),(57,_,_),(58,_,_),(59,_,_),(85,_,_)] rfl (KW.rk ?_))
     refine RW.one (by kernel_rfl) (by kernel_rfl) rfl ?_
     refine TW.v V.assign rfl ⟨ct,trivial⟩ (fun _=>trivial) ?_
     refine TW.nil (KW.pick [1,8,10,12,13,14,16,17,57,58,59] [(1,_,_),(8,_,_),(10,_,_),(12,_,_),(13,_,_),(14,_,_),(16,_,_),(17,_,_),(57,_,_),(58,_,_),(59,_,_)] rfl (KW.rk ?_))
     refine RW.end rfl (KW.pick [1,8,10,12,13,14,16,17,57,58,59] [(1,_,_),(8,_,_),(10,_,_),(12,_,_),(13,_,_),(14,_,_),(16,_,_),(17,_,_),(57,_,_),(58,_,_),(59,_,_)] rfl (KW.blockN (KW.then_ ?_)))
     refine rnT ?_
     have hBW11:=hBW10.step hb11
     have hp:(1 <<< y:Nat)<2 ^ 32:=by rw [Nat.one_shiftLeft]; exact Nat.pow_lt_pow_right (by decide) (by omega)
     refine KW.rd (i+1,k ||| 1 <<< y,(some u.exit,begI d s u+u.span)) ⟨by show i+1≤L.length; omega,hBW11.grown hg12' hBW11.size (fun q hq=>by cases hq; omega),hBs12,?_,hfn,?_,by show -1≤begI d s u+u.span; omega,by show begI d s u+u.span≤3000000; omega,Nat.or_lt_two_pow hk hp⟩
     ·obtain ⟨xs,h1,h2,h3⟩:=hT10
      rw [hwr]
      exact ⟨xs,h1,But.blk (k:=g12) hg12' (h2.next hb11) (by omega),h3⟩
     ·intro x hx
      cases hx
      exact nu.ok.e2
    ·refine rnT ?_
     refine rt2 rfl (⟨hB6.step hBW,.yes ⟨hok,hposs.2 hseq.feas⟩ hm hle hlo hperm hwin hseq (by omega) hT⟩)
  ·exact absurd h5 (by simp)
 ·skip
  refine rnT ?_
  refine CW.cond rfl (fun h4=> ?_) (fun h5=> ?_)
  ·exact absurd h4 (by simp)
  ·refine rnT ?_
   refine CW.pk [0,1,2,6,7,8,9,10,11,52] rfl ?_
   refine CW.cond rfl (fun h6=> ?_) (fun h7=> ?_)
   ·exact absurd h6 (by simp)
   obtain ⟨SA,scap,rfl,_⟩:=hL.form
   have hSbig:=hL.big
   refine rnT ?_
   refine TW.makeSlice rfl rfl (zero1_of go37 ze3 rfl) rfl rfl (by omega) (by omega) ?_
   rintro g12 w7 f7
   refine rnT ?_
   refine TW.build [1] [.const (.int .i64 (-1))] [.int .u32 ((0:Nat):Int),.int .i64 (-1)] rfl rfl rfl (Args.cons rfl ct Args.nil) (by kernel_rfl) ?_
   refine TW.newVar rfl zc75 rfl sz75 rfl rfl ?_
   rintro g13 w8 f8
   refine rnT ?_
   have hg12:=f7.at_
   have hg13:=f8.at_
   have hw7:=f7.size
   have hBW8:Below w5.heap.size w5 w8:=f7.below.step f8.below
   refine CW.lp [1,8,10,12,13,57,58] (fun x:Nat×Nat×St=> [(14,none,.int .i64 x.2.2.2),(59,none,.int .i64 (x.1:Int))])
    (fun x W=>x.1≤L.length∧Below w5.heap.size w5 W∧Blk W g13 75 [.int .u32 (x.2.1:Int),.int .i64 (offI x.2.2.1)]∧TimesX W g12 m (wrt d (none,0) 0 (T.take x.1))∧x.2.2=fin d (none,0) (T.take x.1)∧SOK d x.2.2∧ -1≤x.2.2.2∧x.2.2.2≤3000000∧x.2.1<2 ^ 32) (fun x=>L.length-x.1) (0,0,(none,0)) ⟨Nat.zero_le _,hBW8,f8.blk,⟨List.replicate l.length 0,by simp; omega,by simpa using f7.blk.next f8.below,fun k hk=>by rw [List.getElem?_eq_getElem (by simp; omega)]; simp [wrt]⟩,rfl,(fun x hx=>by cases hx),by decide,by decide,(by decide:0<2 ^ 32)⟩ ?_
   rintro ⟨i,k,s⟩ W ⟨hi,hBW,hBs,hT,hsf,hso,ht0,ht1,hk⟩
   dsimp only at hi hBW hBs hT hsf hso ht0 ht1 hk
   refine rnT ?_
   refine CW.condP rfl (fun hlt=> ?_) (fun hge=> ?_)
   ·have hil:i<L.length:=by omega
    obtain ⟨y,hy⟩: ∃y,L[i]?=some y:=⟨L[i],List.getElem?_eq_getElem hil⟩
    obtain ⟨gs,rfl,hcy⟩:=(hL.below hBW).get hy
    have hyl:=hLi y (List.mem_of_getElem? hy)
    obtain ⟨u,hu⟩: ∃u,us[y]?=some u:=⟨us[y],List.getElem?_eq_getElem hyl⟩
    have nu:=hnum u (List.mem_of_getElem? hu)
    obtain ⟨qt,qc⟩:=hseq.at hy hu
    rw [←hsf] at qc
    have hbe:begI d s u=beg d s u:=by rw [begI,dec_pos qc]; rfl
    have hfn:(some u.exit,begI d s u+u.span)=fin d (none,0) (T.take (i+1)):=by rw [qt,fin_append,←hsf,hbe]; rfl
    have hwr:wrt d (none,0) 0 (T.take (i+1))=if 0<u.span then begI d s u else wrt d (none,0) 0 (T.take i):=by rw [qt,wrt_append,←hsf,hbe]; rfl
    have hSW:=hS5.step hBW
    have hbr:=begI_rng (s:=s) nu
    have hspn:=nu.span
    obtain ⟨ua,rfl⟩:=hSW.s.units.addr (by omega)
    refine rnT ?_
    refine TW.ld rfl hcy ?_
    refine rnT ?_
    refine TW.ldS rfl (fun _ _ h=>hBs.fld h) ?_
    refine rnT ?_
    refine TW.cl rfl (begin_c (k:=k) hwd hSW.s hu nu hso ⟨ht0,ht1⟩) ?_
    rintro y9 w9 ⟨hb9,rfl⟩
    have hT9:TimesX w9 g12 m (wrt d (none,0) 0 (T.take i)):=by
     obtain ⟨xs,h1,h2,h3⟩:=hT
     exact ⟨xs,h1,h2.next hb9,h3⟩
    have hS9:=hSW.step hb9
    have hBs9:=hBs.next hb9
    obtain ⟨v1,hc1,hv1⟩:=uv_at hS9.s.units hu
    obtain ⟨tt,x,kw,ke,ks,kr,rfl,mw,me,ms,mr,cw,ce,cs,cr⟩:=hv1
    rw [hm32] at cr
    refine rnT ?_
    refine TW.ld rfl hc1 ?_
    refine rnT ?_
    refine TW.invoke0 rfl rfl (mr) rfl (Args.cons rfl ct (Args.cons rfl ct Args.nil)) (cr _ _ _ _ (by omega) (by omega) hT9) ?_
    rintro y10 w10 ⟨hbut10,hT10⟩
    refine rnT ?_
    refine CW.pk [1,8,10,12,13,14,16,17,57,58,59] rfl ?_
    refine CW.drawPlus [4] 11 mixed (by kernel_rfl) (fun _ _ d _ _ h=>by cases d<;>exact h) fun W22 hb22=> ?_
    refine RW.draw .weak 10 (by kernel_rfl) (by kernel_rfl) rfl rfl hb22 ?_
    refine rnD ?_
    have hBW9:=hBW.step hb9
    have hBW10:Below w5.heap.size w5 w10:=hBW9.grown hbut10 hBW9.size (fun q hq=>by cases hq; omega)
    have hS10:=hS5.step hBW10
    have hBs10:=But.blk (k:=g13) hbut10 hBs9 (by omega)
    obtain ⟨v2,hc2,hv2⟩:=uv_at hS10.s.units hu
    obtain ⟨tt2,x2,kw2,ke2,ks2,kr2,rfl,mw2,me2,ms2,mr2,cw2,ce2,cs2,cr2⟩:=hv2
    refine DW.ldS rfl (fun _ _ h=>hBs10.fld h) ?_
    refine rnD ?_
    refine DW.cl (.ex (.agg #[.int .u32 ((k ||| 1 <<< y:Nat):Int),.int .i64 (u.exit:Int)])) trivial rfl (fun _ w' hb'=>after_c (k:=k) (hS10.step hb').s hu hk (by omega)) ?_
    refine rnD ?_
    refine DW.ld rfl hc2 ?_
    refine DW.invoke (.ex (.int .i64 u.span)) trivial rfl rfl (ms2) rfl ct DArgs.nil (fun _ w' _=>cs2 w') ?_
    refine DW.nil (DW.fin [1,8,10,12,13,14,16,17,57,58,59,78,79,84] [(1,_,_),(8,_,_),(10,_,_),(12,_,_),(13,_,_),(14,_,_),(16,_,_),(17,_,_),(57,_,_),(58,_,_),(59,_,_),(78,_,_),(79,_,_),(84,_,_)] rfl (fun w11 hb11=>KW.rk' ?_))
    refine RW.pure (by kernel_rfl) (by kernel_rfl) (fun _ _ d _ _ h=>by cases d<;>exact h) rfl rfl rfl (fun _ h=>by cases h) (fun a w ha=>X.add (ha.eval rfl trivial) (ha.eval rfl trivial) (by (try dsimp only); omega)) ?_
    refine RW.one (by kernel_rfl) (by kernel_rfl) rfl ?_
    have hBs11:=hBs10.next hb11
    refine TW.storeBlkF rfl rfl rfl hBs11 sz75 rfl rfl rfl ?_
    rintro w12 hBs12 hg12' hsz12
    refine TW.nil (KW.pick [1,8,10,12,13,14,16,17,57,58,59,85] [(1,_,_),(8,_,_),(10,_,_),(12,_,_),(13,_,_),(14,_,_),(16,_,_),(17,_,_),(57,_,_),(58,_,_),(59,_,_),(85,_,_)] rfl (KW.rk ?_))
    refine RW.one (by kernel_rfl) (by kernel_rfl) rfl ?_
    refine TW.v V.assign rfl ⟨ct,trivial⟩ (fun _=>trivial) ?_
    refine TW.nil (KW.pick [1,8,10,12,13,14,16,17,57,58,59] [(1,_,_),(8,_,_),(10,_,_),(12,_,_),(13,_,_),(14,_,_),(16,_,_),(17,_,_),(57,_,_),(58,_,_),(59,_,_)] rfl (KW.rk ?_))
    refine RW.end rfl (KW.pick [1,8,10,12,13,14,16,17,57,58,59] [(1,_,_),(8,_,_),(10,_,_),(12,_,_),(13,_,_),(14,_,_),(16,_,_),(17,_,_),(57,_,_),(58,_,_),(59,_,_)] rfl (KW.blockN (KW.then_ ?_)))
    refine rnT ?_
    have hBW11:=hBW10.step hb11
    have hp:(1 <<< y:Nat)<2 ^ 32:=by rw [Nat.one_shiftLeft]; exact Nat.pow_lt_pow_right (by decide) (by omega)
    refine KW.rd (i+1,k ||| 1 <<< y,(some u.exit,begI d s u+u.span)) ⟨by show i+1≤L.length; omega,hBW11.grown hg12' hBW11.size (fun q hq=>by cases hq; omega),hBs12,?_,hfn,?_,by show -1≤begI d s u+u.span; omega,by show begI d s u+u.span≤3000000; omega,Nat.or_lt_two_pow hk hp⟩
    ·obtain ⟨xs,h1,h2,h3⟩:=hT10
     rw [hwr]
     exact ⟨xs,h1,But.blk (k:=g12) hg12' (h2.next hb11) (by omega),h3⟩
    ·intro x hx
     cases hx
     exact nu.ok.e2
   ·refine rnT ?_
    refine rt2 rfl (⟨hB5.step hBW,.yes ⟨hok,hposs.2 hseq.feas⟩ hm hle hlo hperm hwin hseq (by omega) hT⟩)
theorem fitJ_c {ev:Value} {la:Addr} {lc:Nat} (hd:SD w dv d) (hl:SE w ev l) (hleg:LegAt w la n gp) (hle:l=rest++ [a,b]) (hn:rest.length=n) (hgp:0≤gp∧gp≤1000000):Gives Tryz.prog 6 #[dv,ev,.slice (some la) 1 lc] w fun x w'=>Below w.heap.size w w'∧ ∃v,x= .tuple #[v,.bool (dec (FittedJ d l rest a b gp))]:=(fitX_c hd hl hleg hle hn hgp).mono fun _ _ h=>⟨h.1,h.2.imp fun _ k=>k.1⟩
def offBad (dn:Nat) (e:Ev):Bool:=decide (e.office<0)||decide (e.office ≥ (dn:Int))
theorem wfit1_c {D:Option Addr} {dn dc:Nat} (hB:Blk w g 30 [.slice D dn dc]):PredE w 53 [.pointer (some ⟨g,0,none⟩)] (offBad dn):=by
 intro e nv F w1 hb1 hn
 obtain ⟨C,ccap,rfl,_⟩:=hn.form
 have hB1:=hB.next hb1
 refine gv (f:=53) ?_
 refine rnT ?_
 refine TW.box rfl rfl rfl rfl ?_
 rintro g2 w2 f2
 refine rnT ?_
 have hB2:=hB1.next f2.below
 refine TW.ld rfl (f2.blk.fld rfl) ?_
 refine rnT ?_
 refine TW.ld rfl (f2.blk.fld rfl) ?_
 refine TW.ld rfl (hB2.cell 0) ?_
 refine rnT ?_
 refine rt1 rfl ⟨f2.below,rfl⟩
theorem someE_c {p:Ev→Bool} (hl:SE w v l) (hk:enters Tryz.prog k=true) (hp:PredE w k caps p) :
  Gives Tryz.prog 52 #[v,.func (.func k) #[] caps.toArray] w fun x w'=>Below w.heap.size w w'∧x= .bool (l.any p):=by
 obtain ⟨A,cap,rfl,_⟩:=hl.form
 refine gv (f:=52) ?_
 refine rnT ?_
 refine TW.cl rfl (indexE_c hl hk hp) ?_
 rintro y1 w1 ⟨hb1,h1⟩
 rcases h1 with ⟨rfl,h1⟩|⟨i,rfl,h1⟩
 ·skip
  refine rnT ?_
  refine rt1 rfl ⟨hb1,by rw [h1]; rfl⟩
 ·skip
  refine rnT ?_
  refine rt1 rfl ⟨hb1,by rw [h1]; simp⟩
structure FitW (d:Dist) (l:List Ev) (nw:Nat):Prop where
 few:l.length≤14
 worlds:nw≤400
 wd:WfD d
 each: ∀e∈l,EOK d e
theorem FitW.wfe {nw:Nat} (h:FitW d l nw):WfE d l:=⟨h.wd,by have:=h.few; omega,h.each⟩
theorem off_all:l.any (offBad d.length)=false↔ ∀e∈l,EOK d e:=by
 rw [List.any_eq_false]
 refine ⟨fun h e he=> ?_,fun h e he hb=> ?_⟩
 ·have:=h e he
  unfold offBad at this
  simp at this
  exact ⟨by omega,by omega⟩
 ·have h1:=(h e he).o1
  have h2:=(h e he).o2
  unfold offBad at hb
  simp at hb
  omega
theorem fitting_c {lv:Value} {W:Option Addr} {nw wc:Nat} (hd:SD w dv d) (hl:SE w lv l):Gives Tryz.prog 28 #[dv,lv,.slice W nw wc] w fun x w'=>Below w.heap.size w w'∧x= .bool (dec (FitW d l nw)):=by
 obtain ⟨A,cap,rfl,_⟩:=hd.form
 obtain ⟨B,bcap,rfl,_⟩:=hl.form
 refine gv (f:=28) ?_
 refine rnT ?_
 refine TW.box rfl rfl rfl rfl ?_
 rintro g w1 f1
 refine rnT ?_
 refine CW.cond rfl (fun hbad=> ?_) (fun hgood=> ?_)
 ·refine rnT ?_
  refine rt1 rfl ⟨f1.below,by rw [dec_neg fun h=>by have:=h.few; have:=h.worlds; simp at hbad; omega]⟩
 have hg:l.length≤14∧nw≤400:=by simp at hgood; omega
 refine rnT ?_
 refine TW.ld rfl (f1.blk.cell 0) ?_
 refine TW.cl rfl (fit_c (sd_step hd f1.below) (SL.nil evT (fun k=>k<w1.heap.size) w1)) ?_
 rintro y2 w2 ⟨hb2,tv,rfl⟩
 have hB2:=f1.below.step hb2
 have hg2:=f1.blk.next hb2
 have hfd:dec (Fitted d [])=dec (WfD d):=dec_congr ⟨fun h=>h.1.wd,fun h=>⟨⟨h,by simp,by simp⟩,poss_nil d⟩⟩
 rw [hfd]
 refine rnT ?_
 refine TW.makeFunc rfl rfl (Args.cons rfl ct Args.nil) ?_
 refine TW.callF (cap:= []) rfl rfl en52 rfl ct (Args.cons rfl id (Args.cons rfl id Args.nil)) (fun _=>someE_c (se_step hl hB2) en53 (wfit1_c hg2)) ?_
 rintro w3 c3
 refine rnT ?_
 refine rt1 rfl ⟨hB2.step c3,?_⟩
 by_cases hw:WfD d
 ·rw [dec_pos hw]
  by_cases ha: ∀e∈l,EOK d e
  ·rw [off_all.2 ha,dec_pos ⟨hg.1,hg.2,hw,ha⟩]
   rfl
  ·have:l.any (offBad d.length)=true:=by
    cases h:l.any (offBad d.length) with
    | true=>rfl
    | false=>exact absurd (off_all.1 h) ha
   rw [this,dec_neg fun h=>ha h.each]
   rfl
 ·rw [dec_neg hw,dec_neg fun h=>hw h.wd]
  rfl
def PredRI (w:World) (k:FuncId) (caps:List Value) (L:List (List Int)) (p:List Int→Bool):Prop:= ∀r∈L,∀(rv:Value) (w':World),Below w.heap.size w w'→SL intT (fun k=>k<w.heap.size) w' rv r →
 Gives Tryz.prog k (rv::caps).toArray w' fun u w''=>Below w'.heap.size w' w''∧u= .bool (p r)
theorem indexRI_c {p:List Int→Bool} (hl:SL (sliceT intT) (fun k=>k<w.heap.size) w v L) (hk:enters Tryz.prog k=true) (hp:PredRI w k caps L p) :
  Gives Tryz.prog 83 #[v,.func (.func k) #[] caps.toArray] w fun x w'=>Below w.heap.size w w'∧((x= .int .i64 (-1)∧L.any p=false)∨ ∃i:Nat,x= .int .i64 (i:Int)∧L.any p=true):=by
 obtain ⟨A,cap,rfl,_⟩:=hl.form
 have hmax:L.length≤9223372036854775807:=hl.len.2.2
 refine gv (f:=83) ?_
 refine rnT ?_
 refine CW.lp [0,1,7] (fun i:Nat=> [(8,none,.int .i64 (i:Int))])
  (fun i W=>i≤L.length∧Below w.heap.size w W∧(L.take i).any p=false) (fun i=>L.length-i) 0 ⟨Nat.zero_le _,Below.refl _ _,rfl⟩ ?_
 rintro i W ⟨hi,hB,hno⟩
 refine rnT ?_
 refine CW.condP rfl (fun hlt=> ?_) (fun hge=> ?_)
 ·have hil:i<L.length:=by omega
  have hlW:=hl.below hB
  obtain ⟨ad,rfl⟩:=hlW.addr (by omega)
  obtain ⟨e,he,hem⟩:=getx (l:=L) (k:=i) hil
  obtain ⟨rv,hcell,hrow⟩:=hlW.row he
  refine rnT ?_
  refine TW.ld rfl hcell ?_
  refine TW.call0 rfl rfl hk rfl (Args.cons rfl ct Args.nil) (hp e hem rv _ hB hrow) ?_
  rintro y1 w1 ⟨hb1,rfl⟩
  refine rnT ?_
  refine CW.cond rfl (fun hyes=> ?_) (fun hnot=> ?_)
  ·refine rnT ?_
   refine rt1 rfl ⟨hB.step hb1,.inr ⟨i,rfl,?_⟩⟩
   rw [List.any_eq_true]
   exact ⟨e,hem,hyes⟩
  ·refine rnT ?_
   refine KW.rd (i+1) ⟨by omega,hB.step hb1,?_⟩
   rw [List.take_add_one,List.any_append,hno,he]
   simp [hnot]
 ·refine rnT ?_
  refine rt1 rfl ⟨hB,.inl ⟨rfl,?_⟩⟩
  rw [show i=L.length by omega,List.take_length] at hno
  exact hno
theorem someRI_c {p:List Int→Bool} (hl:SL (sliceT intT) (fun k=>k<w.heap.size) w v L) (hk:enters Tryz.prog k=true) (hp:PredRI w k caps L p) :
  Gives Tryz.prog 37 #[v,.func (.func k) #[] caps.toArray] w fun x w'=>Below w.heap.size w w'∧x= .bool (L.any p):=by
 obtain ⟨A,cap,rfl,_⟩:=hl.form
 refine gv (f:=37) ?_
 refine rnT ?_
 refine TW.cl rfl (indexRI_c hl hk hp) ?_
 rintro y1 w1 ⟨hb1,h1⟩
 rcases h1 with ⟨rfl,h1⟩|⟨i,rfl,h1⟩
 ·skip
  refine rnT ?_
  refine rt1 rfl ⟨hb1,by rw [h1]; rfl⟩
 ·skip
  refine rnT ?_
  refine rt1 rfl ⟨hb1,by rw [h1]; simp⟩
def PredRV (w:World) (k:FuncId) (caps:List Value) (L:List (List Ev)) (p:List Ev→Bool):Prop:= ∀r∈L,∀(rv:Value) (w':World),Below w.heap.size w w'→SL evT (fun k=>k<w.heap.size) w' rv r →
 Gives Tryz.prog k (rv::caps).toArray w' fun u w''=>Below w'.heap.size w' w''∧u= .bool (p r)
theorem indexRV_c {L:List (List Ev)} {p:List Ev→Bool} (hl:SL (sliceT evT) (fun k=>k<w.heap.size) w v L) (hk:enters Tryz.prog k=true) (hp:PredRV w k caps L p) :
  Gives Tryz.prog 101 #[v,.func (.func k) #[] caps.toArray] w fun x w'=>Below w.heap.size w w'∧((x= .int .i64 (-1)∧L.any p=false)∨ ∃i:Nat,x= .int .i64 (i:Int)∧L.any p=true):=by
 obtain ⟨A,cap,rfl,_⟩:=hl.form
 have hmax:L.length≤9223372036854775807:=hl.len.2.2
 refine gv (f:=101) ?_
 refine rnT ?_
 refine CW.pk [0,1,4,7,8] rfl ?_
 refine CW.lp [0,1,7] (fun i:Nat=> [(8,none,.int .i64 (i:Int))])
  (fun i W=>i≤L.length∧Below w.heap.size w W∧(L.take i).any p=false) (fun i=>L.length-i) 0 ⟨Nat.zero_le _,Below.refl _ _,rfl⟩ ?_
 rintro i W ⟨hi,hB,hno⟩
 refine rnT ?_
 refine CW.condP rfl (fun hlt=> ?_) (fun hge=> ?_)
 ·have hil:i<L.length:=by omega
  have hlW:=hl.below hB
  obtain ⟨ad,rfl⟩:=hlW.addr (by omega)
  obtain ⟨e,he,hem⟩:=getx (l:=L) (k:=i) hil
  obtain ⟨rv,hcell,hrow⟩:=hlW.row he
  refine rnT ?_
  refine TW.ld rfl hcell ?_
  refine TW.call0 rfl rfl hk rfl (Args.cons rfl ct Args.nil) (hp e hem rv _ hB hrow) ?_
  rintro y1 w1 ⟨hb1,rfl⟩
  refine rnT ?_
  refine CW.cond rfl (fun hyes=> ?_) (fun hnot=> ?_)
  ·refine rnT ?_
   refine rt1 rfl ⟨hB.step hb1,.inr ⟨i,rfl,?_⟩⟩
   rw [List.any_eq_true]
   exact ⟨e,hem,hyes⟩
  ·refine rnT ?_
   refine KW.rd (i+1) ⟨by omega,hB.step hb1,?_⟩
   rw [List.take_add_one,List.any_append,hno,he]
   simp [hnot]
 ·refine rnT ?_
  refine rt1 rfl ⟨hB,.inl ⟨rfl,?_⟩⟩
  rw [show i=L.length by omega,List.take_length] at hno
  exact hno
theorem someRV_c {L:List (List Ev)} {p:List Ev→Bool} (hl:SL (sliceT evT) (fun k=>k<w.heap.size) w v L) (hk:enters Tryz.prog k=true) (hp:PredRV w k caps L p) :
  Gives Tryz.prog 56 #[v,.func (.func k) #[] caps.toArray] w fun x w'=>Below w.heap.size w w'∧x= .bool (L.any p):=by
 obtain ⟨A,cap,rfl,_⟩:=hl.form
 refine gv (f:=56) ?_
 refine rnT ?_
 refine TW.cl rfl (indexRV_c hl hk hp) ?_
 rintro y1 w1 ⟨hb1,h1⟩
 rcases h1 with ⟨rfl,h1⟩|⟨i,rfl,h1⟩
 ·skip
  refine rnT ?_
  refine rt1 rfl ⟨hb1,by rw [h1]; rfl⟩
 ·skip
  refine rnT ?_
  refine rt1 rfl ⟨hb1,by rw [h1]; simp⟩
theorem seen1_c {lv:Value} (hB:Blk w g 31 [lv]) (hl:SE w lv l) (hsm:l.length≤1000000) (hne: ∀e∈l,e.needs.length≤1000000):PredRI w 35 [.pointer (some ⟨g,0,none⟩)] L (fun S=>decide ((restS l S).length=0)):=by
 intro S hS rv w' hb hr
 have hB1:=hB.next hb
 have hl1:=se_step hl hb
 obtain ⟨A,cap,rfl,_⟩:=hl1.form
 obtain ⟨R,rcap,rfl,_⟩:=hr.form
 refine gv (f:=35) ?_
 refine rnT ?_
 refine TW.ld rfl (hB1.cell 0) ?_
 refine rnT ?_
 refine TW.cl rfl (rest_c hl1 hr hsm hne) ?_
 rintro y1 w1 ⟨b1,h1⟩
 obtain ⟨A1,cap1,rfl,_⟩:=h1.form
 refine rnT ?_
 refine rt1 rfl ⟨b1,by congr 1; simp⟩
end Go.Proofs.YtffjgpoadfkjlaaGreatDoor
namespace Go.PF
open Go.RowKit
variable {α:Type}
def RowB (T:Ty α) (w:World) (e:TypeId) (b:Nat) (v:Value) (ps:List (List Value×α)):Prop:=OwnS w e T.n v ps.length (ps.flatMap (·.1))∧(∀p∈ps,T.rep (fun k=>b≤k∧RowF w v k) w p.1 p.2)∧ ∀g,v.ownBlock=some g→b≤g
theorem RowB.nil (T:Ty α) (w:World) (e:TypeId) (b:Nat):RowB T w e b (.slice none 0 0) []:=⟨OwnS.nil _ _ _,(fun p hp=>by cases hp),fun g h=>by simp [Value.ownBlock] at h⟩
theorem RowB.new {T:Ty α} {w:World} {e:TypeId} {b g:Nat} (hB:Blk w g e []) (hg:b≤g):RowB T w e b (.slice (some ⟨g,0,none⟩) 0 0) [] :=
 ⟨OwnS.of_blk hB (by simp) (by simp),(fun p hp=>by cases hp),fun q h=>by simp [Value.ownBlock] at h; omega⟩
theorem RowB.l {T:Ty α} {w:World} {e:TypeId} {b:Nat} {v:Value} {ps:List (List Value×α)} (h:RowB T w e b v ps):RowL T w e b v ps:=⟨h.1,fun p hp=>T.wider _ _ _ _ _ (fun _ hk=>hk.2) (h.2.1 p hp),h.2.2⟩
theorem RowB.sl {T:Ty α} (h0:0<T.n) {w:World} {e:TypeId} {b:Nat} {v:Value} {ps:List (List Value×α)} (h:RowB T w e b v ps):SL T (fun k=>b≤k∧k<w.heap.size) w v (ps.map (·.2)) :=
 OwnS.toSLp ps (fun p hp=>T.wider _ _ _ _ _ (fun _ hk=>⟨hk.1,hk.2.1⟩) (h.2.1 p hp)) h0 h.1 rfl (fun g hg=>⟨h.2.2 g hg,h.1.lt hg⟩) h.l.big
theorem RowB.step {T:Ty α} {w w':World} {e:TypeId} {b:Nat} {v:Value} {ps:List (List Value×α)} (h:RowB T w e b v ps) (hb:Below w.heap.size w w'):RowB T w' e b v ps :=
 ⟨h.1.below hb,fun p hp=>T.wider _ _ _ _ _ (fun k hk=>⟨hk.1,Nat.lt_of_lt_of_le hk.2.1 hb.size,hk.2.2⟩) (T.mono _ _ _ _ _ (Kept.of_below hb) (h.2.1 p hp)),h.2.2⟩
theorem RowB.app {T:Ty α} {w w':World} {e:TypeId} {b:Nat} {v v':Value} {ps:List (List Value×α)} {cs:List Value} {x:α} (h:RowB T w e b v ps) (hO:OwnS w' e T.n v' (ps.length+1) (ps.flatMap (·.1)++cs)) (hg:w.grownBy w' v.ownBlock) (hn:v'.ownBlock=v.ownBlock∨v'.ownBlock=some w.heap.size)
  (hr:T.rep (fun k=>b≤k∧RowF w v k) w cs x) (hb:b≤w.heap.size):RowB T w' e b v' (ps++ [(cs,x)]):=by
 have hk:Kept (fun k=>b≤k∧RowF w v k) w w':=Kept.of_blocks fun k hk hlt=>hg.block k hlt (fun e=>hk.2.2 e.symm)
 have hw: ∀k,(b≤k∧RowF w v k)→b≤k∧RowF w' v' k:=fun k hk=>⟨hk.1,Nat.lt_of_lt_of_le hk.2.1 hg.size,fun e=>by
  rcases hn with h'|h'
  ·exact hk.2.2 (by rw [←h']; exact e)
  ·rw [h'] at e; cases e; exact absurd hk.2.1 (Nat.lt_irrefl _)⟩
 refine ⟨by rw [List.flatMap_append,List.length_append]; simpa using hO,fun p hp=> ?_,fun q hq=> ?_⟩
 ·rcases List.mem_append.1 hp with hp|hp
  ·exact T.wider _ _ _ _ _ hw (T.mono _ _ _ _ _ hk (h.2.1 p hp))
  ·rw [List.mem_singleton] at hp
   subst hp
   exact T.wider _ _ _ _ _ hw (T.mono _ _ _ _ _ hk hr)
 ·rcases hn with h'|h'
  ·exact h.2.2 q (by rw [←h']; exact hq)
  ·rw [h'] at hq; cases hq; exact hb
end Go.PF
namespace Go.Proofs.YtffjgpoadfkjlaaGreatDoor
open Go.PF Go.RowKit Go.Ord
attribute [local irreducible] TW CW KW DW
theorem restB_c {w:World} {v u:Value} {l:List Ev} {S:List Int} {F:Nat→Prop} (hl:SE w v l) (hS:SL intT F w u S) (hsm:l.length≤1000000) (hne: ∀e∈l,e.needs.length≤1000000) :
  Gives Tryz.prog 36 #[v,u] w fun x w'=>Below w.heap.size w w'∧SL evT (fun k=>w.heap.size≤k∧k<w'.heap.size) w' x (restS l S):=by
 obtain ⟨A,cap,rfl,_⟩:=hl.form
 obtain ⟨B,bcap,rfl,_⟩:=hS.form
 have hSmax:S.length≤9223372036854775807:=hS.len.2.2
 refine gv (f:=36) ?_
 refine rnT ?_
 refine TW.makeMapL intK rfl rfl ?_
 rintro b w1 hbw hw1 hb1 hM1
 refine TW.newVar1 rfl zc155 rfl sz155 rfl ?_
 rintro g w2 f2
 refine rnT ?_
 have hg2:=f2.at_
 refine CW.lp [0,5,13,14] (fun i:Nat=> [(15,none,.int .i64 (i:Int))])
  (fun i W=>i≤S.length∧But b w2 W∧Drawn W b (S.take i)) (fun i=>S.length-i) 0 ⟨Nat.zero_le _,But.of_below (Below.refl _ _),⟨[],hM1.below f2.below,fun x=>by simp,fun p hp=>by cases hp⟩⟩ ?_
 rintro i W ⟨hi,hbut,hD⟩
 have hbw2:Below w.heap.size w W:=But.below (hb1.step f2.below) hbut (by omega)
 have hBg:Blk W g 155 [.map (some b)]:=hbut.blk f2.blk (by omega)
 refine rnT ?_
 refine CW.condP rfl (fun hlt=> ?_) (fun hge=> ?_)
 ·have hil:i<S.length:=by omega
  have hSW:=hS.below hbw2
  obtain ⟨ad,rfl⟩:=hSW.addr (by omega)
  have hx:S[i]?=some S[i]:=List.getElem?_eq_getElem hil
  obtain ⟨m,hm,hmS,hmT⟩:=hD
  refine rnT ?_
  refine TW.ld rfl (hSW.getI hx) ?_
  refine rnT ?_
  refine TW.ld rfl (hBg.cell 0) ?_
  refine rnT ?_
  refine TW.mapUpdateL intK S[i] (vz:= .bool true) rfl Tryz.underlying155 rfl rfl rfl hm ?_
  rintro w3 hs3 hbut3 hM3
  refine rnT ?_
  refine KW.rd (i+1) ⟨by omega,hbut.trans hbut3,_,hM3,fun x=> ?_,fun p hp=> ?_⟩
  ·rw [List.take_add_one,hx]
   constructor
   ·rintro ⟨v,hv⟩
    rcases mem_lput.1 hv with h|⟨h,_⟩
    ·simp only [Prod.mk.injEq] at h; rw [h.1]; exact List.mem_append_right _ (by simp)
    ·exact List.mem_append_left _ ((hmS x).1 ⟨v,h⟩)
   ·intro h
    by_cases hxe:x=S[i]
    ·exact ⟨.bool true,mem_lput.2 (.inl (by rw [hxe]))⟩
    ·rcases List.mem_append.1 h with h|h
     ·obtain ⟨v,hv⟩:=(hmS x).2 h
      exact ⟨v,mem_lput.2 (.inr ⟨hv,hxe⟩)⟩
     ·simp at h
      exact absurd h hxe
  ·rcases mem_lput.1 hp with rfl|⟨h,_⟩
   ·rfl
   ·exact hmT p h
 have hD':Drawn W b S:=by
  rw [show i=S.length by omega,List.take_length] at hD
  exact hD
 refine rnT ?_
 refine TW.makeFunc rfl rfl (Args.cons rfl ct Args.nil) ?_
 refine rnT ?_
 refine CW.lp [8,23,24] (fun x:Nat×Value×List (List Value×Ev)=> [(9,none,x.2.1),(25,none,.int .i64 (x.1:Int))])
  (fun x W'=>x.1≤l.length∧Below W.heap.size W W'∧RowB evT W' 39 W.heap.size x.2.1 x.2.2∧x.2.2.map (·.2)=restS (l.take x.1) S) (fun x=>l.length-x.1) (0,.slice none 0 0,[]) ⟨Nat.zero_le _,Below.refl _ _,RowB.nil _ _ _ _,rfl⟩ ?_
 rintro ⟨k,rv,ps⟩ W' ⟨hk,hB,hR,hmap⟩
 dsimp only at hk hB hR hmap
 refine rnT ?_
 refine CW.pk [8,9,23,24,25,26] rfl ?_
 refine CW.condP rfl (fun hlt2=> ?_) (fun hge2=> ?_)
 ·have hkl:k<l.length:=by omega
  obtain ⟨e,he⟩: ∃e,l[k]?=some e:=⟨l[k],List.getElem?_eq_getElem hkl⟩
  have hem:=List.mem_of_getElem? he
  have hlW:=se_step hl (hbw2.step hB)
  obtain ⟨ad,rfl⟩:=hlW.addr (by omega)
  obtain ⟨nv,hcells,i1,i2,i3,hneeds⟩:=SE.get hlW he
  obtain ⟨C,ncap,rfl,_⟩:=hneeds.form
  have htk:restS (l.take (k+1)) S=restS (l.take k) S++if gone S e then [] else [e]:=by
   unfold restS
   rw [List.take_add_one,he,List.filter_append]
   cases hq:gone S e<;>simp [List.filter,hq]
  refine rnT ?_
  refine TW.ldS rfl (hcells) ?_
  refine TW.newVar rfl zc39 rfl sz39 rfl rfl ?_
  rintro g3 w3 f3
  refine rnT ?_
  have hB3:=hB.step f3.below
  refine TW.ldS rfl (fun _ _ h=>f3.blk.fld h) ?_
  refine TW.call0 rfl rfl en79 rfl (Args.cons rfl ct Args.nil) (rest1_c (hBg.next hB3) (hD'.step hB3) (hneeds.below f3.below)) ?_
  rintro y4 w4 ⟨hb4,rfl⟩
  have hB4:=hB3.step hb4
  have hBk4:=f3.blk.next hb4
  refine rnT ?_
  refine CW.cond rfl (fun hin=> ?_) (fun hout=> ?_)
  ·have hg0:gone S e=false:=by simpa using hin
   rw [hg0] at htk
   refine rnT ?_
   refine TW.ld rfl (hBk4.fld rfl) ?_
   refine TW.cl rfl (cloneI_c ((hneeds.below f3.below).below hb4) (hne e hem)) ?_
   rintro y5 w5 ⟨hb5,hn5,C5,n5,c5,rfl⟩
   have hBk5:=hBk4.next hb5
   refine rnT ?_
   refine TW.storeFld rfl sz37 rfl rfl hBk5 (by show 3<4; decide) rfl ?_
   rintro w6 hB6 hbut6 hsz6
   refine rnT ?_
   have hB5:=hB4.step hb5
   have hB6':Below W.heap.size W w6:=hB5.grown hbut6 hB5.size (fun q hq=>by cases hq; have:=f3.at_; have:=hB.size; omega)
   have hg3w:W'.heap.size≤g3:=Nat.le_of_eq f3.at_.symm
   refine TW.ldS rfl (fun _ _ h=>hB6.fld h) ?_
   refine TW.buildSlice 39 _ rfl rfl rfl eo31 (Args.cons rfl ct Args.nil) rfl rfl rfl rfl rfl ?_
   rintro g7 w7 f7
   have hW6:Below W'.heap.size W' w6:=by
    have h5:=(f3.below.step hb4).step hb5
    exact h5.grown hbut6 h5.size (fun q hq=>by cases hq; exact hg3w)
   have hR7:=(hR.step hW6).step f7.below
   have hrow: ∀q,rv.ownBlock=some q→q<W'.heap.size:=fun q hq=>hR.1.lt hq
   have hn7:SL intT (fun k=>W.heap.size≤k∧RowF w7 rv k) w7 (.slice C5 n5 c5) e.needs:=by
    have h6:=SL.mono hn5 (w':=w6) (Kept.of_blocks fun k hk hlt=>hbut6.block k hlt (fun e=>by cases e; have:=f3.size; have:=hb4.size; omega))
    refine SL.wider (SL.nb intT_nb (h6.below f7.below)) (fun k hk=>⟨Nat.le_trans hB4.size hk.1,hk.2,fun e=> ?_⟩)
    have h1:=hrow k e
    have h2:=hk.1
    have:=f3.below.size
    have:=hb4.size
    omega
   have hfew:ps.length≤1000000:=by
    have h1:ps.length=(restS (l.take k) S).length:=by rw [←hmap]; simp
    have h2:(restS (l.take k) S).length≤(l.take k).length:=List.length_filter_le _ _
    have h3:(l.take k).length≤l.length:=by rw [List.length_take]; omega
    omega
   refine TW.append [.int .i64 e.office,.int .i64 e.low,.int .i64 e.high,.slice C5 n5 c5] rfl rfl go31 rfl hR7.1 rfl rfl (fun j v hj=>⟨⟨g7,0,none⟩,rfl,f7.blk.fld hj⟩) (fun v hv=>by simp at hv; rcases hv with rfl|rfl|rfl|rfl<;>rfl) (by omega) (by omega) ?_
   rintro rv' w8 hO8 hg8 hnew8
   refine rnT ?_
   have hW7:Below W'.heap.size W' w7:=hW6.step f7.below
   have hBW7:Below W.heap.size W w7:=hB6'.step f7.below
   have hown: ∀q,rv.ownBlock=some q→W.heap.size≤q:=hR.2.2
   have hR8:RowB evT w8 39 W.heap.size rv' (ps++ [([.int .i64 e.office,.int .i64 e.low,.int .i64 e.high,.slice C5 n5 c5],e)]):=hR7.app hO8 hg8 hnew8 ⟨_,rfl,i1,i2,i3,hn7⟩ hBW7.size
   refine KW.rd (k+1,rv',ps++ [([.int .i64 e.office,.int .i64 e.low,.int .i64 e.high,.slice C5 n5 c5],e)]) ⟨by show k+1≤l.length; omega,hBW7.grown hg8 hBW7.size hown,hR8,?_⟩
   show List.map Prod.snd (ps++ [_])=restS (l.take (k+1)) S
   rw [List.map_append,hmap,htk]
   simp
  ·have hg1:gone S e=true:=by simpa using hout
   rw [hg1] at htk
   refine rnT ?_
   refine KW.rd (k+1,rv,ps) ⟨by show k+1≤l.length; omega,hB4,(hR.step f3.below).step hb4,?_⟩
   show ps.map (·.2)=restS (l.take (k+1)) S
   rw [hmap,htk]
   simp
 ·refine rnT ?_
  have hke:k=l.length:=by omega
  subst hke
  refine rt1 rfl ⟨hbw2.step hB,?_⟩
  have:=hR.sl (by decide)
  rw [hmap,List.take_length] at this
  exact this.wider fun k hk=>⟨Nat.le_trans hbw2.size hk.1,hk.2⟩
end Go.Proofs.YtffjgpoadfkjlaaGreatDoor
