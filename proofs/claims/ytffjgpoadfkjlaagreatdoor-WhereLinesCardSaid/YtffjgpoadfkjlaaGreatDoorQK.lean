/- Texts of this claim,joined. -/
import Derived.Test.YtffjgpoadfkjlaaGreatDoorQJ
set_option linter.unusedSimpArgs false
set_option linter.unusedVariables false
set_option maxRecDepth 100000
set_option maxHeartbeats 4000000
namespace Go.Proofs.YtffjgpoadfkjlaaGreatDoor
open Go.PF Go.RowKit Go.Ord
attribute [local irreducible] TW CW KW DW
variable {w:World} {F:Nat→Prop} {v:NV} {N:Net}
def calV (c:Cal) (u v:Value):List Value:= [.int .i64 c.zone,u,v]
structure CalIn (F:Nat→Prop) (w:World) (u v:Value) (c:Cal):Prop where
 z:I64 c.zone
 wk:SL boolT F w u c.week
 hol:SL intT F w v c.hol
theorem CalIn.below {F:Nat→Prop} {w w':World} {u v:Value} {c:Cal} (h:CalIn F w u v c) (hb:Below w.heap.size w w'):CalIn F w' u v c:=⟨h.z,h.wk.below hb,h.hol.below hb⟩
theorem calValid_c {u v:Value} {c:Cal} (h:CalIn F w u v c):Gives Tryz.prog 60 #[.agg (calV c u v).toArray] w fun x w'=>Below w.heap.size w w'∧x= .bool (dec (CalOK c)):=by
 obtain ⟨A,cap,rfl,_⟩:=h.wk.form
 obtain ⟨B,bcap,rfl,_⟩:=h.hol.form
 refine gv (f:=60) ?_
 refine rnT ?_
 refine TW.box rfl rfl rfl rfl ?_
 rintro g1 w1 f1
 refine rnT ?_
 have hB:=f1.blk
 have h1:=h.below f1.below
 refine TW.ld rfl (hB.fld rfl) ?_
 refine rnT ?_
 refine TW.ld rfl (hB.fld rfl) ?_
 refine rnT ?_
 refine TW.ld rfl (hB.fld rfl) ?_
 refine rnT ?_
 refine TW.ld rfl (hB.fld rfl) ?_
 refine rnT ?_
 refine CW.pk [0,1,2,23] rfl ?_
 refine CW.cond rfl (fun hbad=> ?_) (fun hgood=> ?_)
 ·refine rnT ?_
  refine rt1 rfl ⟨f1.below,?_⟩
  rw [dec_neg fun h=> ?_]
  have q1:=h.z1
  have q2:=h.z2
  have q3:=h.wk
  have q4:=h.few
  simp at hbad
  omega
 have hg:(-720≤c.zone∧c.zone≤840)∧c.week.length=7∧c.hol.length≤40:=by simp at hgood; omega
 refine rnT ?_
 refine CW.lp [1] (fun k:Nat=> [(3,none,.int .i64 ((k:Int)+1))])
  (fun k W=>k≤c.hol.length∧Below w1.heap.size w1 W∧ ∀(i:Nat) (x y:Int),i<k→c.hol[i]?=some x→c.hol[i+1]?=some y→x<y) (fun k=>c.hol.length-k) 0 ⟨Nat.zero_le _,Below.refl _ _,fun i x y hi=>by omega⟩ ?_
 rintro k W ⟨hk,hBW,hinc⟩
 have hB2:=hB.next hBW
 refine rnT ?_
 refine TW.ld rfl (hB2.fld rfl) ?_
 refine rnT ?_
 refine CW.condP rfl (fun hlt=> ?_) (fun hge=> ?_)
 ·obtain ⟨x,hx,_⟩:=getx (l:=c.hol) (k:=k) (by omega)
  obtain ⟨y,hy,_⟩:=getx (l:=c.hol) (k:=k+1) (by omega)
  obtain ⟨ad,rfl⟩:=h.hol.addr (by omega)
  have hyc:W.cell? (ad.add (((k:Int)+1).toNat*1))=some (.int .i64 y):=by
   have:=(h1.hol.below hBW).getI hy
   rw [show ((k+1:Nat):Int)=(k:Int)+1 by omega] at this
   exact this
  have hxc:W.cell? (ad.add (((k:Int)+1-1).toNat*1))=some (.int .i64 x):=by
   have:=(h1.hol.below hBW).getI hx
   rw [show ((k:Nat):Int)=(k:Int)+1-1 by omega] at this
   exact this
  refine rnT ?_
  refine CW.draw mixed (by kernel_rfl) ?_
  refine rnD ?_
  refine DW.ld rfl (hB2.fld rfl) ?_
  refine rnD ?_
  refine DW.ld rfl hyc ?_
  refine rnD ?_
  refine DW.ld rfl (hB2.fld rfl) ?_
  refine rnD ?_
  refine DW.ld rfl hxc ?_
  refine rnD ?_
  refine DW.fi [1,3,42] rfl fun w3 b3=> ?_
  refine KW.then_ ?_
  refine CW.condP rfl (fun hbad2=> ?_) (fun hgood2=> ?_)
  ·refine rnT ?_
   refine rt1 rfl ⟨(f1.below.step hBW).step b3,?_⟩
   rw [dec_neg fun h=> ?_]
   have:=h.inc k x y hx hy
   omega
  ·refine rnT ?_
   rw [show ((k:Int)+1+1)=((k+1:Nat):Int)+1 by omega]
   refine KW.rd (k+1) ⟨by omega,hBW.step b3,fun i p q hi hp hq=> ?_⟩
   rcases Nat.lt_or_ge i k with h|h
   ·exact hinc i p q h hp hq
   ·have:i=k:=by omega
    subst this
    rw [hx] at hp
    rw [hy] at hq
    cases hp
    cases hq
    omega
 ·refine rnT ?_
  refine rt1 rfl ⟨f1.below.step hBW,?_⟩
  rw [dec_pos ⟨hg.1.1,hg.1.2,hg.2.1,hg.2.2,fun i x y hx hy=>hinc i x y (by have:=(List.getElem?_eq_some_iff.1 hy).1; omega) hx hy⟩]
def ofV (o:Of) (v:Value):List Value:= [.string o.name,.int .i64 o.op,.int .i64 o.cal,.int .i64 o.pock,.int .i64 o.pass,.int .i64 o.mins,v]
structure OfIn (F:Nat→Prop) (w:World) (v:Value) (o:Of):Prop where
 nm:o.name.size≤9223372036854775807
 i1:I64 o.op
 i2:I64 o.cal
 i3:I64 o.pock
 i4:I64 o.pass
 i5:I64 o.mins
 cd:SL strT F w v o.codes
theorem OfIn.below {F:Nat→Prop} {w w':World} {v:Value} {o:Of} (h:OfIn F w v o) (hb:Below w.heap.size w w'):OfIn F w' v o:=⟨h.nm,h.i1,h.i2,h.i3,h.i4,h.i5,h.cd.below hb⟩
structure NVform (v:NV) (N:Net):Prop where
 c: ∃A c,v.c= .slice A N.cals.length c
 n: ∃A c,v.n= .slice A N.names.length c
 o: ∃A c,v.o= .slice A N.ops.length c
 f: ∃A c,v.f= .slice A N.offs.length c
 l: ∃A c,v.l= .slice A N.lines.length c
 k: ∃A c,v.k= .slice A N.classes.length c
theorem NetIn.form {F:Nat→Prop} {w:World} {v:NV} {N:Net} (h:NetIn F w v N):NVform v N:=by
 obtain ⟨a1,b1,h1,_⟩:=h.c.form
 obtain ⟨a2,b2,h2,_⟩:=h.n.form
 obtain ⟨a3,b3,h3,_⟩:=h.o.form
 obtain ⟨a4,b4,h4,_⟩:=h.f.form
 obtain ⟨a5,b5,h5,_⟩:=h.l.form
 obtain ⟨a6,b6,h6,_⟩:=h.k.form
 exact ⟨⟨_,_,h1⟩,⟨_,_,h2⟩,⟨_,_,h3⟩,⟨_,_,h4⟩,⟨_,_,h5⟩,⟨_,_,h6⟩⟩
theorem goodOffice_c {ov:Value} {o:Of} (hN:NVform v N) (h:OfIn F w ov o):Gives Tryz.prog 67 #[.agg v.cells.toArray,.agg (ofV o ov).toArray] w fun x w'=>Below w.heap.size w w'∧x= .bool (dec (OfOK N o)):=by
 obtain ⟨A,cap,rfl,_⟩:=h.cd.form
 obtain ⟨vc,vn,vo,vf,vl,vk⟩:=v
 obtain ⟨⟨A1,c1,e1⟩,_,⟨A3,c3,e3⟩,_,_,_⟩:=hN
 dsimp only at e1 e3
 subst e1 e3
 refine gv (f:=67) ?_
 refine rnT ?_
 refine TW.box rfl rfl rfl rfl ?_
 rintro g1 w1 f1
 refine TW.box rfl rfl rfl rfl ?_
 rintro g2 w2 f2
 refine rnT ?_
 have hB1:=f1.blk.next f2.below
 have hB2:=f2.blk
 have b2:=f1.below.step f2.below
 have hcd:=h.cd.below b2
 refine TW.ld rfl (hB2.fld rfl) ?_
 refine rnT ?_
 refine TW.ld rfl (hB1.fld rfl) ?_
 refine TW.cl rfl (isIndexO_c) ?_
 rintro y3 w3 ⟨d3,rfl⟩
 have hB13:=hB1.next d3
 have hB23:=hB2.next d3
 refine rnT ?_
 refine TW.ld rfl (hB23.fld rfl) ?_
 refine rnT ?_
 refine TW.ld rfl (hB13.fld rfl) ?_
 refine TW.callF (cap:= []) rfl rfl en113 rfl ct (Args.cons rfl id (Args.cons rfl id Args.nil)) (fun _=>isIndexC_c) ?_
 rintro w4 d4
 refine rnT ?_
 have hB14:=hB13.next d4
 have hB24:=hB23.next d4
 have b4:=(b2.step d3).step d4
 refine TW.ld rfl (hB24.fld rfl) ?_
 refine rnT ?_
 refine CW.pk [0,1,2,3,4,26] rfl ?_
 refine CW.cond rfl (fun hbad=> ?_) (fun hgood=> ?_)
 ·refine rnT ?_
  refine rt1 rfl ⟨b4,?_⟩
  rw [dec_neg fun h=> ?_]
  have q1:=h.o1
  have q2:=h.o2
  have q3:=h.c1
  have q4:=h.c2
  have q5:=h.few
  simp [q1,q2,q3,q4] at hbad
  omega
 have hg:(0≤o.op∧o.op<N.ops.length)∧(0≤o.cal∧o.cal<N.cals.length)∧o.codes.length≤20:=by
  simp at hgood
  omega
 have hcd4:=hcd.below (d3.step d4)
 refine rnT ?_
 refine TW.ld rfl (hB24.fld rfl) ?_
 refine rnT ?_
 refine CW.lp [3,28,29] (fun k:Nat=> [(30,none,.int .i64 (k:Int))])
  (fun k W=>k≤o.codes.length∧Below w4.heap.size w4 W∧ ∀c∈o.codes.take k,CodeOK c) (fun k=>o.codes.length-k) 0 ⟨Nat.zero_le _,Below.refl _ _,fun c hc=>by simp at hc⟩ ?_
 rintro k W ⟨hk,hBW,hok⟩
 have hcW:=hcd4.below hBW
 have hB2W:=hB24.next hBW
 refine rnT ?_
 refine CW.condP rfl (fun hlt=> ?_) (fun hge=> ?_)
 ·obtain ⟨c,hc,hcm⟩:=getx (l:=o.codes) (k:=k) (by omega)
  obtain ⟨ad,rfl⟩:=hcW.addr (by omega)
  refine rnT ?_
  refine TW.ld rfl (hcW.getT hc) ?_
  refine rnT ?_
  refine TW.cl rfl (isCode_c) ?_
  rintro y5 w5 ⟨d5,rfl⟩
  refine rnT ?_
  refine CW.pk [3,6,28,29,30,36] rfl ?_
  refine CW.cond rfl (fun hb1=> ?_) (fun hb2=> ?_)
  ·refine rnT ?_
   refine rt1 rfl ⟨(b4.step hBW).step d5,?_⟩
   rw [dec_neg fun h=> ?_]
   rw [dec_pos (h.codes c hcm)] at hb1
   simp at hb1
  ·refine rnT ?_
   refine KW.rd (k+1) ⟨by omega,hBW.step d5,fun z hz=> ?_⟩
   rw [List.take_add_one,hc] at hz
   rcases List.mem_append.1 hz with hz|hz
   ·exact hok z hz
   ·simp at hz
    subst hz
    exact dec_iff.1 (by simpa using hb2)
 ·rw [List.take_of_length_le (by omega)] at hok
  refine rnT ?_
  refine TW.ld rfl (hB2W.fld rfl) ?_
  refine TW.cl rfl (isFrom_c) ?_
  rintro y5 w5 ⟨d5,rfl⟩
  have hB25:=hB2W.next d5
  refine rnT ?_
  refine TW.ld rfl (hB25.fld rfl) ?_
  refine TW.callF (cap:= []) rfl rfl en115 rfl ct (Args.cons rfl id (Args.cons rfl ct (Args.cons rfl ct Args.nil))) (fun _=>isFrom_c) ?_
  rintro w6 d6
  refine rnT ?_
  have hB26:=hB25.next d6
  refine TW.ld rfl (hB26.fld rfl) ?_
  refine TW.callF (cap:= []) rfl rfl en115 rfl ct (Args.cons rfl id (Args.cons rfl ct (Args.cons rfl ct Args.nil))) (fun _=>isFrom_c) ?_
  rintro w7 d7
  refine rnT ?_
  refine rt1 rfl ⟨(((b4.step hBW).step d5).step d6).step d7,?_⟩
  by_cases hq:OfOK N o
  ·rw [dec_pos hq]
   have q1:=hq.p1
   have q2:=hq.p2
   have q3:=hq.q1
   have q4:=hq.q2
   have q5:=hq.m1
   have q6:=hq.m2
   simp [q1,q2,q3,q4,q5,q6]
  ·rw [dec_neg hq]
   have: ¬(((2≤o.pock∧o.pock≤64)∧1≤o.pass∧o.pass≤4)∧1≤o.mins∧o.mins≤240):=fun h=>hq ⟨hg.1.1,hg.1.2,hg.2.1.1,hg.2.1.2,hg.2.2,hok,h.1.1.1,h.1.1.2,h.1.2.1,h.1.2.2,h.2.1,h.2.2⟩
   congr 1
   simp only [Bool.and_eq_false_iff,decide_eq_false_iff_not]
   omega
theorem goodLine_c {l:Li} (hN:NVform v N):Gives Tryz.prog 71 #[.agg v.cells.toArray,.agg (liV l).toArray] w fun x w'=>Below w.heap.size w w'∧x= .bool (dec (LiOK N l)):=by
 obtain ⟨vc,vn,vo,vf,vl,vk⟩:=v
 obtain ⟨_,_,_,⟨A4,c4,e4⟩,_,_⟩:=hN
 dsimp only at e4
 subst e4
 refine gv (f:=71) ?_
 refine rnT ?_
 refine TW.box rfl rfl rfl rfl ?_
 rintro g1 w1 f1
 refine TW.box rfl rfl rfl rfl ?_
 rintro g2 w2 f2
 refine rnT ?_
 have hB1:=f1.blk.next f2.below
 have hB2:=f2.blk
 have b2:=f1.below.step f2.below
 refine TW.ld rfl (hB2.fld rfl) ?_
 refine rnT ?_
 refine TW.ld rfl (hB1.fld rfl) ?_
 refine TW.cl rfl (isIndexF_c) ?_
 rintro y3 w3 ⟨d3,rfl⟩
 have hB13:=hB1.next d3
 have hB23:=hB2.next d3
 refine rnT ?_
 refine TW.ld rfl (hB23.fld rfl) ?_
 refine rnT ?_
 refine TW.ld rfl (hB13.fld rfl) ?_
 refine TW.callF (cap:= []) rfl rfl en119 rfl ct (Args.cons rfl id (Args.cons rfl id Args.nil)) (fun _=>isIndexF_c) ?_
 rintro w4 d4
 refine rnT ?_
 have hB14:=hB13.next d4
 have hB24:=hB23.next d4
 have b4:=(b2.step d3).step d4
 refine TW.ld rfl (hB24.fld rfl) ?_
 refine rnT ?_
 refine TW.ld rfl (hB24.fld rfl) ?_
 refine rnT ?_
 refine CW.pk [0,1,2,3,4,25] rfl ?_
 refine CW.cond rfl (fun hbad=> ?_) (fun hgood=> ?_)
 ·refine rnT ?_
  refine rt1 rfl ⟨b4,?_⟩
  rw [dec_neg fun h=> ?_]
  have q1:=h.f1
  have q2:=h.f2
  have q3:=h.t1
  have q4:=h.t2
  have q5:=h.ne
  simp [q1,q2,q3,q4,q5] at hbad
 have hg:(0≤l.frm∧l.frm<N.offs.length)∧(0≤l.to∧l.to<N.offs.length)∧l.frm≠l.to:=by
  simp at hgood
  omega
 refine rnT ?_
 refine TW.ld rfl (hB24.fld rfl) ?_
 refine TW.cl rfl (isMinute_c) ?_
 rintro y5 w5 ⟨d5,rfl⟩
 have hB25:=hB24.next d5
 refine rnT ?_
 refine TW.ld rfl (hB25.fld rfl) ?_
 refine TW.callF (cap:= []) rfl rfl en115 rfl ct (Args.cons rfl id (Args.cons rfl ct (Args.cons rfl ct Args.nil))) (fun _=>isFrom_c) ?_
 rintro w6 d6
 refine rnT ?_
 have hB26:=hB25.next d6
 refine TW.ld rfl (hB26.fld rfl) ?_
 refine TW.callF (cap:= []) rfl rfl en115 rfl ct (Args.cons rfl id (Args.cons rfl ct (Args.cons rfl ct Args.nil))) (fun _=>isFrom_c) ?_
 rintro w7 d7
 refine rnT ?_
 refine rt1 rfl ⟨((b4.step d5).step d6).step d7,?_⟩
 by_cases hq:LiOK N l
 ·rw [dec_pos hq]
  have q1:=hq.a1
  have q2:=hq.a2
  have q3:=hq.r1
  have q4:=hq.r2
  have q5:=hq.d1
  have q6:=hq.d2
  simp [q1,q2,q3,q4,q5,q6]
 ·rw [dec_neg hq]
  have: ¬(((0≤l.at_∧l.at_≤1439)∧1≤l.trav∧l.trav≤5000)∧1≤l.load∧l.load≤40):=fun h=>hq ⟨hg.1.1,hg.1.2,hg.2.1.1,hg.2.1.2,hg.2.2,h.1.1.1,h.1.1.2,h.1.2.1,h.1.2.2,h.2.1,h.2.2⟩
  congr 1
  simp only [Bool.and_eq_false_iff,decide_eq_false_iff_not]
  omega
abbrev PlE:=Value×Spt×Knd
def plPos (N:Net) (t:Int) (pre:List PlE) (x:PlE) (_:Nat→Prop) (W:World):Prop:=pre.map (·.2)=(plsS N t).take pre.length∧(plsS N t)[pre.length]?=some x.2∧ ∃b,FormAt b W x.1 x.2.2
theorem take_snoc {α:Type} {l:List α} {i:Nat} {x:α} (h:l[i]?=some x):l.take (i+1)=l.take i++ [x]:=by rw [List.take_add_one,h]; rfl
theorem places_iter {t:Int} {g1 g2:Nat} (hN:NetIn F w v N) (hF: ∀k,F k→k<w.heap.size) (hB1:Blk w g1 29 v.cells) (hB2:Blk w g2 3 [.int .i64 t]) (hsm:N.offs.length≤1000∧N.lines.length≤1000) :
  IterW Tryz.prog 54 [.pointer (some ⟨g1,0,none⟩),.pointer (some ⟨g2,0,none⟩)] (fun x:PlE=> [.agg (spV x.2.1).toArray,x.1]) (plPos N t) (fun xs=>xs.map (·.2)=plsS N t) (fun k=>k=g1∨k=g2∨F k) w:=by
 intro yl J Jx W M hown hsz hyl hM hMlt hJ hJx hy h0
 have hform:=NetIn.form hN
 obtain ⟨vc,vn,vo,vf,vl,vk⟩:=v
 obtain ⟨_,_,_,⟨A4,c4,e4⟩,⟨A5,c5,e5⟩,_⟩:=id hform
 dsimp only at e4 e5
 subst e4 e5
 have hlt: ∀k,(k=g1∨k=g2∨F k)→k<w.heap.size:=fun k hk=>by
  rcases hk with rfl|rfl|hk
  ·exact hB1.lt
  ·exact hB2.lt
  ·exact hF k hk
 have mem: ∀W':World,(∀k,(k=g1∨k=g2∨F k)→W'.heap[k]?=w.heap[k]?)→Blk W' g1 29 (NV.cells ⟨vc,vn,vo,.slice A4 N.offs.length c4,.slice A5 N.lines.length c5,vk⟩)∧Blk W' g2 3 [.int .i64 t]∧SL liT F W' (.slice A5 N.lines.length c5) N.lines:=fun W' h =>
  ⟨(h g1 (.inl rfl)).trans hB1,(h g2 (.inr (.inl rfl))).trans hB2,hN.l.mono (Kept.of_blocks fun k hk _=>h k (.inr (.inr hk)))⟩
 have hown': ∀k,(k=g1∨k=g2∨F k)→W.heap[k]?=w.heap[k]?:=fun k hk=>hown k hk (hlt k hk)
 obtain ⟨m1,m2,m3⟩:=mem W hown'
 have hpl:=plsS_len N t
 refine gv (f:=54) ?_
 refine rnT ?_
 refine TW.ld rfl (m1.fld rfl) ?_
 refine rnT ?_
 refine CW.lp [0,1,2,9] (fun x:List PlE×(Nat→Prop)=> [(10,none,.int .i64 (x.1.length:Int))])
  (fun x W'=>J x.1 x.2 W'∧x.1.length≤N.offs.length∧x.1.map (·.2)=(plsS N t).take x.1.length∧W.heap.size≤W'.heap.size∧(∀k,x.2 k→k<W'.heap.size)∧ ∀k,(k=g1∨k=g2∨F k)→W'.heap[k]?=w.heap[k]?∧ ¬x.2 k) (fun x=>N.offs.length-x.1.length) ([],M) ⟨h0,Nat.zero_le _,rfl,Nat.le_refl _,hMlt,fun k hk=>⟨hown' k hk,(hM k hk).1⟩⟩ ?_
 rintro ⟨pre,M1⟩ W1 ⟨hj,hpn,heq,hsz1,hM1,hk1⟩
 dsimp only at hj hpn heq hM1 hk1
 refine rnT ?_
 refine CW.condP rfl (fun hgo=> ?_) (fun hend=> ?_)
 ·dsimp only at hgo
  have hat:=plsS_off (N:=N) (t:=t) (i:=pre.length) (by omega)
  obtain ⟨n1,n2,n3⟩:=mem W1 (fun k hk=>(hk1 k hk).1)
  refine rnT ?_
  refine TW.build [0,1] _ [.int .i64 (pre.length:Int),.int .i64 (-1)] rfl rfl rfl (Args.cons rfl ct (Args.cons rfl ct Args.nil)) (by kernel_rfl) ?_
  refine rnT ?_
  refine TW.ld rfl (n2.cell 0) ?_
  refine TW.ld rfl (n2.cell 0) ?_
  refine TW.cl rfl (visit_c) ?_
  rintro fv w2 ⟨b2,hf2⟩
  have hj2:J pre M1 w2:=hJ _ _ _ _ hj (.of_below b2)
  refine TW.yield rfl rfl rfl (Args.cons rfl ct (Args.cons rfl ct Args.nil)) (hy pre (fv,((pre.length:Int),-1),.at pre.length t t) M1 w2 hj2 ⟨heq,hat,_,hf2⟩ (fun k hk=>by have:=hM1 k hk; have:=b2.size; omega) (by have:=b2.size; omega)) ?_
  rintro yb W3 hR
  have hk3: ∀k,(k=g1∨k=g2∨F k)→W3.heap[k]?=w.heap[k]?:=fun k hk=>(hR.kept k (by have:=hlt k hk; have:=b2.size; omega) (hk1 k hk).2 (hM k hk).2).trans ((b2.block k (by have:=hlt k hk; omega)).trans (hk1 k hk).1)
  refine rnT ?_
  refine CW.cond rfl (fun hno=> ?_) (fun hyes=> ?_)
  ·refine rnT ?_
   refine ret0 Tryz.results54 (.inr ?_)
   obtain ⟨M',hx⟩:=hR.no (by simpa using hno)
   exact ⟨_,M',hx⟩
  ·refine rnT ?_
   obtain ⟨M',hj3,hm3⟩:=hR.yes (by simpa using hyes)
   refine KW.rd (pre++ [(fv,((pre.length:Int),-1),.at pre.length t t)],M') ⟨hj3,by simp; omega,?_,by have:=hR.size; have:=b2.size; omega,fun k hk=>(hm3 k hk).2,fun k hk=>⟨hk3 k hk,fun hmk=> ?_⟩⟩ (hm:=by simp; omega) (hp:= ?_)
   ·dsimp only
    rw [List.map_append,heq,List.length_append,List.length_cons,List.length_nil,Nat.zero_add,take_snoc hat]
    rfl
   ·rcases (hm3 k hmk).1 with h|h
    ·exact (hk1 k hk).2 h
    ·have:=hlt k hk; have:=b2.size; omega
   ·simp only [List.length_append,List.length_cons,List.length_nil,Nat.zero_add,Int.natCast_add]
    rfl
 have hpe:pre.length=N.offs.length:=by
  dsimp only at hend
  omega
 obtain ⟨n1,n2,n3⟩:=mem W1 (fun k hk=>(hk1 k hk).1)
 refine rnT ?_
 refine TW.ld rfl (n1.fld rfl) ?_
 refine rnT ?_
 refine CW.lp [0,1,2,24,25] (fun x:List PlE×Nat×(Nat→Prop)=> [(26,none,.int .i64 (x.2.1:Int))])
  (fun x W'=>J x.1 x.2.2 W'∧x.2.1≤N.lines.length∧x.1.length=N.offs.length+x.2.1∧x.1.map (·.2)=(plsS N t).take x.1.length∧W.heap.size≤W'.heap.size∧(∀k,x.2.2 k→k<W'.heap.size)∧ ∀k,(k=g1∨k=g2∨F k)→W'.heap[k]?=w.heap[k]?∧ ¬x.2.2 k) (fun x=>N.lines.length-x.2.1) (pre,0,M1) ⟨hj,Nat.zero_le _,hpe,heq,hsz1,hM1,hk1⟩ ?_
 rintro ⟨pre,i,M1⟩ W1 ⟨hj,hin,hpn,heq,hsz1,hM1,hk1⟩
 dsimp only at hj hin hpn heq hM1 hk1
 refine rnT ?_
 refine CW.condP rfl (fun hgo=> ?_) (fun hend=> ?_)
 ·dsimp only at hgo
  obtain ⟨l,hl,hlm⟩:=getx (l:=N.lines) (k:=i) (by omega)
  have hat:=plsS_lin (N:=N) (t:=t) hl
  rw [←hpn] at hat
  obtain ⟨n1,n2,n3⟩:=mem W1 (fun k hk=>(hk1 k hk).1)
  obtain ⟨ad,rfl⟩:=n3.addr (by omega)
  obtain ⟨ad',cs,e9,hF9,hrep9,hc9⟩:=n3.at hl
  cases e9
  obtain ⟨rfl,_⟩:=hrep9
  refine rnT ?_
  refine TW.ldS rfl (fun j u hj=>hc9 j u hj) ?_
  refine TW.alloc rfl rfl zc36 ?_
  rintro g3 w3 f3
  refine rnT ?_
  refine TW.storeBlkF rfl rfl rfl f3.blk sz36 rfl rfl rfl ?_
  rintro w4 hB4 hbut4 hsz4
  refine rnT ?_
  have b4:Below W1.heap.size W1 w4:=f3.below.grown hbut4 f3.below.size (fun q hq=>by cases hq; have:=f3.at_; omega)
  refine TW.build [0,1] _ [.int .i64 (-1),.int .i64 (i:Int)] rfl rfl rfl (Args.cons rfl ct (Args.cons rfl ct Args.nil)) (by kernel_rfl) ?_
  refine TW.ldS rfl (fun _ _ hv=>hB4.fld hv) ?_
  refine TW.ld rfl ((n2.next b4).cell 0) ?_
  refine TW.cl rfl (ride_c) ?_
  rintro fv w2 ⟨b2',hf2⟩
  have b2:=b4.step b2'
  have hj2:J pre M1 w2:=hJ _ _ _ _ hj (.of_below b2)
  refine TW.yield rfl rfl rfl (Args.cons rfl ct (Args.cons rfl ct Args.nil)) (hy pre (fv,(-1,(i:Int)),.on l t) M1 w2 hj2 ⟨heq,hat,_,hf2⟩ (fun k hk=>by have:=hM1 k hk; have:=b2.size; omega) (by have:=b2.size; omega)) ?_
  rintro yb W3 hR
  have hk3: ∀k,(k=g1∨k=g2∨F k)→W3.heap[k]?=w.heap[k]?:=fun k hk=>(hR.kept k (by have:=hlt k hk; have:=b2.size; omega) (hk1 k hk).2 (hM k hk).2).trans ((b2.block k (by have:=hlt k hk; omega)).trans (hk1 k hk).1)
  refine rnT ?_
  refine CW.pk [0,1,2,5,6,24,25,26,38] rfl ?_
  refine CW.cond rfl (fun hno=> ?_) (fun hyes=> ?_)
  ·refine rnT ?_
   refine ret0 Tryz.results54 (.inr ?_)
   obtain ⟨M',hx⟩:=hR.no (by simpa using hno)
   exact ⟨_,M',hx⟩
  ·refine rnT ?_
   obtain ⟨M',hj3,hm3⟩:=hR.yes (by simpa using hyes)
   refine KW.rd (pre++ [(fv,(-1,(i:Int)),.on l t)],i+1,M') ⟨hj3,by dsimp only; omega,by simp; omega,?_,by have:=hR.size; have:=b2.size; omega,fun k hk=>(hm3 k hk).2,fun k hk=>⟨hk3 k hk,fun hmk=> ?_⟩⟩ (hm:=by dsimp only; omega)
   ·dsimp only
    rw [List.map_append,heq,List.length_append,List.length_cons,List.length_nil,Nat.zero_add,take_snoc hat]
    rfl
   ·rcases (hm3 k hmk).1 with h|h
    ·exact (hk1 k hk).2 h
    ·have:=hlt k hk; have:=b2.size; omega
 have hie:i=N.lines.length:=by
  dsimp only at hend
  omega
 refine rnT ?_
 refine end0 Tryz.results54 (.inl ⟨pre,M1,?_,hj⟩)
 dsimp only
 rw [heq,hpn,hie,←hpl,List.take_length]
end Go.Proofs.YtffjgpoadfkjlaaGreatDoor
namespace Go.Proofs.YtffjgpoadfkjlaaGreatDoor
open Go.PF Go.RowKit Go.Ord
variable {s:ByteArray} {nm:List ByteArray} {i:Nat}
def NameF (w:World) (kn:Nat) (capn:List Value) (i:Nat) (s:ByteArray):Prop:= ∀W,Below w.heap.size w W→Gives Tryz.prog kn (.int .i64 (i:Int)::capn).toArray W fun u W'=>Below W.heap.size W W'∧u= .string s
theorem NameF.below {w w':World} {kn:Nat} {capn:List Value} (h:NameF w kn capn i s) (hb:Below w.heap.size w w'):NameF w' kn capn i s:=fun W hW=>h W (hb.step hW)
noncomputable def res1 (s:ByteArray):Int:=if dec (NameOK keys11 s) then 0 else 1
noncomputable def res2 (nm:List ByteArray) (i:Nat) (s:ByteArray):Int:=if dec (s∈nm.take i) then 4 else 0
noncomputable def res3 {α:Type} (G:α→Prop) (x:α):Int:=if dec (G x) then 0 else 1
theorem nodup_take:(∀(i:Nat) (s:ByteArray),nm[i]?=some s→s ∉ nm.take i)→nm.Nodup:=fun h=>by
 rw [List.nodup_iff_pairwise_ne,List.pairwise_iff_getElem]
 intro i j hi hj hij e
 exact h j nm[j] (List.getElem?_eq_getElem hj) (by rw [←e]; exact List.mem_of_getElem? (i:=i) (by rw [List.getElem?_take_of_lt hij]; exact List.getElem?_eq_getElem hi))
theorem take_nodup (h:nm.Nodup) (hs:nm[i]?=some s):s ∉ nm.take i:=fun hm=>by
 obtain ⟨j,hj⟩:=List.mem_iff_getElem?.1 hm
 have hj1:j<i:=by
  have:=(List.getElem?_eq_some_iff.1 hj).1
  simp at this
  omega
 rw [List.getElem?_take_of_lt hj1] at hj
 obtain ⟨h1,h2⟩:=List.getElem?_eq_some_iff.1 hj
 obtain ⟨h3,h4⟩:=List.getElem?_eq_some_iff.1 hs
 have:=List.pairwise_iff_getElem.1 (List.nodup_iff_pairwise_ne.1 h) j i h1 h3 hj1
 exact this (by rw [h2,h4])
theorem res1_zero:res1 s=0↔NameOK keys11 s:=by
 unfold res1
 by_cases h:NameOK keys11 s
 ·rw [dec_pos h]; simp [h]
 ·rw [dec_neg h]; simp [h]
theorem res2_zero:res2 nm i s=0↔s ∉ nm.take i:=by
 unfold res2
 by_cases h:s∈nm.take i
 ·rw [dec_pos h]; simp [h]
 ·rw [dec_neg h]; simp [h]
theorem res3_zero {α:Type} {G:α→Prop} {x:α}:res3 G x=0↔G x:=by
 unfold res3
 by_cases h:G x
 ·rw [dec_pos h]; simp [h]
 ·rw [dec_neg h]; simp [h]
def GoodAt {α:Type} (nm:List ByteArray) (l:List α) (G:α→Prop) (j:Nat):Prop:= ∀x s,l[j]?=some x→nm[j]?=some s→NameOK keys11 s∧s ∉ nm.take j∧G x
theorem goodAt_iff {α:Type} {l:List α} {G:α→Prop} {j:Nat} {x:α} (hx:l[j]?=some x) (hs:nm[j]?=some s):GoodAt nm l G j↔res1 s=0∧res2 nm j s=0∧res3 G x=0:=by
 rw [res1_zero,res2_zero,res3_zero]
 exact ⟨fun h=>h x s hx hs,fun h y z hy hz=>by rw [hx] at hy; rw [hs] at hz; cases hy; cases hz; exact h⟩
theorem kind_iff {α:Type} {l:List α} {G:α→Prop} {lim:Nat} (hnl:nm.length=l.length):KindOK keys11 lim nm l G↔l.length≤lim∧ ∀j,j<min l.length lim→GoodAt nm l G j:=by
 constructor
 ·exact fun h=>⟨h.few,fun j _ x s hx hs=>⟨h.name s (List.mem_of_getElem? hs),take_nodup h.nodup hs,h.good x (List.mem_of_getElem? hx)⟩⟩
 ·rintro ⟨h1,h2⟩
  have h3: ∀(j:Nat) x s,l[j]?=some x→nm[j]?=some s→NameOK keys11 s∧s ∉ nm.take j∧G x:=fun j x s hx hs=>h2 j (by have:=(List.getElem?_eq_some_iff.1 hx).1; omega) x s hx hs
  refine ⟨h1,fun s hs=> ?_,nodup_take fun i s hs=> ?_,fun x hx=> ?_⟩
  ·obtain ⟨j,hj⟩:=List.mem_iff_getElem?.1 hs
   have hjl:=(List.getElem?_eq_some_iff.1 hj).1
   exact (h3 j l[j] s (List.getElem?_eq_getElem (by omega)) hj).1
  ·have hjl:=(List.getElem?_eq_some_iff.1 hs).1
   exact (h3 i l[i] s (List.getElem?_eq_getElem (by omega)) hs).2.1
  ·obtain ⟨j,hj⟩:=List.mem_iff_getElem?.1 hx
   have hjl:=(List.getElem?_eq_some_iff.1 hj).1
   exact (h3 j x nm[j] hj (List.getElem?_eq_getElem (by omega))).2.2
def FRow (w:World) (b:Nat) (v:Value) (n:Nat):Prop:= ∃zs,OwnS w 130 3 v n zs∧(∀u∈zs,u.oneCell'=true)∧ ∀g,v.ownBlock=some g→b≤g
theorem FRow.below {w w':World} {b:Nat} {v:Value} {n:Nat} (h:FRow w b v n) (hb:Below w.heap.size w w'):FRow w' b v n:=by
 obtain ⟨zs,h1,h2,h3⟩:=h
 exact ⟨zs,h1.below hb,h2,h3⟩
theorem FRow.app {w w':World} {b n:Nat} {v v':Value} {zs cs:List Value} (h3: ∀g,v.ownBlock=some g→b≤g) (h2: ∀u∈zs,u.oneCell'=true) (hc: ∀u∈cs,u.oneCell'=true) (hO:OwnS w' 130 3 v' (n+1) (zs++cs)) (hn:v'.ownBlock=v.ownBlock∨v'.ownBlock=some w.heap.size) (hb:b≤w.heap.size):FRow w' b v' (n+1) :=
 ⟨zs++cs,hO,fun u hu=>(List.mem_append.1 hu).elim (h2 u) (hc u),fun g hg=>by
  rcases hn with h|h
  ·exact h3 g (by rw [←h]; exact hg)
  ·rw [h] at hg; cases hg; exact hb⟩
theorem FRow.nil (w:World) (b:Nat):FRow w b (.slice none 0 0) 0:=⟨[],OwnS.nil _ _ _,(fun u hu=>by cases hu),(fun g hg=>by simp [Value.ownBlock] at hg)⟩
end Go.Proofs.YtffjgpoadfkjlaaGreatDoor
namespace Go.Proofs.YtffjgpoadfkjlaaGreatDoor
open Go.PF Go.RowKit Go.Ord
attribute [local irreducible] TW CW KW DW
variable {w:World} {kn i g8 kg g9 g7 lim:Nat} {capn capg:List Value} {s:ByteArray} {nm:List ByteArray} {v:Value} {F:Nat→Prop} {kd:Int}
theorem ru1Cal_c (ht:Tabs w) (hB:Blk w g8 138 [.func (.func kn) #[] capn.toArray]) (hen:enters Tryz.prog kn=true) (hn:NameF w kn capn i s) :
  Gives Tryz.prog 102 #[.int .i64 (i:Int),.pointer (some ⟨g8,0,none⟩)] w fun u w'=>Below w.heap.size w w'∧u= .int .i64 (res1 s):=by
 refine gv (f:=102) ?_
 refine rnT ?_
 refine TW.ld rfl (hB.cell 0) ?_
 refine rnT ?_
 refine TW.call0 rfl rfl hen rfl (Args.cons rfl ct Args.nil) (hn w (Below.refl _ _)) ?_
 rintro y1 w1 ⟨c1,rfl⟩
 refine TW.cl rfl (isName_c (ht.below c1)) ?_
 rintro y2 w2 ⟨c2,rfl⟩
 refine rnT ?_
 refine CW.cond rfl (fun h1=> ?_) (fun h2=> ?_)
 ·refine rnT ?_
  refine rt1 rfl ⟨c1.step c2,?_⟩
  unfold res1
  cases hq:dec (NameOK keys11 s) with
  | true=>rw [hq] at h1; simp at h1
  | false=>rfl
 ·refine rnT ?_
  refine rt1 rfl ⟨c1.step c2,?_⟩
  unfold res1
  cases hq:dec (NameOK keys11 s) with
  | true=>rfl
  | false=>rw [hq] at h2; simp at h2
theorem ru2Cal_c (hB:Blk w g8 138 [.func (.func kn) #[] capn.toArray]) (hen:enters Tryz.prog kn=true) (hn: ∀j x,nm[j]?=some x→NameF w kn capn j x) (hs:nm[i]?=some s) (hi:i≤1000000) :
  Gives Tryz.prog 104 #[.int .i64 (i:Int),.pointer (some ⟨g8,0,none⟩)] w fun u w'=>Below w.heap.size w w'∧u= .int .i64 (res2 nm i s):=by
 refine gv (f:=104) ?_
 refine rnT ?_
 refine CW.lp [0,1,5] (fun k:Nat=> [(6,none,.int .i64 (k:Int))])
  (fun k W=>k≤i∧Below w.heap.size w W∧s ∉ nm.take k) (fun k=>i-k) 0 ⟨Nat.zero_le _,Below.refl _ _,by simp⟩ ?_
 rintro k W ⟨hk,hW,hno⟩
 have hil:=(List.getElem?_eq_some_iff.1 hs).1
 refine rnT ?_
 refine CW.condP rfl (fun hlt=> ?_) (fun hge=> ?_)
 ·obtain ⟨x,hx,hxm⟩:=getx (l:=nm) (k:=k) (by omega)
  have hBW:=hB.next hW
  refine rnT ?_
  refine CW.draw mixed (by kernel_rfl) ?_
  refine DW.ld rfl (hBW.cell 0) ?_
  refine rnD ?_
  refine DW.call (.ex (.string x)) trivial rfl rfl hen rfl ct (DArgs.cons rfl ct DArgs.nil) (fun _ w' hb'=>hn k x hx w' (hW.step hb')) ?_
  refine DW.ld rfl (hBW.cell 0) ?_
  refine rnD ?_
  refine DW.call (.ex (.string s)) trivial rfl rfl hen rfl ct (DArgs.cons rfl ct DArgs.nil) (fun _ w' hb'=>hn i s hs w' (hW.step hb')) ?_
  refine rnD ?_
  rw [beqL]
  refine DW.fi [0,1,4,5,6,15] rfl fun w3 b3=> ?_
  refine KW.then_ ?_
  refine CW.cond rfl (fun heq=> ?_) (fun hne=> ?_)
  ·refine rnT ?_
   refine rt1 rfl ⟨hW.step b3,?_⟩
   have hxs:x=s:=of_decide_eq_true heq
   subst hxs
   unfold res2
   rw [dec_pos (List.mem_of_getElem? (i:=k) (by rw [List.getElem?_take_of_lt (by omega)]; exact hx))]
   rfl
  ·refine rnT ?_
   refine KW.rd (k+1) ⟨by omega,hW.step b3,fun h=> ?_⟩
   rw [List.take_add_one,hx] at h
   rcases List.mem_append.1 h with h|h
   ·exact hno h
   ·simp at h
    exact of_decide_eq_false hne h.symm
 ·refine rnT ?_
  refine rt1 rfl ⟨hW,?_⟩
  have:k=i:=by omega
  subst this
  unfold res2
  rw [dec_neg hno]
  rfl
theorem ru3Cal_c {l:List Cal} {x:Cal} {G:Cal→Prop} (hB9:Blk w g9 140 [.func (.func kg) #[] capg.toArray]) (hB7:Blk w g7 22 [v]) (hen:enters Tryz.prog kg=true) (hl:SL calT F w v l) (hx:l[i]?=some x)
 (hg: ∀cs W,Below w.heap.size w W→calT.rep F W cs x→Gives Tryz.prog kg (.agg cs.toArray::capg).toArray W fun u W'=>Below W.heap.size W W'∧u= .bool (dec (G x))) :
  Gives Tryz.prog 105 #[.int .i64 (i:Int),.pointer (some ⟨g9,0,none⟩),.pointer (some ⟨g7,0,none⟩)] w fun u w'=>Below w.heap.size w w'∧u= .int .i64 (res3 G x):=by
 obtain ⟨A,cap,rfl,_⟩:=hl.form
 have hil:=(List.getElem?_eq_some_iff.1 hx).1
 have hmax:=hl.len.2.2
 obtain ⟨ad,rfl⟩:=hl.addr (by omega)
 obtain ⟨ad',cs,e1,hF,hrep,hc⟩:=hl.at hx
 cases e1
 have hrep0:=hrep
 obtain ⟨zu,zv,rfl,zz⟩:=hrep
 refine gv (f:=105) ?_
 refine rnT ?_
 refine CW.draw mixed (by kernel_rfl) ?_
 refine DW.ld rfl (hB9.cell 0) ?_
 refine DW.ld rfl (hB7.cell 0) ?_
 refine rnD ?_
 refine DW.ldS rfl (hc) ?_
 refine DW.call (.ex (.bool (dec (G x)))) trivial rfl rfl hen rfl ct (DArgs.cons rfl ct DArgs.nil) (fun _ w' hb'=>hg _ w' hb' (calT.mono _ _ _ _ _ (Kept.of_below hb') hrep0)) ?_
 refine rnD ?_
 refine DW.fi [0,1,2,4,11] rfl fun w3 b3=> ?_
 refine KW.then_ ?_
 refine CW.cond rfl (fun h1=> ?_) (fun h2=> ?_)
 ·refine rnT ?_
  refine rt1 rfl ⟨b3,?_⟩
  unfold res3
  cases hq:dec (G x) with
  | true=>rw [hq] at h1; simp at h1
  | false=>rfl
 ·refine rnT ?_
  refine rt1 rfl ⟨b3,?_⟩
  unfold res3
  cases hq:dec (G x) with
  | true=>rfl
  | false=>rw [hq] at h2; simp at h2
theorem checkCal_c {l:List Cal} {G:Cal→Prop} (ht:Tabs w) (hl:SL calT F w v l) (hen:enters Tryz.prog kn=true) (heg:enters Tryz.prog kg=true) (hlim:lim≤1000)
 (hnl:nm.length=l.length) (hn: ∀j x,nm[j]?=some x→NameF w kn capn j x) (hg: ∀(i:Nat) (x:Cal),l[i]?=some x→ ∀cs W,Below w.heap.size w W→calT.rep F W cs x→Gives Tryz.prog kg (.agg cs.toArray::capg).toArray W fun u W'=>Below W.heap.size W W'∧u= .bool (dec (G x))) :
    Gives Tryz.prog 59 #[.int .i64 kd,.int .i64 (lim:Int),v,.func (.func kn) #[] capn.toArray,.func (.func kg) #[] capg.toArray] w fun u w'=>Below w.heap.size w w'∧ ∃n,FRow w' w.heap.size u n∧n≤lim+1∧(n=0↔KindOK keys11 lim nm l G):=by
  obtain ⟨A,cap,rfl,_⟩:=hl.form
  have hmax:=hl.len.2.2
  refine gv (f:=59) ?_
  refine rnT ?_
  refine TW.box rfl rfl rfl rfl ?_
  rintro g7 w7 f7
  refine TW.box rfl rfl rfl rfl ?_
  rintro g8 w8 f8
  refine TW.box rfl rfl rfl rfl ?_
  rintro g9 w9 f9
  refine rnT ?_
  refine TW.makeFunc rfl rfl (Args.cons rfl ct Args.nil) ?_
  refine TW.makeFunc rfl rfl (Args.cons rfl ct Args.nil) ?_
  refine TW.makeFunc rfl rfl (Args.cons rfl ct (Args.cons rfl ct Args.nil)) ?_
  have hB7:=(f7.blk.next f8.below).next f9.below
  have hB8:=f8.blk.next f9.below
  have hB9:=f9.blk
  have b9:=(f7.below.step f8.below).step f9.below
  refine TW.build [0,1,2] _ [.func (.func 102) #[] #[.pointer (some ⟨g8,0,none⟩)],.func (.func 104) #[] #[.pointer (some ⟨g8,0,none⟩)],.func (.func 105) #[] #[.pointer (some ⟨g9,0,none⟩),.pointer (some ⟨g7,0,none⟩)]] rfl rfl rfl (Args.cons rfl ct (Args.cons rfl ct (Args.cons rfl ct Args.nil))) (by kernel_rfl) ?_
  refine TW.newVar rfl zc172 rfl sz172 rfl rfl ?_
  rintro g11 w11 f11
  refine rnT ?_
  have hB7:=(hB7.next f11.below)
  have hB8:=(hB8.next f11.below)
  have hB9:=(hB9.next f11.below)
  have hB11:=f11.blk
  have b11:=b9.step f11.below
  refine TW.ld rfl (hB7.cell 0) ?_
  refine rnT ?_
  refine TW.v V.minI rfl ⟨ct,ct,trivial⟩ (fun _=>trivial) ?_
  refine rnT ?_
  refine CW.lp [0,1,7,11,24] (fun z:Nat×Value×Nat=> [(12,none,z.2.1),(25,none,.int .i64 (z.1:Int))])
    (fun z W=>z.1≤min l.length lim∧Below w11.heap.size w11 W∧FRow W w11.heap.size z.2.1 z.2.2∧z.2.2≤z.1∧(z.2.2=0↔ ∀j,j<z.1→GoodAt nm l G j)) (fun z=>min l.length lim-z.1) (0,.slice none 0 0,0) ⟨Nat.zero_le _,Below.refl _ _,FRow.nil _ _,Nat.le_refl _,⟨fun _ j hj=>by omega,fun _=>rfl⟩⟩ ?_
  rintro ⟨i,fv,n⟩ W ⟨hi,hW,⟨zs,hO,h2,h3⟩,hni,hgd⟩
  dsimp only at hi hO h3 hni hgd
  have hbW:=b11.step hW
  refine rnT ?_
  refine CW.pk [0,1,7,11,12,24,25,26] rfl ?_
  refine CW.condP rfl (fun hlt=> ?_) (fun hge=> ?_)
  · obtain ⟨x,hx,hxm⟩:=getx (l:=l) (k:=i) (by omega)
    obtain ⟨s,hs,hsm⟩:=getx (l:=nm) (k:=i) (by omega)
    have hB11W:=hB11.next hW
    refine rnT ?_
    refine TW.loadA _ rfl rfl Tryz.underlying172 sz172 rfl ct (fun _=>(fun _ _ hv=>hB11W.fld hv)) rfl ?_
    refine rnT ?_
    refine CW.lp [0,1,7,11,12,13,24,25,28] (fun k:Nat=> [(29,none,.int .i64 (k:Int))])
      (fun k W'=>k≤3∧Below W.heap.size W W'∧(0<k→res1 s=0)∧(1<k→res2 nm i s=0)∧(2<k→res3 G x=0)) (fun k=>3-k) 0 ⟨Nat.zero_le _,Below.refl _ _,fun h=>by omega,fun h=>by omega,fun h=>by omega⟩ ?_
    rintro k W' ⟨hk,hW',hr1,hr2,hr3⟩
    have hbW':=hbW.step hW'
    have hnW: ∀j y,nm[j]?=some y→NameF W' kn capn j y:=fun j y hj=>(hn j y hj).below hbW'
    have hB7':=hB7.next (hW.step hW')
    have hB8':=hB8.next (hW.step hW')
    have hB9':=hB9.next (hW.step hW')
    have hlW:=hl.below hbW'
    refine rnT ?_
    refine CW.condP rfl (fun hlt3=> ?_) (fun hge3=> ?_)
    · have hk3:k<3:=by omega
      refine CW.skip (KW.then_ (CW.seq (CW.block (CW.seq (CW.region ?_)))))
      obtain ⟨kf,cp,r,hkf,hen',hcl,z1,z2,z3⟩: ∃(kf:Nat) (cp:List Value) (r:Int),[Value.func (.func 102) #[] #[.pointer (some ⟨g8,0,none⟩)],.func (.func 104) #[] #[.pointer (some ⟨g8,0,none⟩)],.func (.func 105) #[] #[.pointer (some ⟨g9,0,none⟩),.pointer (some ⟨g7,0,none⟩)]][((k:Nat):Int).toNat]?=some (.func (.func kf) #[] cp.toArray)∧enters Tryz.prog kf=true∧Gives Tryz.prog kf (.int .i64 (i:Int)::cp).toArray W' (fun u w'=>Below W'.heap.size W' w'∧u= .int .i64 r)∧(k=0→r=res1 s)∧(k=1→r=res2 nm i s)∧(k=2→r=res3 G x):=by
        obtain rfl|rfl|rfl:k=0∨k=1∨k=2:=by omega
        · exact ⟨_,[_],_,rfl,en102,ru1Cal_c (ht.below hbW') hB8' hen (hnW i s hs),fun _=>rfl,fun h=>by omega,fun h=>by omega⟩
        · exact ⟨_,[_],_,rfl,en104,ru2Cal_c hB8' hen hnW hs (by omega),fun h=>by omega,fun _=>rfl,fun h=>by omega⟩
        · exact ⟨_,[_,_],_,rfl,en105,ru3Cal_c hB9' hB7' heg hlW hx (fun cs X hX hr=>hg i x hx cs X (hbW'.step hX) hr),fun h=>by omega,fun h=>by omega,fun _=>rfl⟩
      refine TW.indexV rfl rfl Tryz.underlying172 one171 sz171 rfl ct rfl ct (fun _=>by (try dsimp only); omega) (fun _=>hkf) ?_
      refine rnT ?_
      refine TW.call0 rfl rfl hen' rfl (Args.cons rfl ct Args.nil) (hcl) ?_
      rintro y1 w1 ⟨c1,rfl⟩
      refine rnT ?_
      refine CW.cond rfl (fun hne=> ?_) (fun heq=> ?_)
      · have hbad:r≠0:=by simpa using hne
        refine rnT ?_
        refine TW.build [0,1,2] _ [.int .i64 kd,.int .i64 (i:Int),.int .i64 r] rfl rfl rfl (Args.cons rfl ct (Args.cons rfl ct (Args.cons rfl ct Args.nil))) (by kernel_rfl) ?_
        refine TW.buildSlice 130 _ rfl rfl rfl eo82 (Args.cons rfl ct Args.nil) rfl rfl rfl rfl rfl ?_
        rintro g2 w2 f2
        have hW1:=(hW.step hW').step c1
        refine TW.append [.int .i64 kd,.int .i64 (i:Int),.int .i64 r] rfl rfl go82 rfl (((hO.below hW').below c1).below f2.below) rfl rfl (fun j u hj=>⟨_,rfl,f2.blk.fld hj⟩) (fun u hu=>by simp at hu; rcases hu with rfl|rfl|rfl<;>rfl) (by omega) (by omega) ?_
        rintro fv' w3 hO3 hg3 hn3
        refine rnT ?_
        have hW2:=hW1.step f2.below
        refine KW.rd (i+1,fv',n+1) ⟨by show i+1≤_; omega,hW2.grown hg3 hW2.size h3,FRow.app (w:=w2) h3 h2 (fun u hu=>by simp at hu; rcases hu with rfl|rfl|rfl<;>rfl) hO3 hn3 hW2.size,by show n+1≤i+1; omega,⟨fun h=>absurd h (Nat.succ_ne_zero n),fun h=> ?_⟩⟩
        obtain ⟨q1,q2,q3⟩:=(goodAt_iff hx hs).1 (h i (by show i<i+1; omega))
        exact absurd (show r = 0 by obtain h | h | h : k = 0 ∨ k = 1 ∨ k = 2 := by omega
                                    · rw [z1 h,q1]
                                    · rw [z2 h,q2]
                                    · rw [z3 h,q3]) hbad
      · have hgood:r=0:=by simpa using heq
        refine rnT ?_
        refine KW.rd (k+1) ⟨by omega,hW'.step c1,fun _=> ?_,fun _=> ?_,fun _=> ?_⟩
        · by_cases h:k=0
          · rw [←z1 h,hgood]
          · exact hr1 (by omega)
        · by_cases h:k=1
          · rw [←z2 h,hgood]
          · exact hr2 (by omega)
        · by_cases h:k=2
          · rw [←z3 h,hgood]
          · exact hr3 (by omega)
    · have hk3:k=3:=by omega
      subst hk3
      refine rnT ?_
      refine KW.rd (i+1,fv,n) ⟨by show i+1≤_; omega,hW.step hW',⟨zs,hO.below hW',h2,h3⟩,by show n≤i+1; omega,?_⟩
      show n=0↔ ∀j,j<i+1→GoodAt nm l G j
      rw [hgd]
      refine ⟨fun h j hj=> ?_,fun h j hj=>h j (by omega)⟩
      rcases Nat.lt_or_ge j i with h'|h'
      · exact h j h'
      · have:j=i:=by omega
        subst this
        exact (goodAt_iff hx hs).2 ⟨hr1 (by omega),hr2 (by omega),hr3 (by omega)⟩
  have hie:i=min l.length lim:=by omega
  have h3: ∀g,fv.ownBlock=some g→w.heap.size≤g:=fun g hg=>Nat.le_trans b11.size (h3 g hg)
  refine rnT ?_
  refine TW.ld rfl ((hB7.next hW).cell 0) ?_
  refine rnT ?_
  refine CW.pk [0,1,7,11,12,24,25,49] rfl ?_
  refine CW.condP rfl (fun hbig=> ?_) (fun hsmall=> ?_)
  · refine rnT ?_
    refine TW.build [0,1,2] _ [.int .i64 kd,.int .i64 (lim:Int),.int .i64 2] rfl rfl rfl (Args.cons rfl ct (Args.cons rfl ct (Args.cons rfl ct Args.nil))) (by kernel_rfl) ?_
    refine TW.buildSlice 130 _ rfl rfl rfl eo82 (Args.cons rfl ct Args.nil) rfl rfl rfl rfl rfl ?_
    rintro g2 w2 f2
    refine TW.append [.int .i64 kd,.int .i64 (lim:Int),.int .i64 2] rfl rfl go82 rfl (hO.below f2.below) rfl rfl (fun j u hj=>⟨_,rfl,f2.blk.fld hj⟩) (fun u hu=>by simp at hu; rcases hu with rfl|rfl|rfl<;>rfl) (by omega) (by omega) ?_
    rintro fv' w3 hO3 hg3 hn3
    refine rnT ?_
    have hb2:=hbW.step f2.below
    refine rt1 rfl ⟨hb2.grown hg3 hb2.size (fun q hq=>h3 q hq),n+1,FRow.app (w:=w2) h3 h2 (fun u hu=>by simp at hu; rcases hu with rfl|rfl|rfl<;>rfl) hO3 hn3 hb2.size,by omega,⟨fun h=>by omega,fun h=> ?_⟩⟩
    have:=h.few
    omega
  · refine rnT ?_
    refine rt1 rfl ⟨hbW,n,⟨zs,hO,h2,h3⟩,by omega,?_⟩
    rw [kind_iff hnl,hgd,hie]
    exact ⟨fun h=>⟨by omega,h⟩,fun h=>h.2⟩
theorem ru1Opr_c (ht:Tabs w) (hB:Blk w g8 138 [.func (.func kn) #[] capn.toArray]) (hen:enters Tryz.prog kn=true) (hn:NameF w kn capn i s) :
  Gives Tryz.prog 106 #[.int .i64 (i:Int),.pointer (some ⟨g8,0,none⟩)] w fun u w'=>Below w.heap.size w w'∧u= .int .i64 (res1 s):=by
 refine gv (f:=106) ?_
 refine rnT ?_
 refine TW.ld rfl (hB.cell 0) ?_
 refine rnT ?_
 refine TW.call0 rfl rfl hen rfl (Args.cons rfl ct Args.nil) (hn w (Below.refl _ _)) ?_
 rintro y1 w1 ⟨c1,rfl⟩
 refine TW.cl rfl (isName_c (ht.below c1)) ?_
 rintro y2 w2 ⟨c2,rfl⟩
 refine rnT ?_
 refine CW.cond rfl (fun h1=> ?_) (fun h2=> ?_)
 ·refine rnT ?_
  refine rt1 rfl ⟨c1.step c2,?_⟩
  unfold res1
  cases hq:dec (NameOK keys11 s) with
  | true=>rw [hq] at h1; simp at h1
  | false=>rfl
 ·refine rnT ?_
  refine rt1 rfl ⟨c1.step c2,?_⟩
  unfold res1
  cases hq:dec (NameOK keys11 s) with
  | true=>rfl
  | false=>rw [hq] at h2; simp at h2
theorem ru2Opr_c (hB:Blk w g8 138 [.func (.func kn) #[] capn.toArray]) (hen:enters Tryz.prog kn=true) (hn: ∀j x,nm[j]?=some x→NameF w kn capn j x) (hs:nm[i]?=some s) (hi:i≤1000000) :
  Gives Tryz.prog 107 #[.int .i64 (i:Int),.pointer (some ⟨g8,0,none⟩)] w fun u w'=>Below w.heap.size w w'∧u= .int .i64 (res2 nm i s):=by
 refine gv (f:=107) ?_
 refine rnT ?_
 refine CW.lp [0,1,5] (fun k:Nat=> [(6,none,.int .i64 (k:Int))])
  (fun k W=>k≤i∧Below w.heap.size w W∧s ∉ nm.take k) (fun k=>i-k) 0 ⟨Nat.zero_le _,Below.refl _ _,by simp⟩ ?_
 rintro k W ⟨hk,hW,hno⟩
 have hil:=(List.getElem?_eq_some_iff.1 hs).1
 refine rnT ?_
 refine CW.condP rfl (fun hlt=> ?_) (fun hge=> ?_)
 ·obtain ⟨x,hx,hxm⟩:=getx (l:=nm) (k:=k) (by omega)
  have hBW:=hB.next hW
  refine rnT ?_
  refine CW.draw mixed (by kernel_rfl) ?_
  refine DW.ld rfl (hBW.cell 0) ?_
  refine rnD ?_
  refine DW.call (.ex (.string x)) trivial rfl rfl hen rfl ct (DArgs.cons rfl ct DArgs.nil) (fun _ w' hb'=>hn k x hx w' (hW.step hb')) ?_
  refine DW.ld rfl (hBW.cell 0) ?_
  refine rnD ?_
  refine DW.call (.ex (.string s)) trivial rfl rfl hen rfl ct (DArgs.cons rfl ct DArgs.nil) (fun _ w' hb'=>hn i s hs w' (hW.step hb')) ?_
  refine rnD ?_
  rw [beqL]
  refine DW.fi [0,1,4,5,6,15] rfl fun w3 b3=> ?_
  refine KW.then_ ?_
  refine CW.cond rfl (fun heq=> ?_) (fun hne=> ?_)
  ·refine rnT ?_
   refine rt1 rfl ⟨hW.step b3,?_⟩
   have hxs:x=s:=of_decide_eq_true heq
   subst hxs
   unfold res2
   rw [dec_pos (List.mem_of_getElem? (i:=k) (by rw [List.getElem?_take_of_lt (by omega)]; exact hx))]
   rfl
  ·refine rnT ?_
   refine KW.rd (k+1) ⟨by omega,hW.step b3,fun h=> ?_⟩
   rw [List.take_add_one,hx] at h
   rcases List.mem_append.1 h with h|h
   ·exact hno h
   ·simp at h
    exact of_decide_eq_false hne h.symm
 ·refine rnT ?_
  refine rt1 rfl ⟨hW,?_⟩
  have:k=i:=by omega
  subst this
  unfold res2
  rw [dec_neg hno]
  rfl
theorem ru3Opr_c {l:List ByteArray} {x:ByteArray} {G:ByteArray→Prop} (hB9:Blk w g9 142 [.func (.func kg) #[] capg.toArray]) (hB7:Blk w g7 24 [v]) (hen:enters Tryz.prog kg=true) (hl:SL strT F w v l) (hx:l[i]?=some x)
 (hg: ∀cs W,Below w.heap.size w W→strT.rep F W cs x→Gives Tryz.prog kg (.agg cs.toArray::capg).toArray W fun u W'=>Below W.heap.size W W'∧u= .bool (dec (G x))) :
  Gives Tryz.prog 108 #[.int .i64 (i:Int),.pointer (some ⟨g9,0,none⟩),.pointer (some ⟨g7,0,none⟩)] w fun u w'=>Below w.heap.size w w'∧u= .int .i64 (res3 G x):=by
 obtain ⟨A,cap,rfl,_⟩:=hl.form
 have hil:=(List.getElem?_eq_some_iff.1 hx).1
 have hmax:=hl.len.2.2
 obtain ⟨ad,rfl⟩:=hl.addr (by omega)
 obtain ⟨ad',cs,e1,hF,hrep,hc⟩:=hl.at hx
 cases e1
 have hrep0:=hrep
 obtain ⟨rfl,zz⟩:=hrep
 refine gv (f:=108) ?_
 refine rnT ?_
 refine CW.draw mixed (by kernel_rfl) ?_
 refine DW.ld rfl (hB9.cell 0) ?_
 refine DW.ld rfl (hB7.cell 0) ?_
 refine rnD ?_
 refine DW.ldS rfl (hc) ?_
 refine DW.call (.ex (.bool (dec (G x)))) trivial rfl rfl hen rfl ct (DArgs.cons rfl ct DArgs.nil) (fun _ w' hb'=>hg _ w' hb' (strT.mono _ _ _ _ _ (Kept.of_below hb') hrep0)) ?_
 refine rnD ?_
 refine DW.fi [0,1,2,4,11] rfl fun w3 b3=> ?_
 refine KW.then_ ?_
 refine CW.cond rfl (fun h1=> ?_) (fun h2=> ?_)
 ·refine rnT ?_
  refine rt1 rfl ⟨b3,?_⟩
  unfold res3
  cases hq:dec (G x) with
  | true=>rw [hq] at h1; simp at h1
  | false=>rfl
 ·refine rnT ?_
  refine rt1 rfl ⟨b3,?_⟩
  unfold res3
  cases hq:dec (G x) with
  | true=>rfl
  | false=>rw [hq] at h2; simp at h2
theorem checkOpr_c {l:List ByteArray} {G:ByteArray→Prop} (ht:Tabs w) (hl:SL strT F w v l) (hen:enters Tryz.prog kn=true) (heg:enters Tryz.prog kg=true) (hlim:lim≤1000)
 (hnl:nm.length=l.length) (hn: ∀j x,nm[j]?=some x→NameF w kn capn j x) (hg: ∀(i:Nat) (x:ByteArray),l[i]?=some x→ ∀cs W,Below w.heap.size w W→strT.rep F W cs x→Gives Tryz.prog kg (.agg cs.toArray::capg).toArray W fun u W'=>Below W.heap.size W W'∧u= .bool (dec (G x))) :
    Gives Tryz.prog 62 #[.int .i64 kd,.int .i64 (lim:Int),v,.func (.func kn) #[] capn.toArray,.func (.func kg) #[] capg.toArray] w fun u w'=>Below w.heap.size w w'∧ ∃n,FRow w' w.heap.size u n∧n≤lim+1∧(n=0↔KindOK keys11 lim nm l G):=by
  obtain ⟨A,cap,rfl,_⟩:=hl.form
  have hmax:=hl.len.2.2
  refine gv (f:=62) ?_
  refine rnT ?_
  refine TW.box rfl rfl rfl rfl ?_
  rintro g7 w7 f7
  refine TW.box rfl rfl rfl rfl ?_
  rintro g8 w8 f8
  refine TW.box rfl rfl rfl rfl ?_
  rintro g9 w9 f9
  refine rnT ?_
  refine TW.makeFunc rfl rfl (Args.cons rfl ct Args.nil) ?_
  refine TW.makeFunc rfl rfl (Args.cons rfl ct Args.nil) ?_
  refine TW.makeFunc rfl rfl (Args.cons rfl ct (Args.cons rfl ct Args.nil)) ?_
  have hB7:=(f7.blk.next f8.below).next f9.below
  have hB8:=f8.blk.next f9.below
  have hB9:=f9.blk
  have b9:=(f7.below.step f8.below).step f9.below
  refine TW.build [0,1,2] _ [.func (.func 106) #[] #[.pointer (some ⟨g8,0,none⟩)],.func (.func 107) #[] #[.pointer (some ⟨g8,0,none⟩)],.func (.func 108) #[] #[.pointer (some ⟨g9,0,none⟩),.pointer (some ⟨g7,0,none⟩)]] rfl rfl rfl (Args.cons rfl ct (Args.cons rfl ct (Args.cons rfl ct Args.nil))) (by kernel_rfl) ?_
  refine TW.newVar rfl zc172 rfl sz172 rfl rfl ?_
  rintro g11 w11 f11
  refine rnT ?_
  have hB7:=(hB7.next f11.below)
  have hB8:=(hB8.next f11.below)
  have hB9:=(hB9.next f11.below)
  have hB11:=f11.blk
  have b11:=b9.step f11.below
  refine TW.ld rfl (hB7.cell 0) ?_
  refine rnT ?_
  refine TW.v V.minI rfl ⟨ct,ct,trivial⟩ (fun _=>trivial) ?_
  refine rnT ?_
  refine CW.lp [0,1,7,11,24] (fun z:Nat×Value×Nat=> [(12,none,z.2.1),(25,none,.int .i64 (z.1:Int))])
    (fun z W=>z.1≤min l.length lim∧Below w11.heap.size w11 W∧FRow W w11.heap.size z.2.1 z.2.2∧z.2.2≤z.1∧(z.2.2=0↔ ∀j,j<z.1→GoodAt nm l G j)) (fun z=>min l.length lim-z.1) (0,.slice none 0 0,0) ⟨Nat.zero_le _,Below.refl _ _,FRow.nil _ _,Nat.le_refl _,⟨fun _ j hj=>by omega,fun _=>rfl⟩⟩ ?_
  rintro ⟨i,fv,n⟩ W ⟨hi,hW,⟨zs,hO,h2,h3⟩,hni,hgd⟩
  dsimp only at hi hO h3 hni hgd
  have hbW:=b11.step hW
  refine rnT ?_
  refine CW.pk [0,1,7,11,12,24,25,26] rfl ?_
  refine CW.condP rfl (fun hlt=> ?_) (fun hge=> ?_)
  · obtain ⟨x,hx,hxm⟩:=getx (l:=l) (k:=i) (by omega)
    obtain ⟨s,hs,hsm⟩:=getx (l:=nm) (k:=i) (by omega)
    have hB11W:=hB11.next hW
    refine rnT ?_
    refine TW.loadA _ rfl rfl Tryz.underlying172 sz172 rfl ct (fun _=>(fun _ _ hv=>hB11W.fld hv)) rfl ?_
    refine rnT ?_
    refine CW.lp [0,1,7,11,12,13,24,25,28] (fun k:Nat=> [(29,none,.int .i64 (k:Int))])
      (fun k W'=>k≤3∧Below W.heap.size W W'∧(0<k→res1 s=0)∧(1<k→res2 nm i s=0)∧(2<k→res3 G x=0)) (fun k=>3-k) 0 ⟨Nat.zero_le _,Below.refl _ _,fun h=>by omega,fun h=>by omega,fun h=>by omega⟩ ?_
    rintro k W' ⟨hk,hW',hr1,hr2,hr3⟩
    have hbW':=hbW.step hW'
    have hnW: ∀j y,nm[j]?=some y→NameF W' kn capn j y:=fun j y hj=>(hn j y hj).below hbW'
    have hB7':=hB7.next (hW.step hW')
    have hB8':=hB8.next (hW.step hW')
    have hB9':=hB9.next (hW.step hW')
    have hlW:=hl.below hbW'
    refine rnT ?_
    refine CW.condP rfl (fun hlt3=> ?_) (fun hge3=> ?_)
    · have hk3:k<3:=by omega
      refine CW.skip (KW.then_ (CW.seq (CW.block (CW.seq (CW.region ?_)))))
      obtain ⟨kf,cp,r,hkf,hen',hcl,z1,z2,z3⟩: ∃(kf:Nat) (cp:List Value) (r:Int),[Value.func (.func 106) #[] #[.pointer (some ⟨g8,0,none⟩)],.func (.func 107) #[] #[.pointer (some ⟨g8,0,none⟩)],.func (.func 108) #[] #[.pointer (some ⟨g9,0,none⟩),.pointer (some ⟨g7,0,none⟩)]][((k:Nat):Int).toNat]?=some (.func (.func kf) #[] cp.toArray)∧enters Tryz.prog kf=true∧Gives Tryz.prog kf (.int .i64 (i:Int)::cp).toArray W' (fun u w'=>Below W'.heap.size W' w'∧u= .int .i64 r)∧(k=0→r=res1 s)∧(k=1→r=res2 nm i s)∧(k=2→r=res3 G x):=by
        obtain rfl|rfl|rfl:k=0∨k=1∨k=2:=by omega
        · exact ⟨_,[_],_,rfl,en106,ru1Opr_c (ht.below hbW') hB8' hen (hnW i s hs),fun _=>rfl,fun h=>by omega,fun h=>by omega⟩
        · exact ⟨_,[_],_,rfl,en107,ru2Opr_c hB8' hen hnW hs (by omega),fun h=>by omega,fun _=>rfl,fun h=>by omega⟩
        · exact ⟨_,[_,_],_,rfl,en108,ru3Opr_c hB9' hB7' heg hlW hx (fun cs X hX hr=>hg i x hx cs X (hbW'.step hX) hr),fun h=>by omega,fun h=>by omega,fun _=>rfl⟩
      refine TW.indexV rfl rfl Tryz.underlying172 one171 sz171 rfl ct rfl ct (fun _=>by (try dsimp only); omega) (fun _=>hkf) ?_
      refine rnT ?_
      refine TW.call0 rfl rfl hen' rfl (Args.cons rfl ct Args.nil) (hcl) ?_
      rintro y1 w1 ⟨c1,rfl⟩
      refine rnT ?_
      refine CW.cond rfl (fun hne=> ?_) (fun heq=> ?_)
      · have hbad:r≠0:=by simpa using hne
        refine rnT ?_
        refine TW.build [0,1,2] _ [.int .i64 kd,.int .i64 (i:Int),.int .i64 r] rfl rfl rfl (Args.cons rfl ct (Args.cons rfl ct (Args.cons rfl ct Args.nil))) (by kernel_rfl) ?_
        refine TW.buildSlice 130 _ rfl rfl rfl eo82 (Args.cons rfl ct Args.nil) rfl rfl rfl rfl rfl ?_
        rintro g2 w2 f2
        have hW1:=(hW.step hW').step c1
        refine TW.append [.int .i64 kd,.int .i64 (i:Int),.int .i64 r] rfl rfl go82 rfl (((hO.below hW').below c1).below f2.below) rfl rfl (fun j u hj=>⟨_,rfl,f2.blk.fld hj⟩) (fun u hu=>by simp at hu; rcases hu with rfl|rfl|rfl<;>rfl) (by omega) (by omega) ?_
        rintro fv' w3 hO3 hg3 hn3
        refine rnT ?_
        have hW2:=hW1.step f2.below
        refine KW.rd (i+1,fv',n+1) ⟨by show i+1≤_; omega,hW2.grown hg3 hW2.size h3,FRow.app (w:=w2) h3 h2 (fun u hu=>by simp at hu; rcases hu with rfl|rfl|rfl<;>rfl) hO3 hn3 hW2.size,by show n+1≤i+1; omega,⟨fun h=>absurd h (Nat.succ_ne_zero n),fun h=> ?_⟩⟩
        obtain ⟨q1,q2,q3⟩:=(goodAt_iff hx hs).1 (h i (by show i<i+1; omega))
        exact absurd (show r = 0 by obtain h | h | h : k = 0 ∨ k = 1 ∨ k = 2 := by omega
                                    · rw [z1 h,q1]
                                    · rw [z2 h,q2]
                                    · rw [z3 h,q3]) hbad
      · have hgood:r=0:=by simpa using heq
        refine rnT ?_
        refine KW.rd (k+1) ⟨by omega,hW'.step c1,fun _=> ?_,fun _=> ?_,fun _=> ?_⟩
        · by_cases h:k=0
          · rw [←z1 h,hgood]
          · exact hr1 (by omega)
        · by_cases h:k=1
          · rw [←z2 h,hgood]
          · exact hr2 (by omega)
        · by_cases h:k=2
          · rw [←z3 h,hgood]
          · exact hr3 (by omega)
    · have hk3:k=3:=by omega
      subst hk3
      refine rnT ?_
      refine KW.rd (i+1,fv,n) ⟨by show i+1≤_; omega,hW.step hW',⟨zs,hO.below hW',h2,h3⟩,by show n≤i+1; omega,?_⟩
      show n=0↔ ∀j,j<i+1→GoodAt nm l G j
      rw [hgd]
      refine ⟨fun h j hj=> ?_,fun h j hj=>h j (by omega)⟩
      rcases Nat.lt_or_ge j i with h'|h'
      · exact h j h'
      · have:j=i:=by omega
        subst this
        exact (goodAt_iff hx hs).2 ⟨hr1 (by omega),hr2 (by omega),hr3 (by omega)⟩
  have hie:i=min l.length lim:=by omega
  have h3: ∀g,fv.ownBlock=some g→w.heap.size≤g:=fun g hg=>Nat.le_trans b11.size (h3 g hg)
  refine rnT ?_
  refine TW.ld rfl ((hB7.next hW).cell 0) ?_
  refine rnT ?_
  refine CW.pk [0,1,7,11,12,24,25,49] rfl ?_
  refine CW.condP rfl (fun hbig=> ?_) (fun hsmall=> ?_)
  · refine rnT ?_
    refine TW.build [0,1,2] _ [.int .i64 kd,.int .i64 (lim:Int),.int .i64 2] rfl rfl rfl (Args.cons rfl ct (Args.cons rfl ct (Args.cons rfl ct Args.nil))) (by kernel_rfl) ?_
    refine TW.buildSlice 130 _ rfl rfl rfl eo82 (Args.cons rfl ct Args.nil) rfl rfl rfl rfl rfl ?_
    rintro g2 w2 f2
    refine TW.append [.int .i64 kd,.int .i64 (lim:Int),.int .i64 2] rfl rfl go82 rfl (hO.below f2.below) rfl rfl (fun j u hj=>⟨_,rfl,f2.blk.fld hj⟩) (fun u hu=>by simp at hu; rcases hu with rfl|rfl|rfl<;>rfl) (by omega) (by omega) ?_
    rintro fv' w3 hO3 hg3 hn3
    refine rnT ?_
    have hb2:=hbW.step f2.below
    refine rt1 rfl ⟨hb2.grown hg3 hb2.size (fun q hq=>h3 q hq),n+1,FRow.app (w:=w2) h3 h2 (fun u hu=>by simp at hu; rcases hu with rfl|rfl|rfl<;>rfl) hO3 hn3 hb2.size,by omega,⟨fun h=>by omega,fun h=> ?_⟩⟩
    have:=h.few
    omega
  · refine rnT ?_
    refine rt1 rfl ⟨hbW,n,⟨zs,hO,h2,h3⟩,by omega,?_⟩
    rw [kind_iff hnl,hgd,hie]
    exact ⟨fun h=>⟨by omega,h⟩,fun h=>h.2⟩
theorem ru1Off_c (ht:Tabs w) (hB:Blk w g8 138 [.func (.func kn) #[] capn.toArray]) (hen:enters Tryz.prog kn=true) (hn:NameF w kn capn i s) :
  Gives Tryz.prog 109 #[.int .i64 (i:Int),.pointer (some ⟨g8,0,none⟩)] w fun u w'=>Below w.heap.size w w'∧u= .int .i64 (res1 s):=by
 refine gv (f:=109) ?_
 refine rnT ?_
 refine TW.ld rfl (hB.cell 0) ?_
 refine rnT ?_
 refine TW.call0 rfl rfl hen rfl (Args.cons rfl ct Args.nil) (hn w (Below.refl _ _)) ?_
 rintro y1 w1 ⟨c1,rfl⟩
 refine TW.cl rfl (isName_c (ht.below c1)) ?_
 rintro y2 w2 ⟨c2,rfl⟩
 refine rnT ?_
 refine CW.cond rfl (fun h1=> ?_) (fun h2=> ?_)
 ·refine rnT ?_
  refine rt1 rfl ⟨c1.step c2,?_⟩
  unfold res1
  cases hq:dec (NameOK keys11 s) with
  | true=>rw [hq] at h1; simp at h1
  | false=>rfl
 ·refine rnT ?_
  refine rt1 rfl ⟨c1.step c2,?_⟩
  unfold res1
  cases hq:dec (NameOK keys11 s) with
  | true=>rfl
  | false=>rw [hq] at h2; simp at h2
theorem ru2Off_c (hB:Blk w g8 138 [.func (.func kn) #[] capn.toArray]) (hen:enters Tryz.prog kn=true) (hn: ∀j x,nm[j]?=some x→NameF w kn capn j x) (hs:nm[i]?=some s) (hi:i≤1000000) :
  Gives Tryz.prog 110 #[.int .i64 (i:Int),.pointer (some ⟨g8,0,none⟩)] w fun u w'=>Below w.heap.size w w'∧u= .int .i64 (res2 nm i s):=by
 refine gv (f:=110) ?_
 refine rnT ?_
 refine CW.lp [0,1,5] (fun k:Nat=> [(6,none,.int .i64 (k:Int))])
  (fun k W=>k≤i∧Below w.heap.size w W∧s ∉ nm.take k) (fun k=>i-k) 0 ⟨Nat.zero_le _,Below.refl _ _,by simp⟩ ?_
 rintro k W ⟨hk,hW,hno⟩
 have hil:=(List.getElem?_eq_some_iff.1 hs).1
 refine rnT ?_
 refine CW.condP rfl (fun hlt=> ?_) (fun hge=> ?_)
 ·obtain ⟨x,hx,hxm⟩:=getx (l:=nm) (k:=k) (by omega)
  have hBW:=hB.next hW
  refine rnT ?_
  refine CW.draw mixed (by kernel_rfl) ?_
  refine DW.ld rfl (hBW.cell 0) ?_
  refine rnD ?_
  refine DW.call (.ex (.string x)) trivial rfl rfl hen rfl ct (DArgs.cons rfl ct DArgs.nil) (fun _ w' hb'=>hn k x hx w' (hW.step hb')) ?_
  refine DW.ld rfl (hBW.cell 0) ?_
  refine rnD ?_
  refine DW.call (.ex (.string s)) trivial rfl rfl hen rfl ct (DArgs.cons rfl ct DArgs.nil) (fun _ w' hb'=>hn i s hs w' (hW.step hb')) ?_
  refine rnD ?_
  rw [beqL]
  refine DW.fi [0,1,4,5,6,15] rfl fun w3 b3=> ?_
  refine KW.then_ ?_
  refine CW.cond rfl (fun heq=> ?_) (fun hne=> ?_)
  ·refine rnT ?_
   refine rt1 rfl ⟨hW.step b3,?_⟩
   have hxs:x=s:=of_decide_eq_true heq
   subst hxs
   unfold res2
   rw [dec_pos (List.mem_of_getElem? (i:=k) (by rw [List.getElem?_take_of_lt (by omega)]; exact hx))]
   rfl
  ·refine rnT ?_
   refine KW.rd (k+1) ⟨by omega,hW.step b3,fun h=> ?_⟩
   rw [List.take_add_one,hx] at h
   rcases List.mem_append.1 h with h|h
   ·exact hno h
   ·simp at h
    exact of_decide_eq_false hne h.symm
 ·refine rnT ?_
  refine rt1 rfl ⟨hW,?_⟩
  have:k=i:=by omega
  subst this
  unfold res2
  rw [dec_neg hno]
  rfl
theorem ru3Off_c {l:List Of} {x:Of} {G:Of→Prop} (hB9:Blk w g9 145 [.func (.func kg) #[] capg.toArray]) (hB7:Blk w g7 25 [v]) (hen:enters Tryz.prog kg=true) (hl:SL ofT F w v l) (hx:l[i]?=some x)
 (hg: ∀cs W,Below w.heap.size w W→ofT.rep F W cs x→Gives Tryz.prog kg (.agg cs.toArray::capg).toArray W fun u W'=>Below W.heap.size W W'∧u= .bool (dec (G x))) :
  Gives Tryz.prog 111 #[.int .i64 (i:Int),.pointer (some ⟨g9,0,none⟩),.pointer (some ⟨g7,0,none⟩)] w fun u w'=>Below w.heap.size w w'∧u= .int .i64 (res3 G x):=by
 obtain ⟨A,cap,rfl,_⟩:=hl.form
 have hil:=(List.getElem?_eq_some_iff.1 hx).1
 have hmax:=hl.len.2.2
 obtain ⟨ad,rfl⟩:=hl.addr (by omega)
 obtain ⟨ad',cs,e1,hF,hrep,hc⟩:=hl.at hx
 cases e1
 have hrep0:=hrep
 obtain ⟨zv,rfl,zz⟩:=hrep
 refine gv (f:=111) ?_
 refine rnT ?_
 refine CW.draw mixed (by kernel_rfl) ?_
 refine DW.ld rfl (hB9.cell 0) ?_
 refine DW.ld rfl (hB7.cell 0) ?_
 refine rnD ?_
 refine DW.ldS rfl (hc) ?_
 refine DW.call (.ex (.bool (dec (G x)))) trivial rfl rfl hen rfl ct (DArgs.cons rfl ct DArgs.nil) (fun _ w' hb'=>hg _ w' hb' (ofT.mono _ _ _ _ _ (Kept.of_below hb') hrep0)) ?_
 refine rnD ?_
 refine DW.fi [0,1,2,4,11] rfl fun w3 b3=> ?_
 refine KW.then_ ?_
 refine CW.cond rfl (fun h1=> ?_) (fun h2=> ?_)
 ·refine rnT ?_
  refine rt1 rfl ⟨b3,?_⟩
  unfold res3
  cases hq:dec (G x) with
  | true=>rw [hq] at h1; simp at h1
  | false=>rfl
 ·refine rnT ?_
  refine rt1 rfl ⟨b3,?_⟩
  unfold res3
  cases hq:dec (G x) with
  | true=>rfl
  | false=>rw [hq] at h2; simp at h2
theorem checkOff_c {l:List Of} {G:Of→Prop} (ht:Tabs w) (hl:SL ofT F w v l) (hen:enters Tryz.prog kn=true) (heg:enters Tryz.prog kg=true) (hlim:lim≤1000)
 (hnl:nm.length=l.length) (hn: ∀j x,nm[j]?=some x→NameF w kn capn j x) (hg: ∀(i:Nat) (x:Of),l[i]?=some x→ ∀cs W,Below w.heap.size w W→ofT.rep F W cs x→Gives Tryz.prog kg (.agg cs.toArray::capg).toArray W fun u W'=>Below W.heap.size W W'∧u= .bool (dec (G x))) :
    Gives Tryz.prog 65 #[.int .i64 kd,.int .i64 (lim:Int),v,.func (.func kn) #[] capn.toArray,.func (.func kg) #[] capg.toArray] w fun u w'=>Below w.heap.size w w'∧ ∃n,FRow w' w.heap.size u n∧n≤lim+1∧(n=0↔KindOK keys11 lim nm l G):=by
  obtain ⟨A,cap,rfl,_⟩:=hl.form
  have hmax:=hl.len.2.2
  refine gv (f:=65) ?_
  refine rnT ?_
  refine TW.box rfl rfl rfl rfl ?_
  rintro g7 w7 f7
  refine TW.box rfl rfl rfl rfl ?_
  rintro g8 w8 f8
  refine TW.box rfl rfl rfl rfl ?_
  rintro g9 w9 f9
  refine rnT ?_
  refine TW.makeFunc rfl rfl (Args.cons rfl ct Args.nil) ?_
  refine TW.makeFunc rfl rfl (Args.cons rfl ct Args.nil) ?_
  refine TW.makeFunc rfl rfl (Args.cons rfl ct (Args.cons rfl ct Args.nil)) ?_
  have hB7:=(f7.blk.next f8.below).next f9.below
  have hB8:=f8.blk.next f9.below
  have hB9:=f9.blk
  have b9:=(f7.below.step f8.below).step f9.below
  refine TW.build [0,1,2] _ [.func (.func 109) #[] #[.pointer (some ⟨g8,0,none⟩)],.func (.func 110) #[] #[.pointer (some ⟨g8,0,none⟩)],.func (.func 111) #[] #[.pointer (some ⟨g9,0,none⟩),.pointer (some ⟨g7,0,none⟩)]] rfl rfl rfl (Args.cons rfl ct (Args.cons rfl ct (Args.cons rfl ct Args.nil))) (by kernel_rfl) ?_
  refine TW.newVar rfl zc172 rfl sz172 rfl rfl ?_
  rintro g11 w11 f11
  refine rnT ?_
  have hB7:=(hB7.next f11.below)
  have hB8:=(hB8.next f11.below)
  have hB9:=(hB9.next f11.below)
  have hB11:=f11.blk
  have b11:=b9.step f11.below
  refine TW.ld rfl (hB7.cell 0) ?_
  refine rnT ?_
  refine TW.v V.minI rfl ⟨ct,ct,trivial⟩ (fun _=>trivial) ?_
  refine rnT ?_
  refine CW.lp [0,1,7,11,24] (fun z:Nat×Value×Nat=> [(12,none,z.2.1),(25,none,.int .i64 (z.1:Int))])
    (fun z W=>z.1≤min l.length lim∧Below w11.heap.size w11 W∧FRow W w11.heap.size z.2.1 z.2.2∧z.2.2≤z.1∧(z.2.2=0↔ ∀j,j<z.1→GoodAt nm l G j)) (fun z=>min l.length lim-z.1) (0,.slice none 0 0,0) ⟨Nat.zero_le _,Below.refl _ _,FRow.nil _ _,Nat.le_refl _,⟨fun _ j hj=>by omega,fun _=>rfl⟩⟩ ?_
  rintro ⟨i,fv,n⟩ W ⟨hi,hW,⟨zs,hO,h2,h3⟩,hni,hgd⟩
  dsimp only at hi hO h3 hni hgd
  have hbW:=b11.step hW
  refine rnT ?_
  refine CW.pk [0,1,7,11,12,24,25,26] rfl ?_
  refine CW.condP rfl (fun hlt=> ?_) (fun hge=> ?_)
  · obtain ⟨x,hx,hxm⟩:=getx (l:=l) (k:=i) (by omega)
    obtain ⟨s,hs,hsm⟩:=getx (l:=nm) (k:=i) (by omega)
    have hB11W:=hB11.next hW
    refine rnT ?_
    refine TW.loadA _ rfl rfl Tryz.underlying172 sz172 rfl ct (fun _=>(fun _ _ hv=>hB11W.fld hv)) rfl ?_
    refine rnT ?_
    refine CW.lp [0,1,7,11,12,13,24,25,28] (fun k:Nat=> [(29,none,.int .i64 (k:Int))])
      (fun k W'=>k≤3∧Below W.heap.size W W'∧(0<k→res1 s=0)∧(1<k→res2 nm i s=0)∧(2<k→res3 G x=0)) (fun k=>3-k) 0 ⟨Nat.zero_le _,Below.refl _ _,fun h=>by omega,fun h=>by omega,fun h=>by omega⟩ ?_
    rintro k W' ⟨hk,hW',hr1,hr2,hr3⟩
    have hbW':=hbW.step hW'
    have hnW: ∀j y,nm[j]?=some y→NameF W' kn capn j y:=fun j y hj=>(hn j y hj).below hbW'
    have hB7':=hB7.next (hW.step hW')
    have hB8':=hB8.next (hW.step hW')
    have hB9':=hB9.next (hW.step hW')
    have hlW:=hl.below hbW'
    refine rnT ?_
    refine CW.condP rfl (fun hlt3=> ?_) (fun hge3=> ?_)
    · have hk3:k<3:=by omega
      refine CW.skip (KW.then_ (CW.seq (CW.block (CW.seq (CW.region ?_)))))
      obtain ⟨kf,cp,r,hkf,hen',hcl,z1,z2,z3⟩: ∃(kf:Nat) (cp:List Value) (r:Int),[Value.func (.func 109) #[] #[.pointer (some ⟨g8,0,none⟩)],.func (.func 110) #[] #[.pointer (some ⟨g8,0,none⟩)],.func (.func 111) #[] #[.pointer (some ⟨g9,0,none⟩),.pointer (some ⟨g7,0,none⟩)]][((k:Nat):Int).toNat]?=some (.func (.func kf) #[] cp.toArray)∧enters Tryz.prog kf=true∧Gives Tryz.prog kf (.int .i64 (i:Int)::cp).toArray W' (fun u w'=>Below W'.heap.size W' w'∧u= .int .i64 r)∧(k=0→r=res1 s)∧(k=1→r=res2 nm i s)∧(k=2→r=res3 G x):=by
        obtain rfl|rfl|rfl:k=0∨k=1∨k=2:=by omega
        · exact ⟨_,[_],_,rfl,en109,ru1Off_c (ht.below hbW') hB8' hen (hnW i s hs),fun _=>rfl,fun h=>by omega,fun h=>by omega⟩
        · exact ⟨_,[_],_,rfl,en110,ru2Off_c hB8' hen hnW hs (by omega),fun h=>by omega,fun _=>rfl,fun h=>by omega⟩
        · exact ⟨_,[_,_],_,rfl,en111,ru3Off_c hB9' hB7' heg hlW hx (fun cs X hX hr=>hg i x hx cs X (hbW'.step hX) hr),fun h=>by omega,fun h=>by omega,fun _=>rfl⟩
      refine TW.indexV rfl rfl Tryz.underlying172 one171 sz171 rfl ct rfl ct (fun _=>by (try dsimp only); omega) (fun _=>hkf) ?_
      refine rnT ?_
      refine TW.call0 rfl rfl hen' rfl (Args.cons rfl ct Args.nil) (hcl) ?_
      rintro y1 w1 ⟨c1,rfl⟩
      refine rnT ?_
      refine CW.cond rfl (fun hne=> ?_) (fun heq=> ?_)
      · have hbad:r≠0:=by simpa using hne
        refine rnT ?_
        refine TW.build [0,1,2] _ [.int .i64 kd,.int .i64 (i:Int),.int .i64 r] rfl rfl rfl (Args.cons rfl ct (Args.cons rfl ct (Args.cons rfl ct Args.nil))) (by kernel_rfl) ?_
        refine TW.buildSlice 130 _ rfl rfl rfl eo82 (Args.cons rfl ct Args.nil) rfl rfl rfl rfl rfl ?_
        rintro g2 w2 f2
        have hW1:=(hW.step hW').step c1
        refine TW.append [.int .i64 kd,.int .i64 (i:Int),.int .i64 r] rfl rfl go82 rfl (((hO.below hW').below c1).below f2.below) rfl rfl (fun j u hj=>⟨_,rfl,f2.blk.fld hj⟩) (fun u hu=>by simp at hu; rcases hu with rfl|rfl|rfl<;>rfl) (by omega) (by omega) ?_
        rintro fv' w3 hO3 hg3 hn3
        refine rnT ?_
        have hW2:=hW1.step f2.below
        refine KW.rd (i+1,fv',n+1) ⟨by show i+1≤_; omega,hW2.grown hg3 hW2.size h3,FRow.app (w:=w2) h3 h2 (fun u hu=>by simp at hu; rcases hu with rfl|rfl|rfl<;>rfl) hO3 hn3 hW2.size,by show n+1≤i+1; omega,⟨fun h=>absurd h (Nat.succ_ne_zero n),fun h=> ?_⟩⟩
        obtain ⟨q1,q2,q3⟩:=(goodAt_iff hx hs).1 (h i (by show i<i+1; omega))
        exact absurd (show r = 0 by obtain h | h | h : k = 0 ∨ k = 1 ∨ k = 2 := by omega
                                    · rw [z1 h,q1]
                                    · rw [z2 h,q2]
                                    · rw [z3 h,q3]) hbad
      · have hgood:r=0:=by simpa using heq
        refine rnT ?_
        refine KW.rd (k+1) ⟨by omega,hW'.step c1,fun _=> ?_,fun _=> ?_,fun _=> ?_⟩
        · by_cases h:k=0
          · rw [←z1 h,hgood]
          · exact hr1 (by omega)
        · by_cases h:k=1
          · rw [←z2 h,hgood]
          · exact hr2 (by omega)
        · by_cases h:k=2
          · rw [←z3 h,hgood]
          · exact hr3 (by omega)
    · have hk3:k=3:=by omega
      subst hk3
      refine rnT ?_
      refine KW.rd (i+1,fv,n) ⟨by show i+1≤_; omega,hW.step hW',⟨zs,hO.below hW',h2,h3⟩,by show n≤i+1; omega,?_⟩
      show n=0↔ ∀j,j<i+1→GoodAt nm l G j
      rw [hgd]
      refine ⟨fun h j hj=> ?_,fun h j hj=>h j (by omega)⟩
      rcases Nat.lt_or_ge j i with h'|h'
      · exact h j h'
      · have:j=i:=by omega
        subst this
        exact (goodAt_iff hx hs).2 ⟨hr1 (by omega),hr2 (by omega),hr3 (by omega)⟩
  have hie:i=min l.length lim:=by omega
  have h3: ∀g,fv.ownBlock=some g→w.heap.size≤g:=fun g hg=>Nat.le_trans b11.size (h3 g hg)
  refine rnT ?_
  refine TW.ld rfl ((hB7.next hW).cell 0) ?_
  refine rnT ?_
  refine CW.pk [0,1,7,11,12,24,25,49] rfl ?_
  refine CW.condP rfl (fun hbig=> ?_) (fun hsmall=> ?_)
  · refine rnT ?_
    refine TW.build [0,1,2] _ [.int .i64 kd,.int .i64 (lim:Int),.int .i64 2] rfl rfl rfl (Args.cons rfl ct (Args.cons rfl ct (Args.cons rfl ct Args.nil))) (by kernel_rfl) ?_
    refine TW.buildSlice 130 _ rfl rfl rfl eo82 (Args.cons rfl ct Args.nil) rfl rfl rfl rfl rfl ?_
    rintro g2 w2 f2
    refine TW.append [.int .i64 kd,.int .i64 (lim:Int),.int .i64 2] rfl rfl go82 rfl (hO.below f2.below) rfl rfl (fun j u hj=>⟨_,rfl,f2.blk.fld hj⟩) (fun u hu=>by simp at hu; rcases hu with rfl|rfl|rfl<;>rfl) (by omega) (by omega) ?_
    rintro fv' w3 hO3 hg3 hn3
    refine rnT ?_
    have hb2:=hbW.step f2.below
    refine rt1 rfl ⟨hb2.grown hg3 hb2.size (fun q hq=>h3 q hq),n+1,FRow.app (w:=w2) h3 h2 (fun u hu=>by simp at hu; rcases hu with rfl|rfl|rfl<;>rfl) hO3 hn3 hb2.size,by omega,⟨fun h=>by omega,fun h=> ?_⟩⟩
    have:=h.few
    omega
  · refine rnT ?_
    refine rt1 rfl ⟨hbW,n,⟨zs,hO,h2,h3⟩,by omega,?_⟩
    rw [kind_iff hnl,hgd,hie]
    exact ⟨fun h=>⟨by omega,h⟩,fun h=>h.2⟩
theorem ru1Lin_c (ht:Tabs w) (hB:Blk w g8 138 [.func (.func kn) #[] capn.toArray]) (hen:enters Tryz.prog kn=true) (hn:NameF w kn capn i s) :
  Gives Tryz.prog 116 #[.int .i64 (i:Int),.pointer (some ⟨g8,0,none⟩)] w fun u w'=>Below w.heap.size w w'∧u= .int .i64 (res1 s):=by
 refine gv (f:=116) ?_
 refine rnT ?_
 refine TW.ld rfl (hB.cell 0) ?_
 refine rnT ?_
 refine TW.call0 rfl rfl hen rfl (Args.cons rfl ct Args.nil) (hn w (Below.refl _ _)) ?_
 rintro y1 w1 ⟨c1,rfl⟩
 refine TW.cl rfl (isName_c (ht.below c1)) ?_
 rintro y2 w2 ⟨c2,rfl⟩
 refine rnT ?_
 refine CW.cond rfl (fun h1=> ?_) (fun h2=> ?_)
 ·refine rnT ?_
  refine rt1 rfl ⟨c1.step c2,?_⟩
  unfold res1
  cases hq:dec (NameOK keys11 s) with
  | true=>rw [hq] at h1; simp at h1
  | false=>rfl
 ·refine rnT ?_
  refine rt1 rfl ⟨c1.step c2,?_⟩
  unfold res1
  cases hq:dec (NameOK keys11 s) with
  | true=>rfl
  | false=>rw [hq] at h2; simp at h2
theorem ru2Lin_c (hB:Blk w g8 138 [.func (.func kn) #[] capn.toArray]) (hen:enters Tryz.prog kn=true) (hn: ∀j x,nm[j]?=some x→NameF w kn capn j x) (hs:nm[i]?=some s) (hi:i≤1000000) :
  Gives Tryz.prog 117 #[.int .i64 (i:Int),.pointer (some ⟨g8,0,none⟩)] w fun u w'=>Below w.heap.size w w'∧u= .int .i64 (res2 nm i s):=by
 refine gv (f:=117) ?_
 refine rnT ?_
 refine CW.lp [0,1,5] (fun k:Nat=> [(6,none,.int .i64 (k:Int))])
  (fun k W=>k≤i∧Below w.heap.size w W∧s ∉ nm.take k) (fun k=>i-k) 0 ⟨Nat.zero_le _,Below.refl _ _,by simp⟩ ?_
 rintro k W ⟨hk,hW,hno⟩
 have hil:=(List.getElem?_eq_some_iff.1 hs).1
 refine rnT ?_
 refine CW.condP rfl (fun hlt=> ?_) (fun hge=> ?_)
 ·obtain ⟨x,hx,hxm⟩:=getx (l:=nm) (k:=k) (by omega)
  have hBW:=hB.next hW
  refine rnT ?_
  refine CW.draw mixed (by kernel_rfl) ?_
  refine DW.ld rfl (hBW.cell 0) ?_
  refine rnD ?_
  refine DW.call (.ex (.string x)) trivial rfl rfl hen rfl ct (DArgs.cons rfl ct DArgs.nil) (fun _ w' hb'=>hn k x hx w' (hW.step hb')) ?_
  refine DW.ld rfl (hBW.cell 0) ?_
  refine rnD ?_
  refine DW.call (.ex (.string s)) trivial rfl rfl hen rfl ct (DArgs.cons rfl ct DArgs.nil) (fun _ w' hb'=>hn i s hs w' (hW.step hb')) ?_
  refine rnD ?_
  rw [beqL]
  refine DW.fi [0,1,4,5,6,15] rfl fun w3 b3=> ?_
  refine KW.then_ ?_
  refine CW.cond rfl (fun heq=> ?_) (fun hne=> ?_)
  ·refine rnT ?_
   refine rt1 rfl ⟨hW.step b3,?_⟩
   have hxs:x=s:=of_decide_eq_true heq
   subst hxs
   unfold res2
   rw [dec_pos (List.mem_of_getElem? (i:=k) (by rw [List.getElem?_take_of_lt (by omega)]; exact hx))]
   rfl
  ·refine rnT ?_
   refine KW.rd (k+1) ⟨by omega,hW.step b3,fun h=> ?_⟩
   rw [List.take_add_one,hx] at h
   rcases List.mem_append.1 h with h|h
   ·exact hno h
   ·simp at h
    exact of_decide_eq_false hne h.symm
 ·refine rnT ?_
  refine rt1 rfl ⟨hW,?_⟩
  have:k=i:=by omega
  subst this
  unfold res2
  rw [dec_neg hno]
  rfl
theorem ru3Lin_c {l:List Li} {x:Li} {G:Li→Prop} (hB9:Blk w g9 148 [.func (.func kg) #[] capg.toArray]) (hB7:Blk w g7 26 [v]) (hen:enters Tryz.prog kg=true) (hl:SL liT F w v l) (hx:l[i]?=some x)
 (hg: ∀cs W,Below w.heap.size w W→liT.rep F W cs x→Gives Tryz.prog kg (.agg cs.toArray::capg).toArray W fun u W'=>Below W.heap.size W W'∧u= .bool (dec (G x))) :
  Gives Tryz.prog 118 #[.int .i64 (i:Int),.pointer (some ⟨g9,0,none⟩),.pointer (some ⟨g7,0,none⟩)] w fun u w'=>Below w.heap.size w w'∧u= .int .i64 (res3 G x):=by
 obtain ⟨A,cap,rfl,_⟩:=hl.form
 have hil:=(List.getElem?_eq_some_iff.1 hx).1
 have hmax:=hl.len.2.2
 obtain ⟨ad,rfl⟩:=hl.addr (by omega)
 obtain ⟨ad',cs,e1,hF,hrep,hc⟩:=hl.at hx
 cases e1
 have hrep0:=hrep
 obtain ⟨rfl,zz⟩:=hrep
 refine gv (f:=118) ?_
 refine rnT ?_
 refine CW.draw mixed (by kernel_rfl) ?_
 refine DW.ld rfl (hB9.cell 0) ?_
 refine DW.ld rfl (hB7.cell 0) ?_
 refine rnD ?_
 refine DW.ldS rfl (hc) ?_
 refine DW.call (.ex (.bool (dec (G x)))) trivial rfl rfl hen rfl ct (DArgs.cons rfl ct DArgs.nil) (fun _ w' hb'=>hg _ w' hb' (liT.mono _ _ _ _ _ (Kept.of_below hb') hrep0)) ?_
 refine rnD ?_
 refine DW.fi [0,1,2,4,11] rfl fun w3 b3=> ?_
 refine KW.then_ ?_
 refine CW.cond rfl (fun h1=> ?_) (fun h2=> ?_)
 ·refine rnT ?_
  refine rt1 rfl ⟨b3,?_⟩
  unfold res3
  cases hq:dec (G x) with
  | true=>rw [hq] at h1; simp at h1
  | false=>rfl
 ·refine rnT ?_
  refine rt1 rfl ⟨b3,?_⟩
  unfold res3
  cases hq:dec (G x) with
  | true=>rfl
  | false=>rw [hq] at h2; simp at h2
theorem checkLin_c {l:List Li} {G:Li→Prop} (ht:Tabs w) (hl:SL liT F w v l) (hen:enters Tryz.prog kn=true) (heg:enters Tryz.prog kg=true) (hlim:lim≤1000)
 (hnl:nm.length=l.length) (hn: ∀j x,nm[j]?=some x→NameF w kn capn j x) (hg: ∀(i:Nat) (x:Li),l[i]?=some x→ ∀cs W,Below w.heap.size w W→liT.rep F W cs x→Gives Tryz.prog kg (.agg cs.toArray::capg).toArray W fun u W'=>Below W.heap.size W W'∧u= .bool (dec (G x))) :
    Gives Tryz.prog 69 #[.int .i64 kd,.int .i64 (lim:Int),v,.func (.func kn) #[] capn.toArray,.func (.func kg) #[] capg.toArray] w fun u w'=>Below w.heap.size w w'∧ ∃n,FRow w' w.heap.size u n∧n≤lim+1∧(n=0↔KindOK keys11 lim nm l G):=by
  obtain ⟨A,cap,rfl,_⟩:=hl.form
  have hmax:=hl.len.2.2
  refine gv (f:=69) ?_
  refine rnT ?_
  refine TW.box rfl rfl rfl rfl ?_
  rintro g7 w7 f7
  refine TW.box rfl rfl rfl rfl ?_
  rintro g8 w8 f8
  refine TW.box rfl rfl rfl rfl ?_
  rintro g9 w9 f9
  refine rnT ?_
  refine TW.makeFunc rfl rfl (Args.cons rfl ct Args.nil) ?_
  refine TW.makeFunc rfl rfl (Args.cons rfl ct Args.nil) ?_
  refine TW.makeFunc rfl rfl (Args.cons rfl ct (Args.cons rfl ct Args.nil)) ?_
  have hB7:=(f7.blk.next f8.below).next f9.below
  have hB8:=f8.blk.next f9.below
  have hB9:=f9.blk
  have b9:=(f7.below.step f8.below).step f9.below
  refine TW.build [0,1,2] _ [.func (.func 116) #[] #[.pointer (some ⟨g8,0,none⟩)],.func (.func 117) #[] #[.pointer (some ⟨g8,0,none⟩)],.func (.func 118) #[] #[.pointer (some ⟨g9,0,none⟩),.pointer (some ⟨g7,0,none⟩)]] rfl rfl rfl (Args.cons rfl ct (Args.cons rfl ct (Args.cons rfl ct Args.nil))) (by kernel_rfl) ?_
  refine TW.newVar rfl zc172 rfl sz172 rfl rfl ?_
  rintro g11 w11 f11
  refine rnT ?_
  have hB7:=(hB7.next f11.below)
  have hB8:=(hB8.next f11.below)
  have hB9:=(hB9.next f11.below)
  have hB11:=f11.blk
  have b11:=b9.step f11.below
  refine TW.ld rfl (hB7.cell 0) ?_
  refine rnT ?_
  refine TW.v V.minI rfl ⟨ct,ct,trivial⟩ (fun _=>trivial) ?_
  refine rnT ?_
  refine CW.lp [0,1,7,11,24] (fun z:Nat×Value×Nat=> [(12,none,z.2.1),(25,none,.int .i64 (z.1:Int))])
    (fun z W=>z.1≤min l.length lim∧Below w11.heap.size w11 W∧FRow W w11.heap.size z.2.1 z.2.2∧z.2.2≤z.1∧(z.2.2=0↔ ∀j,j<z.1→GoodAt nm l G j)) (fun z=>min l.length lim-z.1) (0,.slice none 0 0,0) ⟨Nat.zero_le _,Below.refl _ _,FRow.nil _ _,Nat.le_refl _,⟨fun _ j hj=>by omega,fun _=>rfl⟩⟩ ?_
  rintro ⟨i,fv,n⟩ W ⟨hi,hW,⟨zs,hO,h2,h3⟩,hni,hgd⟩
  dsimp only at hi hO h3 hni hgd
  have hbW:=b11.step hW
  refine rnT ?_
  refine CW.pk [0,1,7,11,12,24,25,26] rfl ?_
  refine CW.condP rfl (fun hlt=> ?_) (fun hge=> ?_)
  · obtain ⟨x,hx,hxm⟩:=getx (l:=l) (k:=i) (by omega)
    obtain ⟨s,hs,hsm⟩:=getx (l:=nm) (k:=i) (by omega)
    have hB11W:=hB11.next hW
    refine rnT ?_
    refine TW.loadA _ rfl rfl Tryz.underlying172 sz172 rfl ct (fun _=>(fun _ _ hv=>hB11W.fld hv)) rfl ?_
    refine rnT ?_
    refine CW.lp [0,1,7,11,12,13,24,25,28] (fun k:Nat=> [(29,none,.int .i64 (k:Int))])
      (fun k W'=>k≤3∧Below W.heap.size W W'∧(0<k→res1 s=0)∧(1<k→res2 nm i s=0)∧(2<k→res3 G x=0)) (fun k=>3-k) 0 ⟨Nat.zero_le _,Below.refl _ _,fun h=>by omega,fun h=>by omega,fun h=>by omega⟩ ?_
    rintro k W' ⟨hk,hW',hr1,hr2,hr3⟩
    have hbW':=hbW.step hW'
    have hnW: ∀j y,nm[j]?=some y→NameF W' kn capn j y:=fun j y hj=>(hn j y hj).below hbW'
    have hB7':=hB7.next (hW.step hW')
    have hB8':=hB8.next (hW.step hW')
    have hB9':=hB9.next (hW.step hW')
    have hlW:=hl.below hbW'
    refine rnT ?_
    refine CW.condP rfl (fun hlt3=> ?_) (fun hge3=> ?_)
    · have hk3:k<3:=by omega
      refine CW.skip (KW.then_ (CW.seq (CW.block (CW.seq (CW.region ?_)))))
      obtain ⟨kf,cp,r,hkf,hen',hcl,z1,z2,z3⟩: ∃(kf:Nat) (cp:List Value) (r:Int),[Value.func (.func 116) #[] #[.pointer (some ⟨g8,0,none⟩)],.func (.func 117) #[] #[.pointer (some ⟨g8,0,none⟩)],.func (.func 118) #[] #[.pointer (some ⟨g9,0,none⟩),.pointer (some ⟨g7,0,none⟩)]][((k:Nat):Int).toNat]?=some (.func (.func kf) #[] cp.toArray)∧enters Tryz.prog kf=true∧Gives Tryz.prog kf (.int .i64 (i:Int)::cp).toArray W' (fun u w'=>Below W'.heap.size W' w'∧u= .int .i64 r)∧(k=0→r=res1 s)∧(k=1→r=res2 nm i s)∧(k=2→r=res3 G x):=by
        obtain rfl|rfl|rfl:k=0∨k=1∨k=2:=by omega
        · exact ⟨_,[_],_,rfl,en116,ru1Lin_c (ht.below hbW') hB8' hen (hnW i s hs),fun _=>rfl,fun h=>by omega,fun h=>by omega⟩
        · exact ⟨_,[_],_,rfl,en117,ru2Lin_c hB8' hen hnW hs (by omega),fun h=>by omega,fun _=>rfl,fun h=>by omega⟩
        · exact ⟨_,[_,_],_,rfl,en118,ru3Lin_c hB9' hB7' heg hlW hx (fun cs X hX hr=>hg i x hx cs X (hbW'.step hX) hr),fun h=>by omega,fun h=>by omega,fun _=>rfl⟩
      refine TW.indexV rfl rfl Tryz.underlying172 one171 sz171 rfl ct rfl ct (fun _=>by (try dsimp only); omega) (fun _=>hkf) ?_
      refine rnT ?_
      refine TW.call0 rfl rfl hen' rfl (Args.cons rfl ct Args.nil) (hcl) ?_
      rintro y1 w1 ⟨c1,rfl⟩
      refine rnT ?_
      refine CW.cond rfl (fun hne=> ?_) (fun heq=> ?_)
      · have hbad:r≠0:=by simpa using hne
        refine rnT ?_
        refine TW.build [0,1,2] _ [.int .i64 kd,.int .i64 (i:Int),.int .i64 r] rfl rfl rfl (Args.cons rfl ct (Args.cons rfl ct (Args.cons rfl ct Args.nil))) (by kernel_rfl) ?_
        refine TW.buildSlice 130 _ rfl rfl rfl eo82 (Args.cons rfl ct Args.nil) rfl rfl rfl rfl rfl ?_
        rintro g2 w2 f2
        have hW1:=(hW.step hW').step c1
        refine TW.append [.int .i64 kd,.int .i64 (i:Int),.int .i64 r] rfl rfl go82 rfl (((hO.below hW').below c1).below f2.below) rfl rfl (fun j u hj=>⟨_,rfl,f2.blk.fld hj⟩) (fun u hu=>by simp at hu; rcases hu with rfl|rfl|rfl<;>rfl) (by omega) (by omega) ?_
        rintro fv' w3 hO3 hg3 hn3
        refine rnT ?_
        have hW2:=hW1.step f2.below
        refine KW.rd (i+1,fv',n+1) ⟨by show i+1≤_; omega,hW2.grown hg3 hW2.size h3,FRow.app (w:=w2) h3 h2 (fun u hu=>by simp at hu; rcases hu with rfl|rfl|rfl<;>rfl) hO3 hn3 hW2.size,by show n+1≤i+1; omega,⟨fun h=>absurd h (Nat.succ_ne_zero n),fun h=> ?_⟩⟩
        obtain ⟨q1,q2,q3⟩:=(goodAt_iff hx hs).1 (h i (by show i<i+1; omega))
        exact absurd (show r = 0 by obtain h | h | h : k = 0 ∨ k = 1 ∨ k = 2 := by omega
                                    · rw [z1 h,q1]
                                    · rw [z2 h,q2]
                                    · rw [z3 h,q3]) hbad
      · have hgood:r=0:=by simpa using heq
        refine rnT ?_
        refine KW.rd (k+1) ⟨by omega,hW'.step c1,fun _=> ?_,fun _=> ?_,fun _=> ?_⟩
        · by_cases h:k=0
          · rw [←z1 h,hgood]
          · exact hr1 (by omega)
        · by_cases h:k=1
          · rw [←z2 h,hgood]
          · exact hr2 (by omega)
        · by_cases h:k=2
          · rw [←z3 h,hgood]
          · exact hr3 (by omega)
    · have hk3:k=3:=by omega
      subst hk3
      refine rnT ?_
      refine KW.rd (i+1,fv,n) ⟨by show i+1≤_; omega,hW.step hW',⟨zs,hO.below hW',h2,h3⟩,by show n≤i+1; omega,?_⟩
      show n=0↔ ∀j,j<i+1→GoodAt nm l G j
      rw [hgd]
      refine ⟨fun h j hj=> ?_,fun h j hj=>h j (by omega)⟩
      rcases Nat.lt_or_ge j i with h'|h'
      · exact h j h'
      · have:j=i:=by omega
        subst this
        exact (goodAt_iff hx hs).2 ⟨hr1 (by omega),hr2 (by omega),hr3 (by omega)⟩
  have hie:i=min l.length lim:=by omega
  have h3: ∀g,fv.ownBlock=some g→w.heap.size≤g:=fun g hg=>Nat.le_trans b11.size (h3 g hg)
  refine rnT ?_
  refine TW.ld rfl ((hB7.next hW).cell 0) ?_
  refine rnT ?_
  refine CW.pk [0,1,7,11,12,24,25,49] rfl ?_
  refine CW.condP rfl (fun hbig=> ?_) (fun hsmall=> ?_)
  · refine rnT ?_
    refine TW.build [0,1,2] _ [.int .i64 kd,.int .i64 (lim:Int),.int .i64 2] rfl rfl rfl (Args.cons rfl ct (Args.cons rfl ct (Args.cons rfl ct Args.nil))) (by kernel_rfl) ?_
    refine TW.buildSlice 130 _ rfl rfl rfl eo82 (Args.cons rfl ct Args.nil) rfl rfl rfl rfl rfl ?_
    rintro g2 w2 f2
    refine TW.append [.int .i64 kd,.int .i64 (lim:Int),.int .i64 2] rfl rfl go82 rfl (hO.below f2.below) rfl rfl (fun j u hj=>⟨_,rfl,f2.blk.fld hj⟩) (fun u hu=>by simp at hu; rcases hu with rfl|rfl|rfl<;>rfl) (by omega) (by omega) ?_
    rintro fv' w3 hO3 hg3 hn3
    refine rnT ?_
    have hb2:=hbW.step f2.below
    refine rt1 rfl ⟨hb2.grown hg3 hb2.size (fun q hq=>h3 q hq),n+1,FRow.app (w:=w2) h3 h2 (fun u hu=>by simp at hu; rcases hu with rfl|rfl|rfl<;>rfl) hO3 hn3 hb2.size,by omega,⟨fun h=>by omega,fun h=> ?_⟩⟩
    have:=h.few
    omega
  · refine rnT ?_
    refine rt1 rfl ⟨hbW,n,⟨zs,hO,h2,h3⟩,by omega,?_⟩
    rw [kind_iff hnl,hgd,hie]
    exact ⟨fun h=>⟨by omega,h⟩,fun h=>h.2⟩
end Go.Proofs.YtffjgpoadfkjlaaGreatDoor
