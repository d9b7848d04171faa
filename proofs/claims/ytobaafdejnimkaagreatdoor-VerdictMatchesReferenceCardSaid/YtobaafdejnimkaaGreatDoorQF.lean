/- Texts of this claim,joined. -/
import Derived.Test.YtobaafdejnimkaaGreatDoorQE
set_option linter.unusedSimpArgs false
set_option linter.unusedVariables false
set_option maxRecDepth 100000
set_option maxHeartbeats 4000000
namespace Go.Proofs.YtobaafdejnimkaaGreatDoor
open Tryz
open Go.PF Go.RowKit Go.Ord
attribute [local irreducible] TW CW KW DW
variable {w:World} {F:Nat->Prop} {v:NV} {N:Net}
def Mr (c:Cal) (u v:Value):List Value:= [.int .i64 c.zone,u,v]
structure CalIn (F:Nat->Prop) (w:World) (u v:Value) (c:Cal):Prop where
 z:eB c.zone
 wk:SL boolT F w u c.week
 hol:SL bC F w v c.hol
theorem CalIn.below {F:Nat->Prop} {w w':World} {u v:Value} {c:Cal} (h:CalIn F w u v c) (hb:Below w.heap.size w w'):CalIn F w' u v c:=⟨h.z,h.wk.below hb,h.hol.below hb⟩
theorem BC {u v:Value} {c:Cal} (h:CalIn F w u v c):Gives prog 119 #[.agg (Mr c u v).toArray] w fun x w'=>Below w.heap.size w w'/\x= .bool (dec (CalOK c)):=by
 obtain ⟨A,cap,rfl,_⟩:=h.wk.form;obtain ⟨B,bcap,rfl,_⟩:=h.hol.form;refine gv (f:=119) ?_;refine ag ?_;refine aG rfl rfl rfl rfl ?_;rintro g1 w1 f1;refine ag ?_;have hB:=f1.blk;have h1:=h.below f1.below;refine aj rfl (hB.fld rfl) ?_;refine ag ?_;refine aj rfl (hB.fld rfl) ?_;refine ag ?_;refine aj rfl (hB.fld rfl) ?_;refine ag ?_;refine aj rfl (hB.fld rfl) ?_;refine ag ?_;refine aI [0,1,2,23] rfl ?_;refine au rfl (fun hbad=> ?_) (fun hgood=> ?_)
 ·refine ag ?_;refine aW rfl ⟨f1.below,?_⟩;rw [az fun h=> ?_];have q1:=h.z1;have q2:=h.z2;have q3:=h.wk;have q4:=h.few;simp at hbad;omega
 have hg:(-720<=c.zone/\c.zone<=840)/\c.week.length=7/\c.hol.length<=40:=by simp at hgood; omega
 refine ag ?_;refine aJ [1] (fun k:Nat=> [(3,none,.int .i64 ((k:Int)+1))])
  (fun k W=>k<=c.hol.length/\Below w1.heap.size w1 W/\ ∀(i:Nat) (x y:Int),i<k->c.hol[i]?=some x->c.hol[i+1]?=some y->x<y) (fun k=>c.hol.length-k) 0 ⟨ZB,ZA,fun i x y hi=>by omega⟩ ?_
 rintro k W ⟨hk,hBW,hinc⟩;have hB2:=hB.next hBW;refine ag ?_;refine aj rfl (hB2.fld rfl) ?_;refine ag ?_;refine ai rfl (fun hlt=> ?_) (fun hge=> ?_)
 ·obtain ⟨x,hx,_⟩:=bD (l:=c.hol) (k:=k) (by omega);obtain ⟨y,hy,_⟩:=bD (l:=c.hol) (k:=k+1) (by omega);obtain ⟨ad,rfl⟩:=h.hol.addr (by omega);have hyc:W.cell? (ad.add (((k:Int)+1).toNat*1))=some (.int .i64 y):=by
   have:=(h1.hol.below hBW).getI hy;rw [show ((k+1:Nat):Int)=(k:Int)+1 by omega] at this;exact this
  have hxc:W.cell? (ad.add (((k:Int)+1-1).toNat*1))=some (.int .i64 x):=by
   have:=(h1.hol.below hBW).getI hx;rw [show ((k:Nat):Int)=(k:Int)+1-1 by omega] at this;exact this
  refine ag ?_;refine bg mixed (by kernel_rfl) ?_;refine aZ ?_;refine aB rfl (hB2.fld rfl) ?_;refine aZ ?_;refine aB rfl hyc ?_;refine aZ ?_;refine aB rfl (hB2.fld rfl) ?_;refine aZ ?_;refine aB rfl hxc ?_;refine aZ ?_;refine bR [1,3,42] rfl fun w3 b3=> ?_;refine aD ?_;refine ai rfl (fun hbad2=> ?_) (fun hgood2=> ?_)
  ·refine ag ?_;refine aW rfl ⟨(f1.below.step hBW).step b3,?_⟩;rw [az fun h=> ?_];have:=h.inc k x y hx hy;omega
  ·refine ag ?_;rw [show ((k:Int)+1+1)=((k+1:Nat):Int)+1 by omega];refine aC (k+1) ⟨by omega,hBW.step b3,fun i p q hi hp hq=> ?_⟩;rcases ZI i k with h|h
   ·exact hinc i p q h hp hq
   ·have:i=k:=by omega
    subst this;rw [hx] at hp;rw [hy] at hq;cases hp;cases hq;omega
 ·refine ag ?_;refine aW rfl ⟨f1.below.step hBW,?_⟩;rw [ay ⟨hg.1.1,hg.1.2,hg.2.1,hg.2.2,fun i x y hx hy=>hinc i x y (by have:=(ZE hy).1; omega) hx hy⟩]
def NW (o:Of) (v:Value):List Value:= [.string o.name,.int .i64 o.op,.int .i64 o.cal,.int .i64 o.pock,.int .i64 o.pass,.int .i64 o.mins,v]
structure OfIn (F:Nat->Prop) (w:World) (v:Value) (o:Of):Prop where
 nm:o.name.size<=9223372036854775807
 i1:eB o.op
 i2:eB o.cal
 i3:eB o.pock
 i4:eB o.pass
 i5:eB o.mins
 cd:SL strT F w v o.codes
theorem OfIn.below {F:Nat->Prop} {w w':World} {v:Value} {o:Of} (h:OfIn F w v o) (hb:Below w.heap.size w w'):OfIn F w' v o:=⟨h.nm,h.i1,h.i2,h.i3,h.i4,h.i5,h.cd.below hb⟩
structure NVform (v:NV) (N:Net):Prop where
 c: ∃A c,v.c= .slice A N.cals.length c
 n: ∃A c,v.n= .slice A N.names.length c
 o: ∃A c,v.o= .slice A N.ops.length c
 f: ∃A c,v.f= .slice A N.offs.length c
 l: ∃A c,v.l= .slice A N.lines.length c
 k: ∃A c,v.k= .slice A N.classes.length c
theorem NetIn.form {F:Nat->Prop} {w:World} {v:NV} {N:Net} (h:NetIn F w v N):NVform v N:=by
 obtain ⟨a1,b1,h1,_⟩:=h.c.form;obtain ⟨a2,b2,h2,_⟩:=h.n.form;obtain ⟨a3,b3,h3,_⟩:=h.o.form;obtain ⟨a4,b4,h4,_⟩:=h.f.form;obtain ⟨a5,b5,h5,_⟩:=h.l.form;obtain ⟨a6,b6,h6,_⟩:=h.k.form;exact ⟨⟨_,_,h1⟩,⟨_,_,h2⟩,⟨_,_,h3⟩,⟨_,_,h4⟩,⟨_,_,h5⟩,⟨_,_,h6⟩⟩
theorem wZ {ov:Value} {o:Of} (hN:NVform v N) (h:OfIn F w ov o):Gives prog 126 #[.agg v.cells.toArray,.agg (NW o ov).toArray] w fun x w'=>Below w.heap.size w w'/\x= .bool (dec (OfOK N o)):=by
 obtain ⟨A,cap,rfl,_⟩:=h.cd.form;obtain ⟨vc,vn,vo,vf,vl,vk⟩:=v;obtain ⟨⟨A1,c1,e1⟩,_,⟨A3,c3,e3⟩,_,_,_⟩:=hN;dsimp only at e1 e3;subst e1 e3;refine gv (f:=126) ?_;refine ag ?_;refine aG rfl rfl rfl rfl ?_;rintro g1 w1 f1;refine aG rfl rfl rfl rfl ?_;rintro g2 w2 f2;refine ag ?_;have hB1:=f1.blk.next f2.below;have hB2:=f2.blk;have b2:=f1.below.step f2.below;have hcd:=h.cd.below b2;refine aj rfl (hB2.fld rfl) ?_;refine ag ?_;refine aj rfl (hB1.fld rfl) ?_;refine aA rfl (Ba) ?_;rintro y3 w3 ⟨d3,rfl⟩;have hB13:=hB1.next d3;have hB23:=hB2.next d3;refine ag ?_;refine aj rfl (hB23.fld rfl) ?_;refine ag ?_;refine aj rfl (hB13.fld rfl) ?_;refine aO (cap:= []) rfl rfl ie203.q rfl ct (aa rfl id (aa rfl id ah)) (fun _=>Bd) ?_;rintro w4 d4;refine ag ?_;have hB14:=hB13.next d4;have hB24:=hB23.next d4;have b4:=(b2.step d3).step d4;refine aj rfl (hB24.fld rfl) ?_;refine ag ?_;refine aI [0,1,2,3,4,26] rfl ?_;refine au rfl (fun hbad=> ?_) (fun hgood=> ?_)
 ·refine ag ?_;refine aW rfl ⟨b4,?_⟩;rw [az fun h=> ?_];have q1:=h.o1;have q2:=h.o2;have q3:=h.c1;have q4:=h.c2;have q5:=h.few;simp [q1,q2,q3,q4] at hbad;omega
 have hg:(0<=o.op/\o.op<N.ops.length)/\(0<=o.cal/\o.cal<N.cals.length)/\o.codes.length<=20:=by
  simp at hgood;omega
 have hcd4:=hcd.below (d3.step d4);refine ag ?_;refine aj rfl (hB24.fld rfl) ?_;refine ag ?_;refine aJ [3,28,29] (fun k:Nat=> [(30,none,.int .i64 (k:Int))])
  (fun k W=>k<=o.codes.length/\Below w4.heap.size w4 W/\ ∀c∈o.codes.take k,CodeOK c) (fun k=>o.codes.length-k) 0 ⟨ZB,ZA,fun c hc=>by simp at hc⟩ ?_
 rintro k W ⟨hk,hBW,hok⟩;have hcW:=hcd4.below hBW;have hB2W:=hB24.next hBW;refine ag ?_;refine ai rfl (fun hlt=> ?_) (fun hge=> ?_)
 ·obtain ⟨c,hc,hcm⟩:=bD (l:=o.codes) (k:=k) (by omega);obtain ⟨ad,rfl⟩:=hcW.addr (by omega);refine ag ?_;refine aj rfl (hcW.getT hc) ?_;refine ag ?_;refine aA rfl (G7) ?_;rintro y5 w5 ⟨d5,rfl⟩;refine ag ?_;refine aI [3,6,28,29,30,36] rfl ?_;refine au rfl (fun hb1=> ?_) (fun hb2=> ?_)
  ·refine ag ?_;refine aW rfl ⟨(b4.step hBW).step d5,?_⟩;rw [az fun h=> ?_];rw [ay (h.codes c hcm)] at hb1;simp at hb1
  ·refine ag ?_;refine aC (k+1) ⟨by omega,hBW.step d5,fun z hz=> ?_⟩;rw [ZG,hc] at hz;rcases ZH hz with hz|hz
   ·exact hok z hz
   ·simp at hz;subst hz;exact dec_iff.1 (by simpa using hb2)
 ·rw [List.take_of_length_le (by omega)] at hok;refine ag ?_;refine aj rfl (hB2W.fld rfl) ?_;refine aA rfl (lD) ?_;rintro y5 w5 ⟨d5,rfl⟩;have hB25:=hB2W.next d5;refine ag ?_;refine aj rfl (hB25.fld rfl) ?_;refine aO (cap:= []) rfl rfl ie205.q rfl ct (aa rfl id (aa rfl ct (aa rfl ct ah))) (fun _=>lD) ?_;rintro w6 d6;refine ag ?_;have hB26:=hB25.next d6;refine aj rfl (hB26.fld rfl) ?_;refine aO (cap:= []) rfl rfl ie205.q rfl ct (aa rfl id (aa rfl ct (aa rfl ct ah))) (fun _=>lD) ?_;rintro w7 d7;refine ag ?_;refine aW rfl ⟨(((b4.step hBW).step d5).step d6).step d7,?_⟩;by_cases hq:OfOK N o
  ·rw [ay hq];have q1:=hq.p1;have q2:=hq.p2;have q3:=hq.q1;have q4:=hq.q2;have q5:=hq.m1;have q6:=hq.m2;simp [q1,q2,q3,q4,q5,q6]
  ·rw [az hq];have: ¬(((2<=o.pock/\o.pock<=64)/\1<=o.pass/\o.pass<=4)/\1<=o.mins/\o.mins<=240):=fun h=>hq ⟨hg.1.1,hg.1.2,hg.2.1.1,hg.2.1.2,hg.2.2,hok,h.1.1.1,h.1.1.2,h.1.2.1,h.1.2.2,h.2.1,h.2.2⟩
   congr 1
   simp only [Bool.and_eq_false_iff,decide_eq_false_iff_not];omega
theorem Bh {l:Li} (hN:NVform v N):Gives prog 130 #[.agg v.cells.toArray,.agg (Cv l).toArray] w fun x w'=>Below w.heap.size w w'/\x= .bool (dec (LiOK N l)):=by
 obtain ⟨vc,vn,vo,vf,vl,vk⟩:=v;obtain ⟨_,_,_,⟨A4,c4,e4⟩,_,_⟩:=hN;dsimp only at e4;subst e4;refine gv (f:=130) ?_;refine ag ?_;refine aG rfl rfl rfl rfl ?_;rintro g1 w1 f1;refine aG rfl rfl rfl rfl ?_;rintro g2 w2 f2;refine ag ?_;have hB1:=f1.blk.next f2.below;have hB2:=f2.blk;have b2:=f1.below.step f2.below;refine aj rfl (hB2.fld rfl) ?_;refine ag ?_;refine aj rfl (hB1.fld rfl) ?_;refine aA rfl (oP) ?_;rintro y3 w3 ⟨d3,rfl⟩;have hB13:=hB1.next d3;have hB23:=hB2.next d3;refine ag ?_;refine aj rfl (hB23.fld rfl) ?_;refine ag ?_;refine aj rfl (hB13.fld rfl) ?_;refine aO (cap:= []) rfl rfl ie65.q rfl ct (aa rfl id (aa rfl id ah)) (fun _=>oP) ?_;rintro w4 d4;refine ag ?_;have hB14:=hB13.next d4;have hB24:=hB23.next d4;have b4:=(b2.step d3).step d4;refine aj rfl (hB24.fld rfl) ?_;refine ag ?_;refine aj rfl (hB24.fld rfl) ?_;refine ag ?_;refine aI [0,1,2,3,4,25] rfl ?_;refine au rfl (fun hbad=> ?_) (fun hgood=> ?_)
 ·refine ag ?_;refine aW rfl ⟨b4,?_⟩;rw [az fun h=> ?_];have q1:=h.f1;have q2:=h.f2;have q3:=h.t1;have q4:=h.t2;have q5:=h.ne;simp [q1,q2,q3,q4,q5] at hbad
 have hg:(0<=l.frm/\l.frm<N.offs.length)/\(0<=l.to/\l.to<N.offs.length)/\l.frm≠l.to:=by
  simp at hgood;omega
 refine ag ?_;refine aj rfl (hB24.fld rfl) ?_;refine aA rfl (oO) ?_;rintro y5 w5 ⟨d5,rfl⟩;have hB25:=hB24.next d5;refine ag ?_;refine aj rfl (hB25.fld rfl) ?_;refine aO (cap:= []) rfl rfl ie205.q rfl ct (aa rfl id (aa rfl ct (aa rfl ct ah))) (fun _=>lD) ?_;rintro w6 d6;refine ag ?_;have hB26:=hB25.next d6;refine aj rfl (hB26.fld rfl) ?_;refine aO (cap:= []) rfl rfl ie205.q rfl ct (aa rfl id (aa rfl ct (aa rfl ct ah))) (fun _=>lD) ?_;rintro w7 d7;refine ag ?_;refine aW rfl ⟨((b4.step d5).step d6).step d7,?_⟩;by_cases hq:LiOK N l
 ·rw [ay hq];have q1:=hq.a1;have q2:=hq.a2;have q3:=hq.r1;have q4:=hq.r2;have q5:=hq.d1;have q6:=hq.d2;simp [q1,q2,q3,q4,q5,q6]
 ·rw [az hq];have: ¬(((0<=l.at_/\l.at_<=1439)/\1<=l.trav/\l.trav<=5000)/\1<=l.load/\l.load<=40):=fun h=>hq ⟨hg.1.1,hg.1.2,hg.2.1.1,hg.2.1.2,hg.2.2,h.1.1.1,h.1.1.2,h.1.2.1,h.1.2.2,h.2.1,h.2.2⟩
  congr 1
  simp only [Bool.and_eq_false_iff,decide_eq_false_iff_not];omega
abbrev MM:=Value×qR×Knd
def Nk (N:Net) (t:Int) (pre:List MM) (x:MM) (_:Nat->Prop) (W:World):Prop:=pre.map (·.2)=(jZ N t).take pre.length/\(jZ N t)[pre.length]?=some x.2/\ ∃b,FormAt b W x.1 x.2.2
theorem qz {α:Type} {l:List α} {i:Nat} {x:α} (h:l[i]?=some x):l.take (i+1)=l.take i++ [x]:=by rw [ZG,h]; rfl
theorem yt {t:Int} {g1 g2:Nat} (hN:NetIn F w v N) (hF: ∀k,F k->k<w.heap.size) (hB1:Blk w g1 29 v.cells) (hB2:Blk w g2 3 [.int .i64 t]) (hsm:N.offs.length<=1000/\N.lines.length<=1000) :
  C4 prog 115 [.pointer (some ⟨g1,0,none⟩),.pointer (some ⟨g2,0,none⟩)] (fun x:MM=> [.agg (zY x.2.1).toArray,x.1]) (Nk N t) (fun xs=>xs.map (·.2)=jZ N t) (fun k=>k=g1∨k=g2∨F k) w:=by
 intro yl J Jx W M hown hsz hyl hM hMlt hJ hJx hy h0;have hform:=NetIn.form hN;obtain ⟨vc,vn,vo,vf,vl,vk⟩:=v;obtain ⟨_,_,_,⟨A4,c4,e4⟩,⟨A5,c5,e5⟩,_⟩:=id hform;dsimp only at e4 e5;subst e4 e5;have hlt: ∀k,(k=g1∨k=g2∨F k)->k<w.heap.size:=fun k hk=>by
  rcases hk with rfl|rfl|hk
  ·exact hB1.lt
  ·exact hB2.lt
  ·exact hF k hk
 have mem: ∀W':World,(∀k,(k=g1∨k=g2∨F k)->W'.heap[k]?=w.heap[k]?)->Blk W' g1 29 (NV.cells ⟨vc,vn,vo,.slice A4 N.offs.length c4,.slice A5 N.lines.length c5,vk⟩)/\Blk W' g2 3 [.int .i64 t]/\SL liT F W' (.slice A5 N.lines.length c5) N.lines:=fun W' h =>
  ⟨(h g1 (.inl rfl)).trans hB1,(h g2 (.inr (.inl rfl))).trans hB2,hN.l.mono (bn fun k hk _=>h k (.inr (.inr hk)))⟩
 have hown': ∀k,(k=g1∨k=g2∨F k)->W.heap[k]?=w.heap[k]?:=fun k hk=>hown k hk (hlt k hk);obtain ⟨m1,m2,m3⟩:=mem W hown';have hpl:=pG N t;refine gv (f:=115) ?_;refine ag ?_;refine aj rfl (m1.fld rfl) ?_;refine ag ?_;refine aJ [0,1,2,9] (fun x:List MM×(Nat->Prop)=> [(10,none,.int .i64 (x.1.length:Int))])
  (fun x W'=>J x.1 x.2 W'/\x.1.length<=N.offs.length/\x.1.map (·.2)=(jZ N t).take x.1.length/\W.heap.size<=W'.heap.size/\(∀k,x.2 k->k<W'.heap.size)/\ ∀k,(k=g1∨k=g2∨F k)->W'.heap[k]?=w.heap[k]?/\ ¬x.2 k) (fun x=>N.offs.length-x.1.length) ([],M) ⟨h0,ZB,rfl,ZC,hMlt,fun k hk=>⟨hown' k hk,(hM k hk).1⟩⟩ ?_
 rintro ⟨pre,M1⟩ W1 ⟨hj,hpn,heq,hsz1,hM1,hk1⟩;dsimp only at hj hpn heq hM1 hk1;refine ag ?_;refine ai rfl (fun hgo=> ?_) (fun hend=> ?_)
 ·dsimp only at hgo;have hat:=ym (N:=N) (t:=t) (i:=pre.length) (by omega);obtain ⟨n1,n2,n3⟩:=mem W1 (fun k hk=>(hk1 k hk).1);refine ag ?_;refine aH [0,1] _ [.int .i64 (pre.length:Int),.int .i64 (-1)] rfl rfl rfl (aa rfl ct (aa rfl ct ah)) (by kernel_rfl) ?_;refine ag ?_;refine aj rfl (n2.cell 0) ?_;refine aj rfl (n2.cell 0) ?_;refine aA rfl (B6) ?_;rintro fv w2 ⟨b2,hf2⟩;have hj2:J pre M1 w2:=hJ _ _ _ _ hj (.of_below b2);refine lI rfl rfl rfl (aa rfl ct (aa rfl ct ah)) (hy pre (fv,((pre.length:Int),-1),.at pre.length t t) M1 w2 hj2 ⟨heq,hat,_,hf2⟩ (fun k hk=>by have:=hM1 k hk; have:=b2.size; omega) (by have:=b2.size; omega)) ?_;rintro yb W3 hR;have hk3: ∀k,(k=g1∨k=g2∨F k)->W3.heap[k]?=w.heap[k]?:=fun k hk=>(hR.kept k (by have:=hlt k hk; have:=b2.size; omega) (hk1 k hk).2 (hM k hk).2).trans ((b2.block k (by have:=hlt k hk; omega)).trans (hk1 k hk).1);refine ag ?_;refine au rfl (fun hno=> ?_) (fun hyes=> ?_)
  ·refine ag ?_;refine Le results115 (.inr ?_);obtain ⟨M',hx⟩:=hR.no (by simpa using hno);exact ⟨_,M',hx⟩
  ·refine ag ?_;obtain ⟨M',hj3,hm3⟩:=hR.yes (by simpa using hyes);refine aC (pre++ [(fv,((pre.length:Int),-1),.at pre.length t t)],M') ⟨hj3,by simp; omega,?_,by have:=hR.size; have:=b2.size; omega,fun k hk=>(hm3 k hk).2,fun k hk=>⟨hk3 k hk,fun hmk=> ?_⟩⟩ (hm:=by simp; omega) (hp:= ?_)
   ·dsimp only;rw [List.map_append,heq,List.length_append,List.length_cons,List.length_nil,Nat.zero_add,qz hat];rfl
   ·rcases (hm3 k hmk).1 with h|h
    ·exact (hk1 k hk).2 h
    ·have:=hlt k hk; have:=b2.size; omega
   ·simp only [List.length_append,List.length_cons,List.length_nil,Nat.zero_add,Int.natCast_add];rfl
 have hpe:pre.length=N.offs.length:=by
  dsimp only at hend;omega
 obtain ⟨n1,n2,n3⟩:=mem W1 (fun k hk=>(hk1 k hk).1);refine ag ?_;refine aj rfl (n1.fld rfl) ?_;refine ag ?_;refine aJ [0,1,2,24,25] (fun x:List MM×Nat×(Nat->Prop)=> [(26,none,.int .i64 (x.2.1:Int))])
  (fun x W'=>J x.1 x.2.2 W'/\x.2.1<=N.lines.length/\x.1.length=N.offs.length+x.2.1/\x.1.map (·.2)=(jZ N t).take x.1.length/\W.heap.size<=W'.heap.size/\(∀k,x.2.2 k->k<W'.heap.size)/\ ∀k,(k=g1∨k=g2∨F k)->W'.heap[k]?=w.heap[k]?/\ ¬x.2.2 k) (fun x=>N.lines.length-x.2.1) (pre,0,M1) ⟨hj,ZB,hpe,heq,hsz1,hM1,hk1⟩ ?_
 rintro ⟨pre,i,M1⟩ W1 ⟨hj,hin,hpn,heq,hsz1,hM1,hk1⟩;dsimp only at hj hin hpn heq hM1 hk1;refine ag ?_;refine ai rfl (fun hgo=> ?_) (fun hend=> ?_)
 ·dsimp only at hgo;obtain ⟨l,hl,hlm⟩:=bD (l:=N.lines) (k:=i) (by omega);have hat:=yn (N:=N) (t:=t) hl;rw [<-hpn] at hat;obtain ⟨n1,n2,n3⟩:=mem W1 (fun k hk=>(hk1 k hk).1);obtain ⟨ad,rfl⟩:=n3.addr (by omega);obtain ⟨ad',cs,e9,hF9,hrep9,hc9⟩:=n3.at hl;cases e9;obtain ⟨rfl,_⟩:=hrep9;refine ag ?_;refine aF rfl (fun j u hj=>hc9 j u hj) ?_;refine dC rfl rfl EQ ?_;rintro g3 w3 f3;refine ag ?_;refine aQ rfl rfl rfl f3.blk is113.q rfl rfl rfl ?_;rintro w4 hB4 hbut4 hsz4;refine ag ?_;have b4:Below W1.heap.size W1 w4:=f3.below.grown hbut4 f3.below.size (fun q hq=>by cases hq; have:=f3.at_; omega);refine aH [0,1] _ [.int .i64 (-1),.int .i64 (i:Int)] rfl rfl rfl (aa rfl ct (aa rfl ct ah)) (by kernel_rfl) ?_;refine aF rfl (fun _ _ hv=>hB4.fld hv) ?_;refine aj rfl ((n2.next b4).cell 0) ?_;refine aA rfl (Lb) ?_;rintro fv w2 ⟨b2',hf2⟩;have b2:=b4.step b2';have hj2:J pre M1 w2:=hJ _ _ _ _ hj (.of_below b2);refine lI rfl rfl rfl (aa rfl ct (aa rfl ct ah)) (hy pre (fv,(-1,(i:Int)),.on l t) M1 w2 hj2 ⟨heq,hat,_,hf2⟩ (fun k hk=>by have:=hM1 k hk; have:=b2.size; omega) (by have:=b2.size; omega)) ?_;rintro yb W3 hR
  have hk3: ∀k,(k=g1∨k=g2∨F k)->W3.heap[k]?=w.heap[k]?:=fun k hk=>(hR.kept k (by have:=hlt k hk; have:=b2.size; omega) (hk1 k hk).2 (hM k hk).2).trans ((b2.block k (by have:=hlt k hk; omega)).trans (hk1 k hk).1);refine ag ?_;refine aI [0,1,2,5,6,24,25,26,38] rfl ?_;refine au rfl (fun hno=> ?_) (fun hyes=> ?_)
  ·refine ag ?_;refine Le results115 (.inr ?_);obtain ⟨M',hx⟩:=hR.no (by simpa using hno);exact ⟨_,M',hx⟩
  ·refine ag ?_;obtain ⟨M',hj3,hm3⟩:=hR.yes (by simpa using hyes);refine aC (pre++ [(fv,(-1,(i:Int)),.on l t)],i+1,M') ⟨hj3,by dsimp only; omega,by simp; omega,?_,by have:=hR.size; have:=b2.size; omega,fun k hk=>(hm3 k hk).2,fun k hk=>⟨hk3 k hk,fun hmk=> ?_⟩⟩ (hm:=by dsimp only; omega)
   ·dsimp only;rw [List.map_append,heq,List.length_append,List.length_cons,List.length_nil,Nat.zero_add,qz hat];rfl
   ·rcases (hm3 k hmk).1 with h|h
    ·exact (hk1 k hk).2 h
    ·have:=hlt k hk; have:=b2.size; omega
 have hie:i=N.lines.length:=by
  dsimp only at hend;omega
 refine ag ?_;refine ul results115 (.inl ⟨pre,M1,?_,hj⟩);dsimp only;rw [heq,hpn,hie,<-hpl,List.take_length]
end Go.Proofs.YtobaafdejnimkaaGreatDoor
namespace Go.Proofs.YtobaafdejnimkaaGreatDoor
open Tryz
open Go.PF Go.RowKit Go.Ord
variable {s:ByteArray} {nm:List ByteArray} {i:Nat}
def NameF (w:World) (kn:Nat) (capn:List Value) (i:Nat) (s:ByteArray):Prop:= ∀W,Below w.heap.size w W->Gives prog kn (.int .i64 (i:Int)::capn).toArray W fun u W'=>Below W.heap.size W W'/\u= .string s
theorem NameF.below {w w':World} {kn:Nat} {capn:List Value} (h:NameF w kn capn i s) (hb:Below w.heap.size w w'):NameF w' kn capn i s:=fun W hW=>h W (hb.step hW)
noncomputable def iX (s:ByteArray):Int:=if dec (NameOK keys11 s) then 0 else 1
noncomputable def iW (nm:List ByteArray) (i:Nat) (s:ByteArray):Int:=if dec (s∈nm.take i) then 4 else 0
noncomputable def iV {α:Type} (G:α->Prop) (x:α):Int:=if dec (G x) then 0 else 1
theorem AA:(∀(i:Nat) (s:ByteArray),nm[i]?=some s->s ∉ nm.take i)->nm.Nodup:=fun h=>by
 rw [List.nodup_iff_pairwise_ne,List.pairwise_iff_getElem];intro i j hi hj hij e;exact h j nm[j] (ZD hj) (by rw [<-e]; exact ZF (i:=i) (by rw [List.getElem?_take_of_lt hij]; exact ZD hi))
theorem zX (h:nm.Nodup) (hs:nm[i]?=some s):s ∉ nm.take i:=fun hm=>by
 obtain ⟨j,hj⟩:=List.mem_iff_getElem?.1 hm;have hj1:j<i:=by
  have:=(ZE hj).1;simp at this;omega
 rw [List.getElem?_take_of_lt hj1] at hj;obtain ⟨h1,h2⟩:=ZE hj;obtain ⟨h3,h4⟩:=ZE hs;have:=List.pairwise_iff_getElem.1 (List.nodup_iff_pairwise_ne.1 h) j i h1 h3 hj1;exact this (by rw [h2,h4])
theorem Du:iX s=0↔NameOK keys11 s:=by
 unfold iX;by_cases h:NameOK keys11 s
 ·rw [ay h]; simp [h]
 ·rw [az h]; simp [h]
theorem Dt:iW nm i s=0↔s ∉ nm.take i:=by
 unfold iW;by_cases h:s∈nm.take i
 ·rw [ay h]; simp [h]
 ·rw [az h]; simp [h]
theorem Dr {α:Type} {G:α->Prop} {x:α}:iV G x=0↔G x:=by
 unfold iV;by_cases h:G x
 ·rw [ay h]; simp [h]
 ·rw [az h]; simp [h]
def GoodAt {α:Type} (nm:List ByteArray) (l:List α) (G:α->Prop) (j:Nat):Prop:= ∀x s,l[j]?=some x->nm[j]?=some s->NameOK keys11 s/\s ∉ nm.take j/\G x
theorem fw {α:Type} {l:List α} {G:α->Prop} {j:Nat} {x:α} (hx:l[j]?=some x) (hs:nm[j]?=some s):GoodAt nm l G j↔iX s=0/\iW nm j s=0/\iV G x=0:=by
 rw [Du,Dt,Dr];exact ⟨fun h=>h x s hx hs,fun h y z hy hz=>by rw [hx] at hy; rw [hs] at hz; cases hy; cases hz; exact h⟩
theorem lz {α:Type} {l:List α} {G:α->Prop} {lim:Nat} (hnl:nm.length=l.length):KindOK keys11 lim nm l G↔l.length<=lim/\ ∀j,j<min l.length lim->GoodAt nm l G j:=by
 constructor
 ·exact fun h=>⟨h.few,fun j _ x s hx hs=>⟨h.name s (ZF hs),zX h.nodup hs,h.good x (ZF hx)⟩⟩
 ·rintro ⟨h1,h2⟩;have h3: ∀(j:Nat) x s,l[j]?=some x->nm[j]?=some s->NameOK keys11 s/\s ∉ nm.take j/\G x:=fun j x s hx hs=>h2 j (by have:=(ZE hx).1; omega) x s hx hs;refine ⟨h1,fun s hs=> ?_,AA fun i s hs=> ?_,fun x hx=> ?_⟩
  ·obtain ⟨j,hj⟩:=List.mem_iff_getElem?.1 hs;have hjl:=(ZE hj).1;exact (h3 j l[j] s (ZD (by omega)) hj).1
  ·have hjl:=(ZE hs).1;exact (h3 i l[i] s (ZD (by omega)) hs).2.1
  ·obtain ⟨j,hj⟩:=List.mem_iff_getElem?.1 hx;have hjl:=(ZE hj).1;exact (h3 j x nm[j] hj (ZD (by omega))).2.2
def FRow (w:World) (b:Nat) (v:Value) (n:Nat):Prop:= ∃zs,OwnS w 167 3 v n zs/\(∀u∈zs,u.oneCell'=true)/\ ∀g,v.ownBlock=some g->b<=g
theorem FRow.below {w w':World} {b:Nat} {v:Value} {n:Nat} (h:FRow w b v n) (hb:Below w.heap.size w w'):FRow w' b v n:=by
 obtain ⟨zs,h1,h2,h3⟩:=h;exact ⟨zs,h1.below hb,h2,h3⟩
theorem FRow.app {w w':World} {b n:Nat} {v v':Value} {zs cs:List Value} (h3: ∀g,v.ownBlock=some g->b<=g) (h2: ∀u∈zs,u.oneCell'=true) (hc: ∀u∈cs,u.oneCell'=true) (hO:OwnS w' 167 3 v' (n+1) (zs++cs)) (hn:v'.ownBlock=v.ownBlock∨v'.ownBlock=some w.heap.size) (hb:b<=w.heap.size):FRow w' b v' (n+1) :=
 ⟨zs++cs,hO,fun u hu=>(ZH hu).elim (h2 u) (hc u),fun g hg=>by
  rcases hn with h|h
  ·exact h3 g (by rw [<-h]; exact hg)
  ·rw [h] at hg; cases hg; exact hb⟩
theorem FRow.nil (w:World) (b:Nat):FRow w b (.slice none 0 0) 0:=⟨[],OwnS.nil _ _ _,(fun u hu=>by cases hu),(fun g hg=>by simp [Value.ownBlock] at hg)⟩
end Go.Proofs.YtobaafdejnimkaaGreatDoor
namespace Go.Proofs.YtobaafdejnimkaaGreatDoor
open Tryz
open Go.PF Go.RowKit Go.Ord
attribute [local irreducible] TW CW KW DW
variable {w:World} {i kn g8 kg g g9 g7 lim b a:Nat} {F:Nat->Prop} {N:Net} {capn capg:List Value} {s:ByteArray} {v:Value} {nm:List ByteArray} {kd t:Int} {M:dh}
theorem FI (ht:Tabs w) (hB:Blk w g8 188 [.func (.func kn) #[] capn.toArray]) (hen:enters prog kn=true) (hn:NameF w kn capn i s) :
  Gives prog 192 #[.int .i64 (i:Int),.pointer (some ⟨g8,0,none⟩)] w (ZJ w (.int .i64 (iX s))):=by
 refine gv (f:=192) ?_;refine ag ?_;refine aj rfl (hB.cell 0) ?_;refine ag ?_;refine bK rfl rfl hen rfl (aa rfl ct ah) (hn w ZA) ?_;rintro y1 w1 ⟨c1,rfl⟩;refine aA rfl (mW (ht.below c1)) ?_;rintro y2 w2 ⟨c2,rfl⟩;refine ag ?_;refine au rfl (fun h1=> ?_) (fun h2=> ?_)
 ·refine ag ?_;refine aW rfl ⟨c1.step c2,?_⟩;unfold iX
  cases hq:dec (NameOK keys11 s) with
  | true=>rw [hq] at h1; simp at h1
  | false=>rfl
 ·refine ag ?_;refine aW rfl ⟨c1.step c2,?_⟩;unfold iX
  cases hq:dec (NameOK keys11 s) with
  | true=>rfl
  | false=>rw [hq] at h2; simp at h2
theorem FC (hB:Blk w g8 188 [.func (.func kn) #[] capn.toArray]) (hen:enters prog kn=true) (hn: ∀j x,nm[j]?=some x->NameF w kn capn j x) (hs:nm[i]?=some s) (hi:i<=1000000) :
  Gives prog 194 #[.int .i64 (i:Int),.pointer (some ⟨g8,0,none⟩)] w (ZJ w (.int .i64 (iW nm i s))):=by
 refine gv (f:=194) ?_;refine ag ?_;refine aJ [0,1,5] (fun k:Nat=> [(6,none,.int .i64 (k:Int))])
  (fun k W=>k<=i/\Below w.heap.size w W/\s ∉ nm.take k) (fun k=>i-k) 0 ⟨ZB,ZA,by simp⟩ ?_
 rintro k W ⟨hk,hW,hno⟩;have hil:=(ZE hs).1;refine ag ?_;refine ai rfl (fun hlt=> ?_) (fun hge=> ?_)
 ·obtain ⟨x,hx,hxm⟩:=bD (l:=nm) (k:=k) (by omega);have hBW:=hB.next hW;refine ag ?_;refine bg mixed (by kernel_rfl) ?_;refine aB rfl (hBW.cell 0) ?_;refine aZ ?_;refine dw (.ex (.string x)) trivial rfl rfl hen rfl ct (ax rfl ct aP) (fun _ w' hb'=>hn k x hx w' (hW.step hb')) ?_;refine aB rfl (hBW.cell 0) ?_;refine aZ ?_;refine dw (.ex (.string s)) trivial rfl rfl hen rfl ct (ax rfl ct aP) (fun _ w' hb'=>hn i s hs w' (hW.step hb')) ?_;refine aZ ?_;rw [uu];refine bR [0,1,4,5,6,15] rfl fun w3 b3=> ?_;refine aD ?_;refine au rfl (fun heq=> ?_) (fun hne=> ?_)
  ·refine ag ?_;refine aW rfl ⟨hW.step b3,?_⟩;have hxs:x=s:=of_decide_eq_true heq;subst hxs;unfold iW;rw [ay (ZF (i:=k) (by rw [List.getElem?_take_of_lt (by omega)]; exact hx))];rfl
  ·refine ag ?_;refine aC (k+1) ⟨by omega,hW.step b3,fun h=> ?_⟩;rw [ZG,hx] at h;rcases ZH h with h|h
   ·exact hno h
   ·simp at h;exact of_decide_eq_false hne h.symm
 ·refine ag ?_;refine aW rfl ⟨hW,?_⟩;have:k=i:=by omega
  subst this;unfold iW;rw [az hno];rfl
theorem Fw {l:List Cal} {x:Cal} {G:Cal->Prop} (hB9:Blk w g9 163 [.func (.func kg) #[] capg.toArray]) (hB7:Blk w g7 22 [v]) (hen:enters prog kg=true) (hl:SL calT F w v l) (hx:l[i]?=some x)
 (hg: ∀cs W,Below w.heap.size w W->calT.rep F W cs x->Gives prog kg (.agg cs.toArray::capg).toArray W fun u W'=>Below W.heap.size W W'/\u= .bool (dec (G x))) :
  Gives prog 195 #[.int .i64 (i:Int),.pointer (some ⟨g9,0,none⟩),.pointer (some ⟨g7,0,none⟩)] w (ZJ w (.int .i64 (iV G x))):=by
 obtain ⟨A,cap,rfl,_⟩:=hl.form;have hil:=(ZE hx).1;have hmax:=hl.len.2.2;obtain ⟨ad,rfl⟩:=hl.addr (by omega);obtain ⟨ad',cs,e1,hF,hrep,hc⟩:=hl.at hx;cases e1;have hrep0:=hrep;obtain ⟨zu,zv,rfl,zz⟩:=hrep;refine gv (f:=195) ?_;refine ag ?_;refine bg mixed (by kernel_rfl) ?_;refine aB rfl (hB9.cell 0) ?_;refine aB rfl (hB7.cell 0) ?_;refine aZ ?_;refine dx rfl (hc) ?_;refine dw (.ex (.bool (dec (G x)))) trivial rfl rfl hen rfl ct (ax rfl ct aP) (fun _ w' hb'=>hg _ w' hb' (calT.mono _ _ _ _ _ (Kept.of_below hb') hrep0)) ?_;refine aZ ?_;refine bR [0,1,2,4,11] rfl fun w3 b3=> ?_;refine aD ?_;refine au rfl (fun h1=> ?_) (fun h2=> ?_)
 ·refine ag ?_;refine aW rfl ⟨b3,?_⟩;unfold iV
  cases hq:dec (G x) with
  | true=>rw [hq] at h1; simp at h1
  | false=>rfl
 ·refine ag ?_;refine aW rfl ⟨b3,?_⟩;unfold iV
  cases hq:dec (G x) with
  | true=>rfl
  | false=>rw [hq] at h2; simp at h2
theorem BB {l:List Cal} {G:Cal->Prop} (ht:Tabs w) (hl:SL calT F w v l) (hen:enters prog kn=true) (heg:enters prog kg=true) (hlim:lim<=1000)
 (hnl:nm.length=l.length) (hn: ∀j x,nm[j]?=some x->NameF w kn capn j x) (hg: ∀(i:Nat) (x:Cal),l[i]?=some x-> ∀cs W,Below w.heap.size w W->calT.rep F W cs x->Gives prog kg (.agg cs.toArray::capg).toArray W fun u W'=>Below W.heap.size W W'/\u= .bool (dec (G x))) :
    Gives prog 118 #[.int .i64 kd,.int .i64 (lim:Int),v,.func (.func kn) #[] capn.toArray,.func (.func kg) #[] capg.toArray] w fun u w'=>Below w.heap.size w w'/\ ∃n,FRow w' w.heap.size u n/\n<=lim+1/\(n=0↔KindOK keys11 lim nm l G):=by
  obtain ⟨A,cap,rfl,_⟩:=hl.form;have hmax:=hl.len.2.2;refine gv (f:=118) ?_;refine ag ?_;refine aG rfl rfl rfl rfl ?_;rintro g7 w7 f7;refine aG rfl rfl rfl rfl ?_;rintro g8 w8 f8;refine aG rfl rfl rfl rfl ?_;rintro g9 w9 f9;refine ag ?_;refine aN rfl rfl (aa rfl ct ah) ?_;refine aN rfl rfl (aa rfl ct ah) ?_;refine aN rfl rfl (aa rfl ct (aa rfl ct ah)) ?_;have hB7:=(f7.blk.next f8.below).next f9.below;have hB8:=f8.blk.next f9.below;have hB9:=f9.blk;have b9:=(f7.below.step f8.below).step f9.below;refine aH [0,1,2] _ [.func (.func 192) #[] #[.pointer (some ⟨g8,0,none⟩)],.func (.func 194) #[] #[.pointer (some ⟨g8,0,none⟩)],.func (.func 195) #[] #[.pointer (some ⟨g9,0,none⟩),.pointer (some ⟨g7,0,none⟩)]] rfl rfl rfl (aa rfl ct (aa rfl ct (aa rfl ct ah))) (by kernel_rfl) ?_;refine aM rfl xB rfl is251.q rfl rfl ?_;rintro g11 w11 f11;refine ag ?_;have hB7:=(hB7.next f11.below);have hB8:=(hB8.next f11.below);have hB9:=(hB9.next f11.below);have hB11:=f11.blk;have b11:=b9.step f11.below;refine aj rfl (hB7.cell 0) ?_;refine ag ?_;refine aT kD rfl ⟨ct,ct,trivial⟩ (fun _=>trivial) ?_;refine ag ?_;refine aJ [0,1,7,11,24] (fun z:Nat×Value×Nat=> [(12,none,z.2.1),(25,none,.int .i64 (z.1:Int))])
    (fun z W=>z.1<=min l.length lim/\Below w11.heap.size w11 W/\FRow W w11.heap.size z.2.1 z.2.2/\z.2.2<=z.1/\(z.2.2=0↔ ∀j,j<z.1->GoodAt nm l G j)) (fun z=>min l.length lim-z.1) (0,.slice none 0 0,0) ⟨ZB,ZA,FRow.nil _ _,ZC,⟨fun _ j hj=>by omega,fun _=>rfl⟩⟩ ?_
  rintro ⟨i,fv,n⟩ W ⟨hi,hW,⟨zs,hO,h2,h3⟩,hni,hgd⟩;dsimp only at hi hO h3 hni hgd;have hbW:=b11.step hW;refine ag ?_;refine aI [0,1,7,11,12,24,25,26] rfl ?_;refine ai rfl (fun hlt=> ?_) (fun hge=> ?_)
  · obtain ⟨x,hx,hxm⟩:=bD (l:=l) (k:=i) (by omega)
    obtain ⟨s,hs,hsm⟩:=bD (l:=nm) (k:=i) (by omega);have hB11W:=hB11.next hW;refine ag ?_;refine kE _ rfl rfl underlying251 is251.q rfl ct (fun _=>(fun _ _ hv=>hB11W.fld hv)) rfl ?_;refine ag ?_;refine aJ [0,1,7,11,12,13,24,25,28] (fun k:Nat=> [(29,none,.int .i64 (k:Int))])
      (fun k W'=>k<=3/\Below W.heap.size W W'/\(0<k->iX s=0)/\(1<k->iW nm i s=0)/\(2<k->iV G x=0)) (fun k=>3-k) 0 ⟨ZB,ZA,fun h=>by omega,fun h=>by omega,fun h=>by omega⟩ ?_
    rintro k W' ⟨hk,hW',hr1,hr2,hr3⟩;have hbW':=hbW.step hW';have hnW: ∀j y,nm[j]?=some y->NameF W' kn capn j y:=fun j y hj=>(hn j y hj).below hbW';have hB7':=hB7.next (hW.step hW');have hB8':=hB8.next (hW.step hW');have hB9':=hB9.next (hW.step hW');have hlW:=hl.below hbW';refine ag ?_;refine ai rfl (fun hlt3=> ?_) (fun hge3=> ?_)
    · have hk3:k<3:=by omega
      refine fQ (aD (cO (fU (cO (bE ?_)))));obtain ⟨kf,cp,r,hkf,hen',hcl,z1,z2,z3⟩: ∃(kf:Nat) (cp:List Value) (r:Int),[Value.func (.func 192) #[] #[.pointer (some ⟨g8,0,none⟩)],.func (.func 194) #[] #[.pointer (some ⟨g8,0,none⟩)],.func (.func 195) #[] #[.pointer (some ⟨g9,0,none⟩),.pointer (some ⟨g7,0,none⟩)]][((k:Nat):Int).toNat]?=some (.func (.func kf) #[] cp.toArray)/\enters prog kf=true/\Gives prog kf (.int .i64 (i:Int)::cp).toArray W' (fun u w'=>Below W'.heap.size W' w'/\u= .int .i64 r)/\(k=0->r=iX s)/\(k=1->r=iW nm i s)/\(k=2->r=iV G x):=by
        obtain rfl|rfl|rfl:k=0∨k=1∨k=2:=by omega
        · exact ⟨_,[_],_,rfl,ie192.q,FI (ht.below hbW') hB8' hen (hnW i s hs),fun _=>rfl,fun h=>by omega,fun h=>by omega⟩
        · exact ⟨_,[_],_,rfl,ie194.q,FC hB8' hen hnW hs (by omega),fun h=>by omega,fun _=>rfl,fun h=>by omega⟩
        · exact ⟨_,[_,_],_,rfl,ie195.q,Fw hB9' hB7' heg hlW hx (fun cs X hX hr=>hg i x hx cs X (hbW'.step hX) hr),fun h=>by omega,fun h=>by omega,fun _=>rfl⟩
      refine jP rfl rfl underlying251 io250.q is250.q rfl ct rfl ct (fun _=>by (try dsimp only); omega) (fun _=>hkf) ?_;refine ag ?_;refine bK rfl rfl hen' rfl (aa rfl ct ah) (hcl) ?_;rintro y1 w1 ⟨c1,rfl⟩;refine ag ?_;refine au rfl (fun hne=> ?_) (fun heq=> ?_)
      · have hbad:r≠0:=by simpa using hne
        refine ag ?_;refine aH [0,1,2] _ [.int .i64 kd,.int .i64 (i:Int),.int .i64 r] rfl rfl rfl (aa rfl ct (aa rfl ct (aa rfl ct ah))) (by kernel_rfl) ?_;refine ak 167 _ rfl rfl rfl om (aa rfl ct ah) rfl rfl rfl rfl rfl ?_;rintro g2 w2 f2;have hW1:=(hW.step hW').step c1;refine aK [.int .i64 kd,.int .i64 (i:Int),.int .i64 r] rfl rfl kV rfl (((hO.below hW').below c1).below f2.below) rfl rfl (fun j u hj=>⟨_,rfl,f2.blk.fld hj⟩) (fun u hu=>by simp at hu; rcases hu with rfl|rfl|rfl<;>rfl) (by omega) (by omega) ?_;rintro fv' w3 hO3 hg3 hn3;refine ag ?_;have hW2:=hW1.step f2.below;refine aC (i+1,fv',n+1) ⟨by show i+1<=_; omega,hW2.grown hg3 hW2.size h3,FRow.app (w:=w2) h3 h2 (fun u hu=>by simp at hu; rcases hu with rfl|rfl|rfl<;>rfl) hO3 hn3 hW2.size,by show n+1<=i+1; omega,⟨fun h=>absurd h (Nat.succ_ne_zero n),fun h=> ?_⟩⟩;obtain ⟨q1,q2,q3⟩:=(fw hx hs).1 (h i (by show i<i+1; omega))
        exact absurd (show r = 0 by obtain h | h | h : k = 0 ∨ k = 1 ∨ k = 2 := by omega
                                    · rw [z1 h,q1]
                                    · rw [z2 h,q2]
                                    · rw [z3 h,q3]) hbad
      · have hgood:r=0:=by simpa using heq
        refine ag ?_;refine aC (k+1) ⟨by omega,hW'.step c1,fun _=> ?_,fun _=> ?_,fun _=> ?_⟩
        · by_cases h:k=0
          · rw [<-z1 h,hgood]
          · exact hr1 (by omega)
        · by_cases h:k=1
          · rw [<-z2 h,hgood]
          · exact hr2 (by omega)
        · by_cases h:k=2
          · rw [<-z3 h,hgood]
          · exact hr3 (by omega)
    · have hk3:k=3:=by omega
      subst hk3;refine ag ?_;refine aC (i+1,fv,n) ⟨by show i+1<=_; omega,hW.step hW',⟨zs,hO.below hW',h2,h3⟩,by show n<=i+1; omega,?_⟩;show n=0↔ ∀j,j<i+1->GoodAt nm l G j;rw [hgd];refine ⟨fun h j hj=> ?_,fun h j hj=>h j (by omega)⟩;rcases ZI j i with h'|h'
      · exact h j h'
      · have:j=i:=by omega
        subst this;exact (fw hx hs).2 ⟨hr1 (by omega),hr2 (by omega),hr3 (by omega)⟩
  have hie:i=min l.length lim:=by omega
  have h3: ∀g,fv.ownBlock=some g->w.heap.size<=g:=fun g hg=>Nat.le_trans b11.size (h3 g hg);refine ag ?_;refine aj rfl ((hB7.next hW).cell 0) ?_;refine ag ?_;refine aI [0,1,7,11,12,24,25,49] rfl ?_;refine ai rfl (fun hbig=> ?_) (fun hsmall=> ?_)
  · refine ag ?_
    refine aH [0,1,2] _ [.int .i64 kd,.int .i64 (lim:Int),.int .i64 2] rfl rfl rfl (aa rfl ct (aa rfl ct (aa rfl ct ah))) (by kernel_rfl) ?_;refine ak 167 _ rfl rfl rfl om (aa rfl ct ah) rfl rfl rfl rfl rfl ?_;rintro g2 w2 f2;refine aK [.int .i64 kd,.int .i64 (lim:Int),.int .i64 2] rfl rfl kV rfl (hO.below f2.below) rfl rfl (fun j u hj=>⟨_,rfl,f2.blk.fld hj⟩) (fun u hu=>by simp at hu; rcases hu with rfl|rfl|rfl<;>rfl) (by omega) (by omega) ?_;rintro fv' w3 hO3 hg3 hn3;refine ag ?_;have hb2:=hbW.step f2.below;refine aW rfl ⟨hb2.grown hg3 hb2.size (fun q hq=>h3 q hq),n+1,FRow.app (w:=w2) h3 h2 (fun u hu=>by simp at hu; rcases hu with rfl|rfl|rfl<;>rfl) hO3 hn3 hb2.size,by omega,⟨fun h=>by omega,fun h=> ?_⟩⟩;have:=h.few;omega
  · refine ag ?_
    refine aW rfl ⟨hbW,n,⟨zs,hO,h2,h3⟩,by omega,?_⟩;rw [lz hnl,hgd,hie];exact ⟨fun h=>⟨by omega,h⟩,fun h=>h.2⟩
theorem FD (ht:Tabs w) (hB:Blk w g8 188 [.func (.func kn) #[] capn.toArray]) (hen:enters prog kn=true) (hn:NameF w kn capn i s) :
  Gives prog 196 #[.int .i64 (i:Int),.pointer (some ⟨g8,0,none⟩)] w (ZJ w (.int .i64 (iX s))):=by
 refine gv (f:=196) ?_;refine ag ?_;refine aj rfl (hB.cell 0) ?_;refine ag ?_;refine bK rfl rfl hen rfl (aa rfl ct ah) (hn w ZA) ?_;rintro y1 w1 ⟨c1,rfl⟩;refine aA rfl (mW (ht.below c1)) ?_;rintro y2 w2 ⟨c2,rfl⟩;refine ag ?_;refine au rfl (fun h1=> ?_) (fun h2=> ?_)
 ·refine ag ?_;refine aW rfl ⟨c1.step c2,?_⟩;unfold iX
  cases hq:dec (NameOK keys11 s) with
  | true=>rw [hq] at h1; simp at h1
  | false=>rfl
 ·refine ag ?_;refine aW rfl ⟨c1.step c2,?_⟩;unfold iX
  cases hq:dec (NameOK keys11 s) with
  | true=>rfl
  | false=>rw [hq] at h2; simp at h2
theorem Fx (hB:Blk w g8 188 [.func (.func kn) #[] capn.toArray]) (hen:enters prog kn=true) (hn: ∀j x,nm[j]?=some x->NameF w kn capn j x) (hs:nm[i]?=some s) (hi:i<=1000000) :
  Gives prog 197 #[.int .i64 (i:Int),.pointer (some ⟨g8,0,none⟩)] w (ZJ w (.int .i64 (iW nm i s))):=by
 refine gv (f:=197) ?_;refine ag ?_;refine aJ [0,1,5] (fun k:Nat=> [(6,none,.int .i64 (k:Int))])
  (fun k W=>k<=i/\Below w.heap.size w W/\s ∉ nm.take k) (fun k=>i-k) 0 ⟨ZB,ZA,by simp⟩ ?_
 rintro k W ⟨hk,hW,hno⟩;have hil:=(ZE hs).1;refine ag ?_;refine ai rfl (fun hlt=> ?_) (fun hge=> ?_)
 ·obtain ⟨x,hx,hxm⟩:=bD (l:=nm) (k:=k) (by omega);have hBW:=hB.next hW;refine ag ?_;refine bg mixed (by kernel_rfl) ?_;refine aB rfl (hBW.cell 0) ?_;refine aZ ?_;refine dw (.ex (.string x)) trivial rfl rfl hen rfl ct (ax rfl ct aP) (fun _ w' hb'=>hn k x hx w' (hW.step hb')) ?_;refine aB rfl (hBW.cell 0) ?_;refine aZ ?_;refine dw (.ex (.string s)) trivial rfl rfl hen rfl ct (ax rfl ct aP) (fun _ w' hb'=>hn i s hs w' (hW.step hb')) ?_;refine aZ ?_;rw [uu];refine bR [0,1,4,5,6,15] rfl fun w3 b3=> ?_;refine aD ?_;refine au rfl (fun heq=> ?_) (fun hne=> ?_)
  ·refine ag ?_;refine aW rfl ⟨hW.step b3,?_⟩;have hxs:x=s:=of_decide_eq_true heq;subst hxs;unfold iW;rw [ay (ZF (i:=k) (by rw [List.getElem?_take_of_lt (by omega)]; exact hx))];rfl
  ·refine ag ?_;refine aC (k+1) ⟨by omega,hW.step b3,fun h=> ?_⟩;rw [ZG,hx] at h;rcases ZH h with h|h
   ·exact hno h
   ·simp at h;exact of_decide_eq_false hne h.symm
 ·refine ag ?_;refine aW rfl ⟨hW,?_⟩;have:k=i:=by omega
  subst this;unfold iW;rw [az hno];rfl
theorem Fq {l:List ByteArray} {x:ByteArray} {G:ByteArray->Prop} (hB9:Blk w g9 191 [.func (.func kg) #[] capg.toArray]) (hB7:Blk w g7 24 [v]) (hen:enters prog kg=true) (hl:SL strT F w v l) (hx:l[i]?=some x)
 (hg: ∀cs W,Below w.heap.size w W->strT.rep F W cs x->Gives prog kg (.agg cs.toArray::capg).toArray W fun u W'=>Below W.heap.size W W'/\u= .bool (dec (G x))) :
  Gives prog 198 #[.int .i64 (i:Int),.pointer (some ⟨g9,0,none⟩),.pointer (some ⟨g7,0,none⟩)] w (ZJ w (.int .i64 (iV G x))):=by
 obtain ⟨A,cap,rfl,_⟩:=hl.form;have hil:=(ZE hx).1;have hmax:=hl.len.2.2;obtain ⟨ad,rfl⟩:=hl.addr (by omega);obtain ⟨ad',cs,e1,hF,hrep,hc⟩:=hl.at hx;cases e1;have hrep0:=hrep;obtain ⟨rfl,zz⟩:=hrep;refine gv (f:=198) ?_;refine ag ?_;refine bg mixed (by kernel_rfl) ?_;refine aB rfl (hB9.cell 0) ?_;refine aB rfl (hB7.cell 0) ?_;refine aZ ?_;refine dx rfl (hc) ?_;refine dw (.ex (.bool (dec (G x)))) trivial rfl rfl hen rfl ct (ax rfl ct aP) (fun _ w' hb'=>hg _ w' hb' (strT.mono _ _ _ _ _ (Kept.of_below hb') hrep0)) ?_;refine aZ ?_;refine bR [0,1,2,4,11] rfl fun w3 b3=> ?_;refine aD ?_;refine au rfl (fun h1=> ?_) (fun h2=> ?_)
 ·refine ag ?_;refine aW rfl ⟨b3,?_⟩;unfold iV
  cases hq:dec (G x) with
  | true=>rw [hq] at h1; simp at h1
  | false=>rfl
 ·refine ag ?_;refine aW rfl ⟨b3,?_⟩;unfold iV
  cases hq:dec (G x) with
  | true=>rfl
  | false=>rw [hq] at h2; simp at h2
theorem Bv {l:List ByteArray} {G:ByteArray->Prop} (ht:Tabs w) (hl:SL strT F w v l) (hen:enters prog kn=true) (heg:enters prog kg=true) (hlim:lim<=1000)
 (hnl:nm.length=l.length) (hn: ∀j x,nm[j]?=some x->NameF w kn capn j x) (hg: ∀(i:Nat) (x:ByteArray),l[i]?=some x-> ∀cs W,Below w.heap.size w W->strT.rep F W cs x->Gives prog kg (.agg cs.toArray::capg).toArray W fun u W'=>Below W.heap.size W W'/\u= .bool (dec (G x))) :
    Gives prog 121 #[.int .i64 kd,.int .i64 (lim:Int),v,.func (.func kn) #[] capn.toArray,.func (.func kg) #[] capg.toArray] w fun u w'=>Below w.heap.size w w'/\ ∃n,FRow w' w.heap.size u n/\n<=lim+1/\(n=0↔KindOK keys11 lim nm l G):=by
  obtain ⟨A,cap,rfl,_⟩:=hl.form;have hmax:=hl.len.2.2;refine gv (f:=121) ?_;refine ag ?_;refine aG rfl rfl rfl rfl ?_;rintro g7 w7 f7;refine aG rfl rfl rfl rfl ?_;rintro g8 w8 f8;refine aG rfl rfl rfl rfl ?_;rintro g9 w9 f9;refine ag ?_;refine aN rfl rfl (aa rfl ct ah) ?_;refine aN rfl rfl (aa rfl ct ah) ?_;refine aN rfl rfl (aa rfl ct (aa rfl ct ah)) ?_;have hB7:=(f7.blk.next f8.below).next f9.below;have hB8:=f8.blk.next f9.below;have hB9:=f9.blk;have b9:=(f7.below.step f8.below).step f9.below;refine aH [0,1,2] _ [.func (.func 196) #[] #[.pointer (some ⟨g8,0,none⟩)],.func (.func 197) #[] #[.pointer (some ⟨g8,0,none⟩)],.func (.func 198) #[] #[.pointer (some ⟨g9,0,none⟩),.pointer (some ⟨g7,0,none⟩)]] rfl rfl rfl (aa rfl ct (aa rfl ct (aa rfl ct ah))) (by kernel_rfl) ?_;refine aM rfl xB rfl is251.q rfl rfl ?_;rintro g11 w11 f11;refine ag ?_;have hB7:=(hB7.next f11.below);have hB8:=(hB8.next f11.below);have hB9:=(hB9.next f11.below);have hB11:=f11.blk;have b11:=b9.step f11.below;refine aj rfl (hB7.cell 0) ?_;refine ag ?_;refine aT kD rfl ⟨ct,ct,trivial⟩ (fun _=>trivial) ?_;refine ag ?_;refine aJ [0,1,7,11,24] (fun z:Nat×Value×Nat=> [(12,none,z.2.1),(25,none,.int .i64 (z.1:Int))])
    (fun z W=>z.1<=min l.length lim/\Below w11.heap.size w11 W/\FRow W w11.heap.size z.2.1 z.2.2/\z.2.2<=z.1/\(z.2.2=0↔ ∀j,j<z.1->GoodAt nm l G j)) (fun z=>min l.length lim-z.1) (0,.slice none 0 0,0) ⟨ZB,ZA,FRow.nil _ _,ZC,⟨fun _ j hj=>by omega,fun _=>rfl⟩⟩ ?_
  rintro ⟨i,fv,n⟩ W ⟨hi,hW,⟨zs,hO,h2,h3⟩,hni,hgd⟩;dsimp only at hi hO h3 hni hgd;have hbW:=b11.step hW;refine ag ?_;refine aI [0,1,7,11,12,24,25,26] rfl ?_;refine ai rfl (fun hlt=> ?_) (fun hge=> ?_)
  · obtain ⟨x,hx,hxm⟩:=bD (l:=l) (k:=i) (by omega)
    obtain ⟨s,hs,hsm⟩:=bD (l:=nm) (k:=i) (by omega);have hB11W:=hB11.next hW;refine ag ?_;refine kE _ rfl rfl underlying251 is251.q rfl ct (fun _=>(fun _ _ hv=>hB11W.fld hv)) rfl ?_;refine ag ?_;refine aJ [0,1,7,11,12,13,24,25,28] (fun k:Nat=> [(29,none,.int .i64 (k:Int))])
      (fun k W'=>k<=3/\Below W.heap.size W W'/\(0<k->iX s=0)/\(1<k->iW nm i s=0)/\(2<k->iV G x=0)) (fun k=>3-k) 0 ⟨ZB,ZA,fun h=>by omega,fun h=>by omega,fun h=>by omega⟩ ?_
    rintro k W' ⟨hk,hW',hr1,hr2,hr3⟩;have hbW':=hbW.step hW';have hnW: ∀j y,nm[j]?=some y->NameF W' kn capn j y:=fun j y hj=>(hn j y hj).below hbW';have hB7':=hB7.next (hW.step hW');have hB8':=hB8.next (hW.step hW');have hB9':=hB9.next (hW.step hW');have hlW:=hl.below hbW';refine ag ?_;refine ai rfl (fun hlt3=> ?_) (fun hge3=> ?_)
    · have hk3:k<3:=by omega
      refine fQ (aD (cO (fU (cO (bE ?_)))));obtain ⟨kf,cp,r,hkf,hen',hcl,z1,z2,z3⟩: ∃(kf:Nat) (cp:List Value) (r:Int),[Value.func (.func 196) #[] #[.pointer (some ⟨g8,0,none⟩)],.func (.func 197) #[] #[.pointer (some ⟨g8,0,none⟩)],.func (.func 198) #[] #[.pointer (some ⟨g9,0,none⟩),.pointer (some ⟨g7,0,none⟩)]][((k:Nat):Int).toNat]?=some (.func (.func kf) #[] cp.toArray)/\enters prog kf=true/\Gives prog kf (.int .i64 (i:Int)::cp).toArray W' (fun u w'=>Below W'.heap.size W' w'/\u= .int .i64 r)/\(k=0->r=iX s)/\(k=1->r=iW nm i s)/\(k=2->r=iV G x):=by
        obtain rfl|rfl|rfl:k=0∨k=1∨k=2:=by omega
        · exact ⟨_,[_],_,rfl,ie196.q,FD (ht.below hbW') hB8' hen (hnW i s hs),fun _=>rfl,fun h=>by omega,fun h=>by omega⟩
        · exact ⟨_,[_],_,rfl,ie197.q,Fx hB8' hen hnW hs (by omega),fun h=>by omega,fun _=>rfl,fun h=>by omega⟩
        · exact ⟨_,[_,_],_,rfl,ie198.q,Fq hB9' hB7' heg hlW hx (fun cs X hX hr=>hg i x hx cs X (hbW'.step hX) hr),fun h=>by omega,fun h=>by omega,fun _=>rfl⟩
      refine jP rfl rfl underlying251 io250.q is250.q rfl ct rfl ct (fun _=>by (try dsimp only); omega) (fun _=>hkf) ?_;refine ag ?_;refine bK rfl rfl hen' rfl (aa rfl ct ah) (hcl) ?_;rintro y1 w1 ⟨c1,rfl⟩;refine ag ?_;refine au rfl (fun hne=> ?_) (fun heq=> ?_)
      · have hbad:r≠0:=by simpa using hne
        refine ag ?_;refine aH [0,1,2] _ [.int .i64 kd,.int .i64 (i:Int),.int .i64 r] rfl rfl rfl (aa rfl ct (aa rfl ct (aa rfl ct ah))) (by kernel_rfl) ?_;refine ak 167 _ rfl rfl rfl om (aa rfl ct ah) rfl rfl rfl rfl rfl ?_;rintro g2 w2 f2;have hW1:=(hW.step hW').step c1;refine aK [.int .i64 kd,.int .i64 (i:Int),.int .i64 r] rfl rfl kV rfl (((hO.below hW').below c1).below f2.below) rfl rfl (fun j u hj=>⟨_,rfl,f2.blk.fld hj⟩) (fun u hu=>by simp at hu; rcases hu with rfl|rfl|rfl<;>rfl) (by omega) (by omega) ?_;rintro fv' w3 hO3 hg3 hn3;refine ag ?_;have hW2:=hW1.step f2.below;refine aC (i+1,fv',n+1) ⟨by show i+1<=_; omega,hW2.grown hg3 hW2.size h3,FRow.app (w:=w2) h3 h2 (fun u hu=>by simp at hu; rcases hu with rfl|rfl|rfl<;>rfl) hO3 hn3 hW2.size,by show n+1<=i+1; omega,⟨fun h=>absurd h (Nat.succ_ne_zero n),fun h=> ?_⟩⟩;obtain ⟨q1,q2,q3⟩:=(fw hx hs).1 (h i (by show i<i+1; omega))
        exact absurd (show r = 0 by obtain h | h | h : k = 0 ∨ k = 1 ∨ k = 2 := by omega
                                    · rw [z1 h,q1]
                                    · rw [z2 h,q2]
                                    · rw [z3 h,q3]) hbad
      · have hgood:r=0:=by simpa using heq
        refine ag ?_;refine aC (k+1) ⟨by omega,hW'.step c1,fun _=> ?_,fun _=> ?_,fun _=> ?_⟩
        · by_cases h:k=0
          · rw [<-z1 h,hgood]
          · exact hr1 (by omega)
        · by_cases h:k=1
          · rw [<-z2 h,hgood]
          · exact hr2 (by omega)
        · by_cases h:k=2
          · rw [<-z3 h,hgood]
          · exact hr3 (by omega)
    · have hk3:k=3:=by omega
      subst hk3;refine ag ?_;refine aC (i+1,fv,n) ⟨by show i+1<=_; omega,hW.step hW',⟨zs,hO.below hW',h2,h3⟩,by show n<=i+1; omega,?_⟩;show n=0↔ ∀j,j<i+1->GoodAt nm l G j;rw [hgd];refine ⟨fun h j hj=> ?_,fun h j hj=>h j (by omega)⟩;rcases ZI j i with h'|h'
      · exact h j h'
      · have:j=i:=by omega
        subst this;exact (fw hx hs).2 ⟨hr1 (by omega),hr2 (by omega),hr3 (by omega)⟩
  have hie:i=min l.length lim:=by omega
  have h3: ∀g,fv.ownBlock=some g->w.heap.size<=g:=fun g hg=>Nat.le_trans b11.size (h3 g hg);refine ag ?_;refine aj rfl ((hB7.next hW).cell 0) ?_;refine ag ?_;refine aI [0,1,7,11,12,24,25,49] rfl ?_;refine ai rfl (fun hbig=> ?_) (fun hsmall=> ?_)
  · refine ag ?_
    refine aH [0,1,2] _ [.int .i64 kd,.int .i64 (lim:Int),.int .i64 2] rfl rfl rfl (aa rfl ct (aa rfl ct (aa rfl ct ah))) (by kernel_rfl) ?_;refine ak 167 _ rfl rfl rfl om (aa rfl ct ah) rfl rfl rfl rfl rfl ?_;rintro g2 w2 f2;refine aK [.int .i64 kd,.int .i64 (lim:Int),.int .i64 2] rfl rfl kV rfl (hO.below f2.below) rfl rfl (fun j u hj=>⟨_,rfl,f2.blk.fld hj⟩) (fun u hu=>by simp at hu; rcases hu with rfl|rfl|rfl<;>rfl) (by omega) (by omega) ?_;rintro fv' w3 hO3 hg3 hn3;refine ag ?_;have hb2:=hbW.step f2.below;refine aW rfl ⟨hb2.grown hg3 hb2.size (fun q hq=>h3 q hq),n+1,FRow.app (w:=w2) h3 h2 (fun u hu=>by simp at hu; rcases hu with rfl|rfl|rfl<;>rfl) hO3 hn3 hb2.size,by omega,⟨fun h=>by omega,fun h=> ?_⟩⟩;have:=h.few;omega
  · refine ag ?_
    refine aW rfl ⟨hbW,n,⟨zs,hO,h2,h3⟩,by omega,?_⟩;rw [lz hnl,hgd,hie];exact ⟨fun h=>⟨by omega,h⟩,fun h=>h.2⟩
theorem FE (ht:Tabs w) (hB:Blk w g8 188 [.func (.func kn) #[] capn.toArray]) (hen:enters prog kn=true) (hn:NameF w kn capn i s) :
  Gives prog 199 #[.int .i64 (i:Int),.pointer (some ⟨g8,0,none⟩)] w (ZJ w (.int .i64 (iX s))):=by
 refine gv (f:=199) ?_;refine ag ?_;refine aj rfl (hB.cell 0) ?_;refine ag ?_;refine bK rfl rfl hen rfl (aa rfl ct ah) (hn w ZA) ?_;rintro y1 w1 ⟨c1,rfl⟩;refine aA rfl (mW (ht.below c1)) ?_;rintro y2 w2 ⟨c2,rfl⟩;refine ag ?_;refine au rfl (fun h1=> ?_) (fun h2=> ?_)
 ·refine ag ?_;refine aW rfl ⟨c1.step c2,?_⟩;unfold iX
  cases hq:dec (NameOK keys11 s) with
  | true=>rw [hq] at h1; simp at h1
  | false=>rfl
 ·refine ag ?_;refine aW rfl ⟨c1.step c2,?_⟩;unfold iX
  cases hq:dec (NameOK keys11 s) with
  | true=>rfl
  | false=>rw [hq] at h2; simp at h2
theorem Fy (hB:Blk w g8 188 [.func (.func kn) #[] capn.toArray]) (hen:enters prog kn=true) (hn: ∀j x,nm[j]?=some x->NameF w kn capn j x) (hs:nm[i]?=some s) (hi:i<=1000000) :
  Gives prog 200 #[.int .i64 (i:Int),.pointer (some ⟨g8,0,none⟩)] w (ZJ w (.int .i64 (iW nm i s))):=by
 refine gv (f:=200) ?_;refine ag ?_;refine aJ [0,1,5] (fun k:Nat=> [(6,none,.int .i64 (k:Int))])
  (fun k W=>k<=i/\Below w.heap.size w W/\s ∉ nm.take k) (fun k=>i-k) 0 ⟨ZB,ZA,by simp⟩ ?_
 rintro k W ⟨hk,hW,hno⟩;have hil:=(ZE hs).1;refine ag ?_;refine ai rfl (fun hlt=> ?_) (fun hge=> ?_)
 ·obtain ⟨x,hx,hxm⟩:=bD (l:=nm) (k:=k) (by omega);have hBW:=hB.next hW;refine ag ?_;refine bg mixed (by kernel_rfl) ?_;refine aB rfl (hBW.cell 0) ?_;refine aZ ?_;refine dw (.ex (.string x)) trivial rfl rfl hen rfl ct (ax rfl ct aP) (fun _ w' hb'=>hn k x hx w' (hW.step hb')) ?_;refine aB rfl (hBW.cell 0) ?_;refine aZ ?_;refine dw (.ex (.string s)) trivial rfl rfl hen rfl ct (ax rfl ct aP) (fun _ w' hb'=>hn i s hs w' (hW.step hb')) ?_;refine aZ ?_;rw [uu];refine bR [0,1,4,5,6,15] rfl fun w3 b3=> ?_;refine aD ?_;refine au rfl (fun heq=> ?_) (fun hne=> ?_)
  ·refine ag ?_;refine aW rfl ⟨hW.step b3,?_⟩;have hxs:x=s:=of_decide_eq_true heq;subst hxs;unfold iW;rw [ay (ZF (i:=k) (by rw [List.getElem?_take_of_lt (by omega)]; exact hx))];rfl
  ·refine ag ?_;refine aC (k+1) ⟨by omega,hW.step b3,fun h=> ?_⟩;rw [ZG,hx] at h;rcases ZH h with h|h
   ·exact hno h
   ·simp at h;exact of_decide_eq_false hne h.symm
 ·refine ag ?_;refine aW rfl ⟨hW,?_⟩;have:k=i:=by omega
  subst this;unfold iW;rw [az hno];rfl
theorem Fs {l:List Of} {x:Of} {G:Of->Prop} (hB9:Blk w g9 194 [.func (.func kg) #[] capg.toArray]) (hB7:Blk w g7 25 [v]) (hen:enters prog kg=true) (hl:SL ofT F w v l) (hx:l[i]?=some x)
 (hg: ∀cs W,Below w.heap.size w W->ofT.rep F W cs x->Gives prog kg (.agg cs.toArray::capg).toArray W fun u W'=>Below W.heap.size W W'/\u= .bool (dec (G x))) :
  Gives prog 201 #[.int .i64 (i:Int),.pointer (some ⟨g9,0,none⟩),.pointer (some ⟨g7,0,none⟩)] w (ZJ w (.int .i64 (iV G x))):=by
 obtain ⟨A,cap,rfl,_⟩:=hl.form;have hil:=(ZE hx).1;have hmax:=hl.len.2.2;obtain ⟨ad,rfl⟩:=hl.addr (by omega);obtain ⟨ad',cs,e1,hF,hrep,hc⟩:=hl.at hx;cases e1;have hrep0:=hrep;obtain ⟨zv,rfl,zz⟩:=hrep;refine gv (f:=201) ?_;refine ag ?_;refine bg mixed (by kernel_rfl) ?_;refine aB rfl (hB9.cell 0) ?_;refine aB rfl (hB7.cell 0) ?_;refine aZ ?_;refine dx rfl (hc) ?_;refine dw (.ex (.bool (dec (G x)))) trivial rfl rfl hen rfl ct (ax rfl ct aP) (fun _ w' hb'=>hg _ w' hb' (ofT.mono _ _ _ _ _ (Kept.of_below hb') hrep0)) ?_;refine aZ ?_;refine bR [0,1,2,4,11] rfl fun w3 b3=> ?_;refine aD ?_;refine au rfl (fun h1=> ?_) (fun h2=> ?_)
 ·refine ag ?_;refine aW rfl ⟨b3,?_⟩;unfold iV
  cases hq:dec (G x) with
  | true=>rw [hq] at h1; simp at h1
  | false=>rfl
 ·refine ag ?_;refine aW rfl ⟨b3,?_⟩;unfold iV
  cases hq:dec (G x) with
  | true=>rfl
  | false=>rw [hq] at h2; simp at h2
theorem Bw {l:List Of} {G:Of->Prop} (ht:Tabs w) (hl:SL ofT F w v l) (hen:enters prog kn=true) (heg:enters prog kg=true) (hlim:lim<=1000)
 (hnl:nm.length=l.length) (hn: ∀j x,nm[j]?=some x->NameF w kn capn j x) (hg: ∀(i:Nat) (x:Of),l[i]?=some x-> ∀cs W,Below w.heap.size w W->ofT.rep F W cs x->Gives prog kg (.agg cs.toArray::capg).toArray W fun u W'=>Below W.heap.size W W'/\u= .bool (dec (G x))) :
    Gives prog 124 #[.int .i64 kd,.int .i64 (lim:Int),v,.func (.func kn) #[] capn.toArray,.func (.func kg) #[] capg.toArray] w fun u w'=>Below w.heap.size w w'/\ ∃n,FRow w' w.heap.size u n/\n<=lim+1/\(n=0↔KindOK keys11 lim nm l G):=by
  obtain ⟨A,cap,rfl,_⟩:=hl.form;have hmax:=hl.len.2.2;refine gv (f:=124) ?_;refine ag ?_;refine aG rfl rfl rfl rfl ?_;rintro g7 w7 f7;refine aG rfl rfl rfl rfl ?_;rintro g8 w8 f8;refine aG rfl rfl rfl rfl ?_;rintro g9 w9 f9;refine ag ?_;refine aN rfl rfl (aa rfl ct ah) ?_;refine aN rfl rfl (aa rfl ct ah) ?_;refine aN rfl rfl (aa rfl ct (aa rfl ct ah)) ?_;have hB7:=(f7.blk.next f8.below).next f9.below;have hB8:=f8.blk.next f9.below;have hB9:=f9.blk;have b9:=(f7.below.step f8.below).step f9.below;refine aH [0,1,2] _ [.func (.func 199) #[] #[.pointer (some ⟨g8,0,none⟩)],.func (.func 200) #[] #[.pointer (some ⟨g8,0,none⟩)],.func (.func 201) #[] #[.pointer (some ⟨g9,0,none⟩),.pointer (some ⟨g7,0,none⟩)]] rfl rfl rfl (aa rfl ct (aa rfl ct (aa rfl ct ah))) (by kernel_rfl) ?_;refine aM rfl xB rfl is251.q rfl rfl ?_;rintro g11 w11 f11;refine ag ?_;have hB7:=(hB7.next f11.below);have hB8:=(hB8.next f11.below);have hB9:=(hB9.next f11.below);have hB11:=f11.blk;have b11:=b9.step f11.below;refine aj rfl (hB7.cell 0) ?_;refine ag ?_;refine aT kD rfl ⟨ct,ct,trivial⟩ (fun _=>trivial) ?_;refine ag ?_;refine aJ [0,1,7,11,24] (fun z:Nat×Value×Nat=> [(12,none,z.2.1),(25,none,.int .i64 (z.1:Int))])
    (fun z W=>z.1<=min l.length lim/\Below w11.heap.size w11 W/\FRow W w11.heap.size z.2.1 z.2.2/\z.2.2<=z.1/\(z.2.2=0↔ ∀j,j<z.1->GoodAt nm l G j)) (fun z=>min l.length lim-z.1) (0,.slice none 0 0,0) ⟨ZB,ZA,FRow.nil _ _,ZC,⟨fun _ j hj=>by omega,fun _=>rfl⟩⟩ ?_
  rintro ⟨i,fv,n⟩ W ⟨hi,hW,⟨zs,hO,h2,h3⟩,hni,hgd⟩;dsimp only at hi hO h3 hni hgd;have hbW:=b11.step hW;refine ag ?_;refine aI [0,1,7,11,12,24,25,26] rfl ?_;refine ai rfl (fun hlt=> ?_) (fun hge=> ?_)
  · obtain ⟨x,hx,hxm⟩:=bD (l:=l) (k:=i) (by omega)
    obtain ⟨s,hs,hsm⟩:=bD (l:=nm) (k:=i) (by omega);have hB11W:=hB11.next hW;refine ag ?_;refine kE _ rfl rfl underlying251 is251.q rfl ct (fun _=>(fun _ _ hv=>hB11W.fld hv)) rfl ?_;refine ag ?_;refine aJ [0,1,7,11,12,13,24,25,28] (fun k:Nat=> [(29,none,.int .i64 (k:Int))])
      (fun k W'=>k<=3/\Below W.heap.size W W'/\(0<k->iX s=0)/\(1<k->iW nm i s=0)/\(2<k->iV G x=0)) (fun k=>3-k) 0 ⟨ZB,ZA,fun h=>by omega,fun h=>by omega,fun h=>by omega⟩ ?_
    rintro k W' ⟨hk,hW',hr1,hr2,hr3⟩;have hbW':=hbW.step hW';have hnW: ∀j y,nm[j]?=some y->NameF W' kn capn j y:=fun j y hj=>(hn j y hj).below hbW';have hB7':=hB7.next (hW.step hW');have hB8':=hB8.next (hW.step hW');have hB9':=hB9.next (hW.step hW');have hlW:=hl.below hbW';refine ag ?_;refine ai rfl (fun hlt3=> ?_) (fun hge3=> ?_)
    · have hk3:k<3:=by omega
      refine fQ (aD (cO (fU (cO (bE ?_)))));obtain ⟨kf,cp,r,hkf,hen',hcl,z1,z2,z3⟩: ∃(kf:Nat) (cp:List Value) (r:Int),[Value.func (.func 199) #[] #[.pointer (some ⟨g8,0,none⟩)],.func (.func 200) #[] #[.pointer (some ⟨g8,0,none⟩)],.func (.func 201) #[] #[.pointer (some ⟨g9,0,none⟩),.pointer (some ⟨g7,0,none⟩)]][((k:Nat):Int).toNat]?=some (.func (.func kf) #[] cp.toArray)/\enters prog kf=true/\Gives prog kf (.int .i64 (i:Int)::cp).toArray W' (fun u w'=>Below W'.heap.size W' w'/\u= .int .i64 r)/\(k=0->r=iX s)/\(k=1->r=iW nm i s)/\(k=2->r=iV G x):=by
        obtain rfl|rfl|rfl:k=0∨k=1∨k=2:=by omega
        · exact ⟨_,[_],_,rfl,ie199.q,FE (ht.below hbW') hB8' hen (hnW i s hs),fun _=>rfl,fun h=>by omega,fun h=>by omega⟩
        · exact ⟨_,[_],_,rfl,ie200.q,Fy hB8' hen hnW hs (by omega),fun h=>by omega,fun _=>rfl,fun h=>by omega⟩
        · exact ⟨_,[_,_],_,rfl,ie201.q,Fs hB9' hB7' heg hlW hx (fun cs X hX hr=>hg i x hx cs X (hbW'.step hX) hr),fun h=>by omega,fun h=>by omega,fun _=>rfl⟩
      refine jP rfl rfl underlying251 io250.q is250.q rfl ct rfl ct (fun _=>by (try dsimp only); omega) (fun _=>hkf) ?_;refine ag ?_;refine bK rfl rfl hen' rfl (aa rfl ct ah) (hcl) ?_;rintro y1 w1 ⟨c1,rfl⟩;refine ag ?_;refine au rfl (fun hne=> ?_) (fun heq=> ?_)
      · have hbad:r≠0:=by simpa using hne
        refine ag ?_;refine aH [0,1,2] _ [.int .i64 kd,.int .i64 (i:Int),.int .i64 r] rfl rfl rfl (aa rfl ct (aa rfl ct (aa rfl ct ah))) (by kernel_rfl) ?_;refine ak 167 _ rfl rfl rfl om (aa rfl ct ah) rfl rfl rfl rfl rfl ?_;rintro g2 w2 f2;have hW1:=(hW.step hW').step c1;refine aK [.int .i64 kd,.int .i64 (i:Int),.int .i64 r] rfl rfl kV rfl (((hO.below hW').below c1).below f2.below) rfl rfl (fun j u hj=>⟨_,rfl,f2.blk.fld hj⟩) (fun u hu=>by simp at hu; rcases hu with rfl|rfl|rfl<;>rfl) (by omega) (by omega) ?_;rintro fv' w3 hO3 hg3 hn3;refine ag ?_;have hW2:=hW1.step f2.below;refine aC (i+1,fv',n+1) ⟨by show i+1<=_; omega,hW2.grown hg3 hW2.size h3,FRow.app (w:=w2) h3 h2 (fun u hu=>by simp at hu; rcases hu with rfl|rfl|rfl<;>rfl) hO3 hn3 hW2.size,by show n+1<=i+1; omega,⟨fun h=>absurd h (Nat.succ_ne_zero n),fun h=> ?_⟩⟩;obtain ⟨q1,q2,q3⟩:=(fw hx hs).1 (h i (by show i<i+1; omega))
        exact absurd (show r = 0 by obtain h | h | h : k = 0 ∨ k = 1 ∨ k = 2 := by omega
                                    · rw [z1 h,q1]
                                    · rw [z2 h,q2]
                                    · rw [z3 h,q3]) hbad
      · have hgood:r=0:=by simpa using heq
        refine ag ?_;refine aC (k+1) ⟨by omega,hW'.step c1,fun _=> ?_,fun _=> ?_,fun _=> ?_⟩
        · by_cases h:k=0
          · rw [<-z1 h,hgood]
          · exact hr1 (by omega)
        · by_cases h:k=1
          · rw [<-z2 h,hgood]
          · exact hr2 (by omega)
        · by_cases h:k=2
          · rw [<-z3 h,hgood]
          · exact hr3 (by omega)
    · have hk3:k=3:=by omega
      subst hk3;refine ag ?_;refine aC (i+1,fv,n) ⟨by show i+1<=_; omega,hW.step hW',⟨zs,hO.below hW',h2,h3⟩,by show n<=i+1; omega,?_⟩;show n=0↔ ∀j,j<i+1->GoodAt nm l G j;rw [hgd];refine ⟨fun h j hj=> ?_,fun h j hj=>h j (by omega)⟩;rcases ZI j i with h'|h'
      · exact h j h'
      · have:j=i:=by omega
        subst this;exact (fw hx hs).2 ⟨hr1 (by omega),hr2 (by omega),hr3 (by omega)⟩
  have hie:i=min l.length lim:=by omega
  have h3: ∀g,fv.ownBlock=some g->w.heap.size<=g:=fun g hg=>Nat.le_trans b11.size (h3 g hg);refine ag ?_;refine aj rfl ((hB7.next hW).cell 0) ?_;refine ag ?_;refine aI [0,1,7,11,12,24,25,49] rfl ?_;refine ai rfl (fun hbig=> ?_) (fun hsmall=> ?_)
  · refine ag ?_
    refine aH [0,1,2] _ [.int .i64 kd,.int .i64 (lim:Int),.int .i64 2] rfl rfl rfl (aa rfl ct (aa rfl ct (aa rfl ct ah))) (by kernel_rfl) ?_;refine ak 167 _ rfl rfl rfl om (aa rfl ct ah) rfl rfl rfl rfl rfl ?_;rintro g2 w2 f2;refine aK [.int .i64 kd,.int .i64 (lim:Int),.int .i64 2] rfl rfl kV rfl (hO.below f2.below) rfl rfl (fun j u hj=>⟨_,rfl,f2.blk.fld hj⟩) (fun u hu=>by simp at hu; rcases hu with rfl|rfl|rfl<;>rfl) (by omega) (by omega) ?_;rintro fv' w3 hO3 hg3 hn3;refine ag ?_;have hb2:=hbW.step f2.below;refine aW rfl ⟨hb2.grown hg3 hb2.size (fun q hq=>h3 q hq),n+1,FRow.app (w:=w2) h3 h2 (fun u hu=>by simp at hu; rcases hu with rfl|rfl|rfl<;>rfl) hO3 hn3 hb2.size,by omega,⟨fun h=>by omega,fun h=> ?_⟩⟩;have:=h.few;omega
  · refine ag ?_
    refine aW rfl ⟨hbW,n,⟨zs,hO,h2,h3⟩,by omega,?_⟩;rw [lz hnl,hgd,hie];exact ⟨fun h=>⟨by omega,h⟩,fun h=>h.2⟩
theorem FF (ht:Tabs w) (hB:Blk w g8 188 [.func (.func kn) #[] capn.toArray]) (hen:enters prog kn=true) (hn:NameF w kn capn i s) :
  Gives prog 206 #[.int .i64 (i:Int),.pointer (some ⟨g8,0,none⟩)] w (ZJ w (.int .i64 (iX s))):=by
 refine gv (f:=206) ?_;refine ag ?_;refine aj rfl (hB.cell 0) ?_;refine ag ?_;refine bK rfl rfl hen rfl (aa rfl ct ah) (hn w ZA) ?_;rintro y1 w1 ⟨c1,rfl⟩;refine aA rfl (mW (ht.below c1)) ?_;rintro y2 w2 ⟨c2,rfl⟩;refine ag ?_;refine au rfl (fun h1=> ?_) (fun h2=> ?_)
 ·refine ag ?_;refine aW rfl ⟨c1.step c2,?_⟩;unfold iX
  cases hq:dec (NameOK keys11 s) with
  | true=>rw [hq] at h1; simp at h1
  | false=>rfl
 ·refine ag ?_;refine aW rfl ⟨c1.step c2,?_⟩;unfold iX
  cases hq:dec (NameOK keys11 s) with
  | true=>rfl
  | false=>rw [hq] at h2; simp at h2
theorem Fz (hB:Blk w g8 188 [.func (.func kn) #[] capn.toArray]) (hen:enters prog kn=true) (hn: ∀j x,nm[j]?=some x->NameF w kn capn j x) (hs:nm[i]?=some s) (hi:i<=1000000) :
  Gives prog 207 #[.int .i64 (i:Int),.pointer (some ⟨g8,0,none⟩)] w (ZJ w (.int .i64 (iW nm i s))):=by
 refine gv (f:=207) ?_;refine ag ?_;refine aJ [0,1,5] (fun k:Nat=> [(6,none,.int .i64 (k:Int))])
  (fun k W=>k<=i/\Below w.heap.size w W/\s ∉ nm.take k) (fun k=>i-k) 0 ⟨ZB,ZA,by simp⟩ ?_
 rintro k W ⟨hk,hW,hno⟩;have hil:=(ZE hs).1;refine ag ?_;refine ai rfl (fun hlt=> ?_) (fun hge=> ?_)
 ·obtain ⟨x,hx,hxm⟩:=bD (l:=nm) (k:=k) (by omega);have hBW:=hB.next hW;refine ag ?_;refine bg mixed (by kernel_rfl) ?_;refine aB rfl (hBW.cell 0) ?_;refine aZ ?_;refine dw (.ex (.string x)) trivial rfl rfl hen rfl ct (ax rfl ct aP) (fun _ w' hb'=>hn k x hx w' (hW.step hb')) ?_;refine aB rfl (hBW.cell 0) ?_;refine aZ ?_;refine dw (.ex (.string s)) trivial rfl rfl hen rfl ct (ax rfl ct aP) (fun _ w' hb'=>hn i s hs w' (hW.step hb')) ?_;refine aZ ?_;rw [uu];refine bR [0,1,4,5,6,15] rfl fun w3 b3=> ?_;refine aD ?_;refine au rfl (fun heq=> ?_) (fun hne=> ?_)
  ·refine ag ?_;refine aW rfl ⟨hW.step b3,?_⟩;have hxs:x=s:=of_decide_eq_true heq;subst hxs;unfold iW;rw [ay (ZF (i:=k) (by rw [List.getElem?_take_of_lt (by omega)]; exact hx))];rfl
  ·refine ag ?_;refine aC (k+1) ⟨by omega,hW.step b3,fun h=> ?_⟩;rw [ZG,hx] at h;rcases ZH h with h|h
   ·exact hno h
   ·simp at h;exact of_decide_eq_false hne h.symm
 ·refine ag ?_;refine aW rfl ⟨hW,?_⟩;have:k=i:=by omega
  subst this;unfold iW;rw [az hno];rfl
theorem Fu {l:List Li} {x:Li} {G:Li->Prop} (hB9:Blk w g9 197 [.func (.func kg) #[] capg.toArray]) (hB7:Blk w g7 26 [v]) (hen:enters prog kg=true) (hl:SL liT F w v l) (hx:l[i]?=some x)
 (hg: ∀cs W,Below w.heap.size w W->liT.rep F W cs x->Gives prog kg (.agg cs.toArray::capg).toArray W fun u W'=>Below W.heap.size W W'/\u= .bool (dec (G x))) :
  Gives prog 208 #[.int .i64 (i:Int),.pointer (some ⟨g9,0,none⟩),.pointer (some ⟨g7,0,none⟩)] w (ZJ w (.int .i64 (iV G x))):=by
 obtain ⟨A,cap,rfl,_⟩:=hl.form;have hil:=(ZE hx).1;have hmax:=hl.len.2.2;obtain ⟨ad,rfl⟩:=hl.addr (by omega);obtain ⟨ad',cs,e1,hF,hrep,hc⟩:=hl.at hx;cases e1;have hrep0:=hrep;obtain ⟨rfl,zz⟩:=hrep;refine gv (f:=208) ?_;refine ag ?_;refine bg mixed (by kernel_rfl) ?_;refine aB rfl (hB9.cell 0) ?_;refine aB rfl (hB7.cell 0) ?_;refine aZ ?_;refine dx rfl (hc) ?_;refine dw (.ex (.bool (dec (G x)))) trivial rfl rfl hen rfl ct (ax rfl ct aP) (fun _ w' hb'=>hg _ w' hb' (liT.mono _ _ _ _ _ (Kept.of_below hb') hrep0)) ?_;refine aZ ?_;refine bR [0,1,2,4,11] rfl fun w3 b3=> ?_;refine aD ?_;refine au rfl (fun h1=> ?_) (fun h2=> ?_)
 ·refine ag ?_;refine aW rfl ⟨b3,?_⟩;unfold iV
  cases hq:dec (G x) with
  | true=>rw [hq] at h1; simp at h1
  | false=>rfl
 ·refine ag ?_;refine aW rfl ⟨b3,?_⟩;unfold iV
  cases hq:dec (G x) with
  | true=>rfl
  | false=>rw [hq] at h2; simp at h2
theorem Bz {l:List Li} {G:Li->Prop} (ht:Tabs w) (hl:SL liT F w v l) (hen:enters prog kn=true) (heg:enters prog kg=true) (hlim:lim<=1000)
 (hnl:nm.length=l.length) (hn: ∀j x,nm[j]?=some x->NameF w kn capn j x) (hg: ∀(i:Nat) (x:Li),l[i]?=some x-> ∀cs W,Below w.heap.size w W->liT.rep F W cs x->Gives prog kg (.agg cs.toArray::capg).toArray W fun u W'=>Below W.heap.size W W'/\u= .bool (dec (G x))) :
    Gives prog 128 #[.int .i64 kd,.int .i64 (lim:Int),v,.func (.func kn) #[] capn.toArray,.func (.func kg) #[] capg.toArray] w fun u w'=>Below w.heap.size w w'/\ ∃n,FRow w' w.heap.size u n/\n<=lim+1/\(n=0↔KindOK keys11 lim nm l G):=by
  obtain ⟨A,cap,rfl,_⟩:=hl.form;have hmax:=hl.len.2.2;refine gv (f:=128) ?_;refine ag ?_;refine aG rfl rfl rfl rfl ?_;rintro g7 w7 f7;refine aG rfl rfl rfl rfl ?_;rintro g8 w8 f8;refine aG rfl rfl rfl rfl ?_;rintro g9 w9 f9;refine ag ?_;refine aN rfl rfl (aa rfl ct ah) ?_;refine aN rfl rfl (aa rfl ct ah) ?_;refine aN rfl rfl (aa rfl ct (aa rfl ct ah)) ?_;have hB7:=(f7.blk.next f8.below).next f9.below;have hB8:=f8.blk.next f9.below;have hB9:=f9.blk;have b9:=(f7.below.step f8.below).step f9.below;refine aH [0,1,2] _ [.func (.func 206) #[] #[.pointer (some ⟨g8,0,none⟩)],.func (.func 207) #[] #[.pointer (some ⟨g8,0,none⟩)],.func (.func 208) #[] #[.pointer (some ⟨g9,0,none⟩),.pointer (some ⟨g7,0,none⟩)]] rfl rfl rfl (aa rfl ct (aa rfl ct (aa rfl ct ah))) (by kernel_rfl) ?_;refine aM rfl xB rfl is251.q rfl rfl ?_;rintro g11 w11 f11;refine ag ?_;have hB7:=(hB7.next f11.below);have hB8:=(hB8.next f11.below);have hB9:=(hB9.next f11.below);have hB11:=f11.blk;have b11:=b9.step f11.below;refine aj rfl (hB7.cell 0) ?_;refine ag ?_;refine aT kD rfl ⟨ct,ct,trivial⟩ (fun _=>trivial) ?_;refine ag ?_;refine aJ [0,1,7,11,24] (fun z:Nat×Value×Nat=> [(12,none,z.2.1),(25,none,.int .i64 (z.1:Int))])
    (fun z W=>z.1<=min l.length lim/\Below w11.heap.size w11 W/\FRow W w11.heap.size z.2.1 z.2.2/\z.2.2<=z.1/\(z.2.2=0↔ ∀j,j<z.1->GoodAt nm l G j)) (fun z=>min l.length lim-z.1) (0,.slice none 0 0,0) ⟨ZB,ZA,FRow.nil _ _,ZC,⟨fun _ j hj=>by omega,fun _=>rfl⟩⟩ ?_
  rintro ⟨i,fv,n⟩ W ⟨hi,hW,⟨zs,hO,h2,h3⟩,hni,hgd⟩;dsimp only at hi hO h3 hni hgd;have hbW:=b11.step hW;refine ag ?_;refine aI [0,1,7,11,12,24,25,26] rfl ?_;refine ai rfl (fun hlt=> ?_) (fun hge=> ?_)
  · obtain ⟨x,hx,hxm⟩:=bD (l:=l) (k:=i) (by omega)
    obtain ⟨s,hs,hsm⟩:=bD (l:=nm) (k:=i) (by omega);have hB11W:=hB11.next hW;refine ag ?_;refine kE _ rfl rfl underlying251 is251.q rfl ct (fun _=>(fun _ _ hv=>hB11W.fld hv)) rfl ?_;refine ag ?_;refine aJ [0,1,7,11,12,13,24,25,28] (fun k:Nat=> [(29,none,.int .i64 (k:Int))])
      (fun k W'=>k<=3/\Below W.heap.size W W'/\(0<k->iX s=0)/\(1<k->iW nm i s=0)/\(2<k->iV G x=0)) (fun k=>3-k) 0 ⟨ZB,ZA,fun h=>by omega,fun h=>by omega,fun h=>by omega⟩ ?_
    rintro k W' ⟨hk,hW',hr1,hr2,hr3⟩;have hbW':=hbW.step hW';have hnW: ∀j y,nm[j]?=some y->NameF W' kn capn j y:=fun j y hj=>(hn j y hj).below hbW';have hB7':=hB7.next (hW.step hW');have hB8':=hB8.next (hW.step hW');have hB9':=hB9.next (hW.step hW');have hlW:=hl.below hbW';refine ag ?_;refine ai rfl (fun hlt3=> ?_) (fun hge3=> ?_)
    · have hk3:k<3:=by omega
      refine fQ (aD (cO (fU (cO (bE ?_)))));obtain ⟨kf,cp,r,hkf,hen',hcl,z1,z2,z3⟩: ∃(kf:Nat) (cp:List Value) (r:Int),[Value.func (.func 206) #[] #[.pointer (some ⟨g8,0,none⟩)],.func (.func 207) #[] #[.pointer (some ⟨g8,0,none⟩)],.func (.func 208) #[] #[.pointer (some ⟨g9,0,none⟩),.pointer (some ⟨g7,0,none⟩)]][((k:Nat):Int).toNat]?=some (.func (.func kf) #[] cp.toArray)/\enters prog kf=true/\Gives prog kf (.int .i64 (i:Int)::cp).toArray W' (fun u w'=>Below W'.heap.size W' w'/\u= .int .i64 r)/\(k=0->r=iX s)/\(k=1->r=iW nm i s)/\(k=2->r=iV G x):=by
        obtain rfl|rfl|rfl:k=0∨k=1∨k=2:=by omega
        · exact ⟨_,[_],_,rfl,ie206.q,FF (ht.below hbW') hB8' hen (hnW i s hs),fun _=>rfl,fun h=>by omega,fun h=>by omega⟩
        · exact ⟨_,[_],_,rfl,ie207.q,Fz hB8' hen hnW hs (by omega),fun h=>by omega,fun _=>rfl,fun h=>by omega⟩
        · exact ⟨_,[_,_],_,rfl,ie208.q,Fu hB9' hB7' heg hlW hx (fun cs X hX hr=>hg i x hx cs X (hbW'.step hX) hr),fun h=>by omega,fun h=>by omega,fun _=>rfl⟩
      refine jP rfl rfl underlying251 io250.q is250.q rfl ct rfl ct (fun _=>by (try dsimp only); omega) (fun _=>hkf) ?_;refine ag ?_;refine bK rfl rfl hen' rfl (aa rfl ct ah) (hcl) ?_;rintro y1 w1 ⟨c1,rfl⟩;refine ag ?_;refine au rfl (fun hne=> ?_) (fun heq=> ?_)
      · have hbad:r≠0:=by simpa using hne
        refine ag ?_;refine aH [0,1,2] _ [.int .i64 kd,.int .i64 (i:Int),.int .i64 r] rfl rfl rfl (aa rfl ct (aa rfl ct (aa rfl ct ah))) (by kernel_rfl) ?_;refine ak 167 _ rfl rfl rfl om (aa rfl ct ah) rfl rfl rfl rfl rfl ?_;rintro g2 w2 f2;have hW1:=(hW.step hW').step c1;refine aK [.int .i64 kd,.int .i64 (i:Int),.int .i64 r] rfl rfl kV rfl (((hO.below hW').below c1).below f2.below) rfl rfl (fun j u hj=>⟨_,rfl,f2.blk.fld hj⟩) (fun u hu=>by simp at hu; rcases hu with rfl|rfl|rfl<;>rfl) (by omega) (by omega) ?_;rintro fv' w3 hO3 hg3 hn3;refine ag ?_;have hW2:=hW1.step f2.below;refine aC (i+1,fv',n+1) ⟨by show i+1<=_; omega,hW2.grown hg3 hW2.size h3,FRow.app (w:=w2) h3 h2 (fun u hu=>by simp at hu; rcases hu with rfl|rfl|rfl<;>rfl) hO3 hn3 hW2.size,by show n+1<=i+1; omega,⟨fun h=>absurd h (Nat.succ_ne_zero n),fun h=> ?_⟩⟩;obtain ⟨q1,q2,q3⟩:=(fw hx hs).1 (h i (by show i<i+1; omega))
        exact absurd (show r = 0 by obtain h | h | h : k = 0 ∨ k = 1 ∨ k = 2 := by omega
                                    · rw [z1 h,q1]
                                    · rw [z2 h,q2]
                                    · rw [z3 h,q3]) hbad
      · have hgood:r=0:=by simpa using heq
        refine ag ?_;refine aC (k+1) ⟨by omega,hW'.step c1,fun _=> ?_,fun _=> ?_,fun _=> ?_⟩
        · by_cases h:k=0
          · rw [<-z1 h,hgood]
          · exact hr1 (by omega)
        · by_cases h:k=1
          · rw [<-z2 h,hgood]
          · exact hr2 (by omega)
        · by_cases h:k=2
          · rw [<-z3 h,hgood]
          · exact hr3 (by omega)
    · have hk3:k=3:=by omega
      subst hk3;refine ag ?_;refine aC (i+1,fv,n) ⟨by show i+1<=_; omega,hW.step hW',⟨zs,hO.below hW',h2,h3⟩,by show n<=i+1; omega,?_⟩;show n=0↔ ∀j,j<i+1->GoodAt nm l G j;rw [hgd];refine ⟨fun h j hj=> ?_,fun h j hj=>h j (by omega)⟩;rcases ZI j i with h'|h'
      · exact h j h'
      · have:j=i:=by omega
        subst this;exact (fw hx hs).2 ⟨hr1 (by omega),hr2 (by omega),hr3 (by omega)⟩
  have hie:i=min l.length lim:=by omega
  have h3: ∀g,fv.ownBlock=some g->w.heap.size<=g:=fun g hg=>Nat.le_trans b11.size (h3 g hg);refine ag ?_;refine aj rfl ((hB7.next hW).cell 0) ?_;refine ag ?_;refine aI [0,1,7,11,12,24,25,49] rfl ?_;refine ai rfl (fun hbig=> ?_) (fun hsmall=> ?_)
  · refine ag ?_
    refine aH [0,1,2] _ [.int .i64 kd,.int .i64 (lim:Int),.int .i64 2] rfl rfl rfl (aa rfl ct (aa rfl ct (aa rfl ct ah))) (by kernel_rfl) ?_;refine ak 167 _ rfl rfl rfl om (aa rfl ct ah) rfl rfl rfl rfl rfl ?_;rintro g2 w2 f2;refine aK [.int .i64 kd,.int .i64 (lim:Int),.int .i64 2] rfl rfl kV rfl (hO.below f2.below) rfl rfl (fun j u hj=>⟨_,rfl,f2.blk.fld hj⟩) (fun u hu=>by simp at hu; rcases hu with rfl|rfl|rfl<;>rfl) (by omega) (by omega) ?_;rintro fv' w3 hO3 hg3 hn3;refine ag ?_;have hb2:=hbW.step f2.below;refine aW rfl ⟨hb2.grown hg3 hb2.size (fun q hq=>h3 q hq),n+1,FRow.app (w:=w2) h3 h2 (fun u hu=>by simp at hu; rcases hu with rfl|rfl|rfl<;>rfl) hO3 hn3 hb2.size,by omega,⟨fun h=>by omega,fun h=> ?_⟩⟩;have:=h.few;omega
  · refine ag ?_
    refine aW rfl ⟨hbW,n,⟨zs,hO,h2,h3⟩,by omega,?_⟩;rw [lz hnl,hgd,hie];exact ⟨fun h=>⟨by omega,h⟩,fun h=>h.2⟩
theorem FH (ht:Tabs w) (hB:Blk w g8 188 [.func (.func kn) #[] capn.toArray]) (hen:enters prog kn=true) (hn:NameF w kn capn i s) :
  Gives prog 209 #[.int .i64 (i:Int),.pointer (some ⟨g8,0,none⟩)] w (ZJ w (.int .i64 (iX s))):=by
 refine gv (f:=209) ?_;refine ag ?_;refine aj rfl (hB.cell 0) ?_;refine ag ?_;refine bK rfl rfl hen rfl (aa rfl ct ah) (hn w ZA) ?_;rintro y1 w1 ⟨c1,rfl⟩;refine aA rfl (mW (ht.below c1)) ?_;rintro y2 w2 ⟨c2,rfl⟩;refine ag ?_;refine au rfl (fun h1=> ?_) (fun h2=> ?_)
 ·refine ag ?_;refine aW rfl ⟨c1.step c2,?_⟩;unfold iX
  cases hq:dec (NameOK keys11 s) with
  | true=>rw [hq] at h1; simp at h1
  | false=>rfl
 ·refine ag ?_;refine aW rfl ⟨c1.step c2,?_⟩;unfold iX
  cases hq:dec (NameOK keys11 s) with
  | true=>rfl
  | false=>rw [hq] at h2; simp at h2
theorem FB (hB:Blk w g8 188 [.func (.func kn) #[] capn.toArray]) (hen:enters prog kn=true) (hn: ∀j x,nm[j]?=some x->NameF w kn capn j x) (hs:nm[i]?=some s) (hi:i<=1000000) :
  Gives prog 210 #[.int .i64 (i:Int),.pointer (some ⟨g8,0,none⟩)] w (ZJ w (.int .i64 (iW nm i s))):=by
 refine gv (f:=210) ?_;refine ag ?_;refine aJ [0,1,5] (fun k:Nat=> [(6,none,.int .i64 (k:Int))])
  (fun k W=>k<=i/\Below w.heap.size w W/\s ∉ nm.take k) (fun k=>i-k) 0 ⟨ZB,ZA,by simp⟩ ?_
 rintro k W ⟨hk,hW,hno⟩;have hil:=(ZE hs).1;refine ag ?_;refine ai rfl (fun hlt=> ?_) (fun hge=> ?_)
 ·obtain ⟨x,hx,hxm⟩:=bD (l:=nm) (k:=k) (by omega);have hBW:=hB.next hW;refine ag ?_;refine bg mixed (by kernel_rfl) ?_;refine aB rfl (hBW.cell 0) ?_;refine aZ ?_;refine dw (.ex (.string x)) trivial rfl rfl hen rfl ct (ax rfl ct aP) (fun _ w' hb'=>hn k x hx w' (hW.step hb')) ?_;refine aB rfl (hBW.cell 0) ?_;refine aZ ?_;refine dw (.ex (.string s)) trivial rfl rfl hen rfl ct (ax rfl ct aP) (fun _ w' hb'=>hn i s hs w' (hW.step hb')) ?_;refine aZ ?_;rw [uu];refine bR [0,1,4,5,6,15] rfl fun w3 b3=> ?_;refine aD ?_;refine au rfl (fun heq=> ?_) (fun hne=> ?_)
  ·refine ag ?_;refine aW rfl ⟨hW.step b3,?_⟩;have hxs:x=s:=of_decide_eq_true heq;subst hxs;unfold iW;rw [ay (ZF (i:=k) (by rw [List.getElem?_take_of_lt (by omega)]; exact hx))];rfl
  ·refine ag ?_;refine aC (k+1) ⟨by omega,hW.step b3,fun h=> ?_⟩;rw [ZG,hx] at h;rcases ZH h with h|h
   ·exact hno h
   ·simp at h;exact of_decide_eq_false hne h.symm
 ·refine ag ?_;refine aW rfl ⟨hW,?_⟩;have:k=i:=by omega
  subst this;unfold iW;rw [az hno];rfl
theorem Fv {l:List Cla} {x:Cla} {G:Cla->Prop} (hB9:Blk w g9 201 [.func (.func kg) #[] capg.toArray]) (hB7:Blk w g7 27 [v]) (hen:enters prog kg=true) (hl:SL claT F w v l) (hx:l[i]?=some x)
 (hg: ∀cs W,Below w.heap.size w W->claT.rep F W cs x->Gives prog kg (.agg cs.toArray::capg).toArray W fun u W'=>Below W.heap.size W W'/\u= .bool (dec (G x))) :
  Gives prog 211 #[.int .i64 (i:Int),.pointer (some ⟨g9,0,none⟩),.pointer (some ⟨g7,0,none⟩)] w (ZJ w (.int .i64 (iV G x))):=by
 obtain ⟨A,cap,rfl,_⟩:=hl.form;have hil:=(ZE hx).1;have hmax:=hl.len.2.2;obtain ⟨ad,rfl⟩:=hl.addr (by omega);obtain ⟨ad',cs,e1,hF,hrep,hc⟩:=hl.at hx;cases e1;have hrep0:=hrep;obtain ⟨rfl,zz⟩:=hrep;refine gv (f:=211) ?_;refine ag ?_;refine bg mixed (by kernel_rfl) ?_;refine aB rfl (hB9.cell 0) ?_;refine aB rfl (hB7.cell 0) ?_;refine aZ ?_;refine dx rfl (hc) ?_;refine dw (.ex (.bool (dec (G x)))) trivial rfl rfl hen rfl ct (ax rfl ct aP) (fun _ w' hb'=>hg _ w' hb' (claT.mono _ _ _ _ _ (Kept.of_below hb') hrep0)) ?_;refine aZ ?_;refine bR [0,1,2,4,11] rfl fun w3 b3=> ?_;refine aD ?_;refine au rfl (fun h1=> ?_) (fun h2=> ?_)
 ·refine ag ?_;refine aW rfl ⟨b3,?_⟩;unfold iV
  cases hq:dec (G x) with
  | true=>rw [hq] at h1; simp at h1
  | false=>rfl
 ·refine ag ?_;refine aW rfl ⟨b3,?_⟩;unfold iV
  cases hq:dec (G x) with
  | true=>rfl
  | false=>rw [hq] at h2; simp at h2
theorem BA {l:List Cla} {G:Cla->Prop} (ht:Tabs w) (hl:SL claT F w v l) (hen:enters prog kn=true) (heg:enters prog kg=true) (hlim:lim<=1000)
 (hnl:nm.length=l.length) (hn: ∀j x,nm[j]?=some x->NameF w kn capn j x) (hg: ∀(i:Nat) (x:Cla),l[i]?=some x-> ∀cs W,Below w.heap.size w W->claT.rep F W cs x->Gives prog kg (.agg cs.toArray::capg).toArray W fun u W'=>Below W.heap.size W W'/\u= .bool (dec (G x))) :
    Gives prog 132 #[.int .i64 kd,.int .i64 (lim:Int),v,.func (.func kn) #[] capn.toArray,.func (.func kg) #[] capg.toArray] w fun u w'=>Below w.heap.size w w'/\ ∃n,FRow w' w.heap.size u n/\n<=lim+1/\(n=0↔KindOK keys11 lim nm l G):=by
  obtain ⟨A,cap,rfl,_⟩:=hl.form;have hmax:=hl.len.2.2;refine gv (f:=132) ?_;refine ag ?_;refine aG rfl rfl rfl rfl ?_;rintro g7 w7 f7;refine aG rfl rfl rfl rfl ?_;rintro g8 w8 f8;refine aG rfl rfl rfl rfl ?_;rintro g9 w9 f9;refine ag ?_;refine aN rfl rfl (aa rfl ct ah) ?_;refine aN rfl rfl (aa rfl ct ah) ?_;refine aN rfl rfl (aa rfl ct (aa rfl ct ah)) ?_;have hB7:=(f7.blk.next f8.below).next f9.below;have hB8:=f8.blk.next f9.below;have hB9:=f9.blk;have b9:=(f7.below.step f8.below).step f9.below;refine aH [0,1,2] _ [.func (.func 209) #[] #[.pointer (some ⟨g8,0,none⟩)],.func (.func 210) #[] #[.pointer (some ⟨g8,0,none⟩)],.func (.func 211) #[] #[.pointer (some ⟨g9,0,none⟩),.pointer (some ⟨g7,0,none⟩)]] rfl rfl rfl (aa rfl ct (aa rfl ct (aa rfl ct ah))) (by kernel_rfl) ?_;refine aM rfl xB rfl is251.q rfl rfl ?_;rintro g11 w11 f11;refine ag ?_;have hB7:=(hB7.next f11.below);have hB8:=(hB8.next f11.below);have hB9:=(hB9.next f11.below);have hB11:=f11.blk;have b11:=b9.step f11.below;refine aj rfl (hB7.cell 0) ?_;refine ag ?_;refine aT kD rfl ⟨ct,ct,trivial⟩ (fun _=>trivial) ?_;refine ag ?_;refine aJ [0,1,7,11,24] (fun z:Nat×Value×Nat=> [(12,none,z.2.1),(25,none,.int .i64 (z.1:Int))])
    (fun z W=>z.1<=min l.length lim/\Below w11.heap.size w11 W/\FRow W w11.heap.size z.2.1 z.2.2/\z.2.2<=z.1/\(z.2.2=0↔ ∀j,j<z.1->GoodAt nm l G j)) (fun z=>min l.length lim-z.1) (0,.slice none 0 0,0) ⟨ZB,ZA,FRow.nil _ _,ZC,⟨fun _ j hj=>by omega,fun _=>rfl⟩⟩ ?_
  rintro ⟨i,fv,n⟩ W ⟨hi,hW,⟨zs,hO,h2,h3⟩,hni,hgd⟩;dsimp only at hi hO h3 hni hgd;have hbW:=b11.step hW;refine ag ?_;refine aI [0,1,7,11,12,24,25,26] rfl ?_;refine ai rfl (fun hlt=> ?_) (fun hge=> ?_)
  · obtain ⟨x,hx,hxm⟩:=bD (l:=l) (k:=i) (by omega)
    obtain ⟨s,hs,hsm⟩:=bD (l:=nm) (k:=i) (by omega);have hB11W:=hB11.next hW;refine ag ?_;refine kE _ rfl rfl underlying251 is251.q rfl ct (fun _=>(fun _ _ hv=>hB11W.fld hv)) rfl ?_;refine ag ?_;refine aJ [0,1,7,11,12,13,24,25,28] (fun k:Nat=> [(29,none,.int .i64 (k:Int))])
      (fun k W'=>k<=3/\Below W.heap.size W W'/\(0<k->iX s=0)/\(1<k->iW nm i s=0)/\(2<k->iV G x=0)) (fun k=>3-k) 0 ⟨ZB,ZA,fun h=>by omega,fun h=>by omega,fun h=>by omega⟩ ?_
    rintro k W' ⟨hk,hW',hr1,hr2,hr3⟩;have hbW':=hbW.step hW';have hnW: ∀j y,nm[j]?=some y->NameF W' kn capn j y:=fun j y hj=>(hn j y hj).below hbW';have hB7':=hB7.next (hW.step hW');have hB8':=hB8.next (hW.step hW');have hB9':=hB9.next (hW.step hW');have hlW:=hl.below hbW';refine ag ?_;refine ai rfl (fun hlt3=> ?_) (fun hge3=> ?_)
    · have hk3:k<3:=by omega
      refine fQ (aD (cO (fU (cO (bE ?_)))));obtain ⟨kf,cp,r,hkf,hen',hcl,z1,z2,z3⟩: ∃(kf:Nat) (cp:List Value) (r:Int),[Value.func (.func 209) #[] #[.pointer (some ⟨g8,0,none⟩)],.func (.func 210) #[] #[.pointer (some ⟨g8,0,none⟩)],.func (.func 211) #[] #[.pointer (some ⟨g9,0,none⟩),.pointer (some ⟨g7,0,none⟩)]][((k:Nat):Int).toNat]?=some (.func (.func kf) #[] cp.toArray)/\enters prog kf=true/\Gives prog kf (.int .i64 (i:Int)::cp).toArray W' (fun u w'=>Below W'.heap.size W' w'/\u= .int .i64 r)/\(k=0->r=iX s)/\(k=1->r=iW nm i s)/\(k=2->r=iV G x):=by
        obtain rfl|rfl|rfl:k=0∨k=1∨k=2:=by omega
        · exact ⟨_,[_],_,rfl,ie209.q,FH (ht.below hbW') hB8' hen (hnW i s hs),fun _=>rfl,fun h=>by omega,fun h=>by omega⟩
        · exact ⟨_,[_],_,rfl,ie210.q,FB hB8' hen hnW hs (by omega),fun h=>by omega,fun _=>rfl,fun h=>by omega⟩
        · exact ⟨_,[_,_],_,rfl,ie211.q,Fv hB9' hB7' heg hlW hx (fun cs X hX hr=>hg i x hx cs X (hbW'.step hX) hr),fun h=>by omega,fun h=>by omega,fun _=>rfl⟩
      refine jP rfl rfl underlying251 io250.q is250.q rfl ct rfl ct (fun _=>by (try dsimp only); omega) (fun _=>hkf) ?_;refine ag ?_;refine bK rfl rfl hen' rfl (aa rfl ct ah) (hcl) ?_;rintro y1 w1 ⟨c1,rfl⟩;refine ag ?_;refine au rfl (fun hne=> ?_) (fun heq=> ?_)
      · have hbad:r≠0:=by simpa using hne
        refine ag ?_;refine aH [0,1,2] _ [.int .i64 kd,.int .i64 (i:Int),.int .i64 r] rfl rfl rfl (aa rfl ct (aa rfl ct (aa rfl ct ah))) (by kernel_rfl) ?_;refine ak 167 _ rfl rfl rfl om (aa rfl ct ah) rfl rfl rfl rfl rfl ?_;rintro g2 w2 f2;have hW1:=(hW.step hW').step c1;refine aK [.int .i64 kd,.int .i64 (i:Int),.int .i64 r] rfl rfl kV rfl (((hO.below hW').below c1).below f2.below) rfl rfl (fun j u hj=>⟨_,rfl,f2.blk.fld hj⟩) (fun u hu=>by simp at hu; rcases hu with rfl|rfl|rfl<;>rfl) (by omega) (by omega) ?_;rintro fv' w3 hO3 hg3 hn3;refine ag ?_;have hW2:=hW1.step f2.below;refine aC (i+1,fv',n+1) ⟨by show i+1<=_; omega,hW2.grown hg3 hW2.size h3,FRow.app (w:=w2) h3 h2 (fun u hu=>by simp at hu; rcases hu with rfl|rfl|rfl<;>rfl) hO3 hn3 hW2.size,by show n+1<=i+1; omega,⟨fun h=>absurd h (Nat.succ_ne_zero n),fun h=> ?_⟩⟩;obtain ⟨q1,q2,q3⟩:=(fw hx hs).1 (h i (by show i<i+1; omega))
        exact absurd (show r = 0 by obtain h | h | h : k = 0 ∨ k = 1 ∨ k = 2 := by omega
                                    · rw [z1 h,q1]
                                    · rw [z2 h,q2]
                                    · rw [z3 h,q3]) hbad
      · have hgood:r=0:=by simpa using heq
        refine ag ?_;refine aC (k+1) ⟨by omega,hW'.step c1,fun _=> ?_,fun _=> ?_,fun _=> ?_⟩
        · by_cases h:k=0
          · rw [<-z1 h,hgood]
          · exact hr1 (by omega)
        · by_cases h:k=1
          · rw [<-z2 h,hgood]
          · exact hr2 (by omega)
        · by_cases h:k=2
          · rw [<-z3 h,hgood]
          · exact hr3 (by omega)
    · have hk3:k=3:=by omega
      subst hk3;refine ag ?_;refine aC (i+1,fv,n) ⟨by show i+1<=_; omega,hW.step hW',⟨zs,hO.below hW',h2,h3⟩,by show n<=i+1; omega,?_⟩;show n=0↔ ∀j,j<i+1->GoodAt nm l G j;rw [hgd];refine ⟨fun h j hj=> ?_,fun h j hj=>h j (by omega)⟩;rcases ZI j i with h'|h'
      · exact h j h'
      · have:j=i:=by omega
        subst this;exact (fw hx hs).2 ⟨hr1 (by omega),hr2 (by omega),hr3 (by omega)⟩
  have hie:i=min l.length lim:=by omega
  have h3: ∀g,fv.ownBlock=some g->w.heap.size<=g:=fun g hg=>Nat.le_trans b11.size (h3 g hg);refine ag ?_;refine aj rfl ((hB7.next hW).cell 0) ?_;refine ag ?_;refine aI [0,1,7,11,12,24,25,49] rfl ?_;refine ai rfl (fun hbig=> ?_) (fun hsmall=> ?_)
  · refine ag ?_
    refine aH [0,1,2] _ [.int .i64 kd,.int .i64 (lim:Int),.int .i64 2] rfl rfl rfl (aa rfl ct (aa rfl ct (aa rfl ct ah))) (by kernel_rfl) ?_;refine ak 167 _ rfl rfl rfl om (aa rfl ct ah) rfl rfl rfl rfl rfl ?_;rintro g2 w2 f2;refine aK [.int .i64 kd,.int .i64 (lim:Int),.int .i64 2] rfl rfl kV rfl (hO.below f2.below) rfl rfl (fun j u hj=>⟨_,rfl,f2.blk.fld hj⟩) (fun u hu=>by simp at hu; rcases hu with rfl|rfl|rfl<;>rfl) (by omega) (by omega) ?_;rintro fv' w3 hO3 hg3 hn3;refine ag ?_;have hb2:=hbW.step f2.below;refine aW rfl ⟨hb2.grown hg3 hb2.size (fun q hq=>h3 q hq),n+1,FRow.app (w:=w2) h3 h2 (fun u hu=>by simp at hu; rcases hu with rfl|rfl|rfl<;>rfl) hO3 hn3 hb2.size,by omega,⟨fun h=>by omega,fun h=> ?_⟩⟩;have:=h.few;omega
  · refine ag ?_
    refine aW rfl ⟨hbW,n,⟨zs,hO,h2,h3⟩,by omega,?_⟩;rw [lz hnl,hgd,hie];exact ⟨fun h=>⟨by omega,h⟩,fun h=>h.2⟩
def fT (N:Net):List ByteArray:=(List.range N.cals.length).map fun i=>N.names.getD i ⟨#[]⟩
theorem pZ (h:N.names.length=N.cals.length):fT N=N.names:=by
 unfold fT;apply List.ext_getElem?;intro i;rw [List.getElem?_map];rcases ZI i N.cals.length with hi|hi
 ·rw [List.getElem?_range hi];simp [List.getD_eq_getElem?_getD,ZD (show i<N.names.length by omega)]
 ·rw [List.getElem?_eq_none (by simpa using hi),List.getElem?_eq_none (by omega)];rfl
theorem LU {v:NV} (hB:Blk w g 29 v.cells) (hN:NetIn F w v N):Gives prog 117 #[.int .i64 (i:Int),.pointer (some ⟨g,0,none⟩)] w (ZJ w (.string (N.names.getD i ⟨#[]⟩))):=by
 obtain ⟨vc,vn,vo,vf,vl,vk⟩:=v;have hn:=hN.n;obtain ⟨A,c,e,_⟩:=hn.form;dsimp only at e;subst e;refine gv (f:=117) ?_;refine ag ?_;refine aj rfl (hB.fld rfl) ?_;refine ag ?_;refine ai rfl (fun hlt=> ?_) (fun hge=> ?_)
 ·obtain ⟨s,hs,_⟩:=bD (l:=N.names) (k:=i) (by omega);obtain ⟨ad,rfl⟩:=hn.addr (by omega);refine ag ?_;refine aj rfl (hB.fld rfl) ?_;refine ag ?_;refine aj rfl (hn.getT hs) ?_;refine ag ?_;refine aW rfl ⟨ZA,by rw [List.getD_eq_getElem?_getD,hs]; rfl⟩
 ·refine ag ?_;refine aW rfl ⟨ZA,by rw [List.getD_eq_getElem?_getD,List.getElem?_eq_none (by omega)]; rfl⟩
theorem LQ {v:NV} (hB:Blk w g 29 v.cells) (hN:NetIn F w v N) {s:_} (hs:N.ops[i]?=some s):Gives prog 120 #[.int .i64 (i:Int),.pointer (some ⟨g,0,none⟩)] w (ZJ w (.string s)):=by
 obtain ⟨vc,vn,vo,vf,vl,vk⟩:=v;have hn:=hN.o;obtain ⟨A,c,e,_⟩:=hn.form;dsimp only at e;subst e;have hil:=(ZE hs).1;obtain ⟨ad,rfl⟩:=hn.addr (by omega);obtain ⟨ad',cs,e1,hF,hrep,hc⟩:=hn.at hs;cases e1;obtain ⟨rfl,_⟩:=hrep;refine gv (f:=120) ?_;refine ag ?_;refine aj rfl (hB.fld rfl) ?_;refine ag ?_;refine aj rfl (hc 0 _ rfl) ?_;refine ag ?_;refine aW rfl ⟨ZA,rfl⟩
theorem LP {v:NV} (hB:Blk w g 29 v.cells) (hN:NetIn F w v N) {s:_} (hs:N.offs[i]?=some s):Gives prog 123 #[.int .i64 (i:Int),.pointer (some ⟨g,0,none⟩)] w (ZJ w (.string s.name)):=by
 obtain ⟨vc,vn,vo,vf,vl,vk⟩:=v;have hn:=hN.f;obtain ⟨A,c,e,_⟩:=hn.form;dsimp only at e;subst e;have hil:=(ZE hs).1;obtain ⟨ad,rfl⟩:=hn.addr (by omega);obtain ⟨ad',cs,e1,hF,hrep,hc⟩:=hn.at hs;cases e1;obtain ⟨zv,rfl,_⟩:=hrep;refine gv (f:=123) ?_;refine ag ?_;refine aj rfl (hB.fld rfl) ?_;refine ag ?_;refine aj rfl (hc 0 _ rfl) ?_;refine ag ?_;refine aW rfl ⟨ZA,rfl⟩
theorem LK {v:NV} (hB:Blk w g 29 v.cells) (hN:NetIn F w v N) {s:_} (hs:N.lines[i]?=some s):Gives prog 127 #[.int .i64 (i:Int),.pointer (some ⟨g,0,none⟩)] w (ZJ w (.string s.name)):=by
 obtain ⟨vc,vn,vo,vf,vl,vk⟩:=v;have hn:=hN.l;obtain ⟨A,c,e,_⟩:=hn.form;dsimp only at e;subst e;have hil:=(ZE hs).1;obtain ⟨ad,rfl⟩:=hn.addr (by omega);obtain ⟨ad',cs,e1,hF,hrep,hc⟩:=hn.at hs;cases e1;obtain ⟨rfl,_⟩:=hrep;refine gv (f:=127) ?_;refine ag ?_;refine aj rfl (hB.fld rfl) ?_;refine ag ?_;refine aj rfl (hc 0 _ rfl) ?_;refine ag ?_;refine aW rfl ⟨ZA,rfl⟩
theorem LH {v:NV} (hB:Blk w g 29 v.cells) (hN:NetIn F w v N) {s:_} (hs:N.classes[i]?=some s):Gives prog 131 #[.int .i64 (i:Int),.pointer (some ⟨g,0,none⟩)] w (ZJ w (.string s.name)):=by
 obtain ⟨vc,vn,vo,vf,vl,vk⟩:=v;have hn:=hN.k;obtain ⟨A,c,e,_⟩:=hn.form;dsimp only at e;subst e;have hil:=(ZE hs).1;obtain ⟨ad,rfl⟩:=hn.addr (by omega);obtain ⟨ad',cs,e1,hF,hrep,hc⟩:=hn.at hs;cases e1;obtain ⟨rfl,_⟩:=hrep;refine gv (f:=131) ?_;refine ag ?_;refine aj rfl (hB.fld rfl) ?_;refine ag ?_;refine aj rfl (hc 0 _ rfl) ?_;refine ag ?_;refine aW rfl ⟨ZA,rfl⟩
theorem inc3_c:Gives prog 122 #[.agg [Value.string s].toArray] w (ZJ w (.bool true)):=by
 refine gv (f:=122) ?_;refine ag ?_;refine aG rfl rfl rfl rfl ?_;rintro g w1 f1;refine ag ?_;refine aW rfl ⟨f1.below,rfl⟩
theorem LM {v:NV} {ov:Value} {o:Of} (hB:Blk w g 29 v.cells) (hN:NVform v N) (h:OfIn F w ov o):Gives prog 125 #[.agg (NW o ov).toArray,.pointer (some ⟨g,0,none⟩)] w (ZJ w (.bool (dec (OfOK N o)))):=by
 obtain ⟨A,cap,rfl,_⟩:=h.cd.form;obtain ⟨vc,vn,vo,vf,vl,vk⟩:=v;obtain ⟨⟨A1,c1,e1⟩,⟨A2,c2,e2⟩,⟨A3,c3,e3⟩,⟨A4,c4,e4⟩,⟨A5,c5,e5⟩,⟨A6,c6,e6⟩⟩:=id hN;dsimp only at e1 e2 e3 e4 e5 e6;subst e1 e2 e3 e4 e5 e6;refine gv (f:=125) ?_;refine ag ?_;refine aG rfl rfl rfl rfl ?_;rintro g2 w2 f2;refine ag ?_;refine aF rfl (fun _ _ hv=>(hB.next f2.below).fld hv) ?_;refine aF rfl (fun _ _ hv=>f2.blk.fld hv) ?_;refine aA rfl (wZ hN (h.below f2.below)) ?_;rintro y3 w3 ⟨d3,rfl⟩;refine ag ?_;refine aW rfl ⟨f2.below.step d3,rfl⟩
theorem LJ {v:NV} {l:Li} (hB:Blk w g 29 v.cells) (hN:NVform v N):Gives prog 129 #[.agg (Cv l).toArray,.pointer (some ⟨g,0,none⟩)] w (ZJ w (.bool (dec (LiOK N l)))):=by
 obtain ⟨vc,vn,vo,vf,vl,vk⟩:=v;obtain ⟨⟨A1,c1,e1⟩,⟨A2,c2,e2⟩,⟨A3,c3,e3⟩,⟨A4,c4,e4⟩,⟨A5,c5,e5⟩,⟨A6,c6,e6⟩⟩:=id hN;dsimp only at e1 e2 e3 e4 e5 e6;subst e1 e2 e3 e4 e5 e6;refine gv (f:=129) ?_;refine ag ?_;refine aG rfl rfl rfl rfl ?_;rintro g2 w2 f2;refine ag ?_;refine aF rfl (fun _ _ hv=>(hB.next f2.below).fld hv) ?_;refine aF rfl (fun _ _ hv=>f2.blk.fld hv) ?_;refine aA rfl (Bh hN) ?_;rintro y3 w3 ⟨d3,rfl⟩;refine ag ?_;refine aW rfl ⟨f2.below.step d3,rfl⟩
theorem LG {l:Cla}:Gives prog 133 #[.agg (NC l).toArray] w (ZJ w (.bool (dec (ClaOK l)))):=by
 refine gv (f:=133) ?_;refine ag ?_;refine aG rfl rfl rfl rfl ?_;rintro g2 w2 f2;refine ag ?_;refine aj rfl (f2.blk.fld rfl) ?_;refine aA rfl (oO) ?_;rintro y3 w3 ⟨d3,rfl⟩;refine ag ?_;refine aj rfl ((f2.blk.next d3).fld rfl) ?_;refine aO (cap:= []) rfl rfl ie134.q rfl ct (aa rfl id ah) (fun _=>oO) ?_;rintro w4 d4;refine ag ?_;refine aW rfl ⟨(f2.below.step d3).step d4,?_⟩;by_cases hq:ClaOK l
 ·rw [ay hq];have q1:=hq.c1;have q2:=hq.c2;have q3:=hq.d1;have q4:=hq.d2;simp [q1,q2,q3,q4]
 ·rw [az hq];have: ¬((0<=l.cut/\l.cut<=1439)/\0<=l.del/\l.del<=1439):=fun h=>hq ⟨h.1.1,h.1.2,h.2.1,h.2.2⟩
  congr 1
  simp only [Bool.and_eq_false_iff,decide_eq_false_iff_not];omega
theorem FRow.form {w:World} {b:Nat} {v:Value} {n:Nat} (h:FRow w b v n): ∃A c,v= .slice A n c:=by
 obtain ⟨zs,h1,_⟩:=h;obtain ⟨A,c,e,_⟩:=h1.form;exact ⟨A,c,e⟩
theorem lK {w':World} {n m:Nat} {v':Value} {zs cs:List Value} (h3: ∀g,v.ownBlock=some g->b<=g) (h2: ∀u∈zs,u.oneCell'=true) (hc: ∀u∈cs,u.oneCell'=true) (hO:OwnS w' 167 3 v' (n+m) (zs++cs)) (hn:v'.ownBlock=v.ownBlock∨v'.ownBlock=some w.heap.size) (hb:b<=w.heap.size):FRow w' b v' (n+m) :=
 ⟨zs++cs,hO,fun u hu=>(ZH hu).elim (h2 u) (hc u),fun g hg=>by
  rcases hn with h|h
  ·exact h3 g (by rw [<-h]; exact hg)
  ·rw [h] at hg; cases hg; exact hb⟩
theorem mU {e:TypeId} {sz m:Nat} {A:Option Addr} {c:Nat} {zs:List Value} (h:OwnS w e sz (.slice A m c) m zs): ∀(j:Nat) (u:Value),zs[j]?=some u-> ∃ad,A=some ad/\w.cell? (ad.add j)=some u:=fun j u hu=>by
 obtain ⟨A',c',e1,_,_,h1⟩:=h.form;simp only [Value.slice.injEq] at e1;obtain ⟨rfl,_,_⟩:=e1;obtain ⟨g,h2,_,h3,_⟩:=h1 j u hu;exact ⟨_,h2,by rw [ja]; exact h3⟩
theorem wX {v:NV} (ht:Tabs w) (hN:dI w v N):Gives prog 64 #[.agg v.cells.toArray] w fun u w'=>Below w.heap.size w w'/\ ∃n,FRow w' w.heap.size u n/\n<=1000/\(n=0↔ConsOK keys11 N):=by
 have hform:=NetIn.form hN;obtain ⟨vc,vn,vo,vf,vl,vk⟩:=v;obtain ⟨⟨A1,c1,e1⟩,⟨A2,c2,e2⟩,⟨A3,c3,e3⟩,⟨A4,c4,e4⟩,⟨A5,c5,e5⟩,⟨A6,c6,e6⟩⟩:=id hform;dsimp only at e1 e2 e3 e4 e5 e6;subst e1 e2 e3 e4 e5 e6;have m1:=hN.c.len.2.2;have m2:=hN.n.len.2.2;refine gv (f:=64) ?_;refine ag ?_;refine aG rfl rfl rfl rfl ?_;rintro g1 w1 f1;refine ag ?_;have hB1:=f1.blk;have hN1:=aL hN f1.below;refine aj rfl (hB1.fld rfl) ?_;refine ag ?_;refine aj rfl (hB1.fld rfl) ?_;refine ag ?_;refine zN (fun z:Value×Nat=> [(1,none,.pointer (some ⟨g1,0,none⟩)),(3,none,z.1)])
  (fun z W'=>Below w1.heap.size w1 W'/\FRow W' w1.heap.size z.1 z.2/\z.2<=1/\(z.2=0↔N.names.length=N.cals.length)) (fun hj=> ?_) (fun z W2 hJ=> ?_)
 ·skip
  refine ai rfl (fun hne=> ?_) (fun heq=> ?_)
  ·refine ag ?_;refine aH [0,1,2] _ [.int .i64 1,.int .i64 (-1),.int .i64 1] rfl rfl rfl (aa rfl ct (aa rfl ct (aa rfl ct ah))) (by kernel_rfl) ?_;refine ak 167 _ rfl rfl rfl om (aa rfl ct ah) rfl rfl rfl rfl rfl ?_;rintro g2 w2 f2;refine aK [.int .i64 1,.int .i64 (-1),.int .i64 1] rfl rfl kV rfl (OwnS.nil _ _ _) rfl rfl (fun j u hj=>⟨_,rfl,f2.blk.fld hj⟩) (fun u hu=>by simp at hu; rcases hu with rfl|rfl|rfl<;>rfl) (by omega) (by omega) ?_;rintro fv' w3 hO3 hg3 hn3;refine aT df rfl ⟨ct,trivial⟩ (fun _=>trivial) ?_;refine bG (aS [0,1,2,3] [(0,_,_),(1,_,_),(2,_,_),(3,_,_)] rfl (aD ?_));exact qx [1,3] _ rfl (hj (fv',1) _ ⟨f2.below.grown hg3 f2.below.size (fun q hq=>by simp [Value.ownBlock] at hq),FRow.app (w:=w2) (fun g hg=>by simp [Value.ownBlock] at hg) (fun u hu=>by cases hu) (fun u hu=>by simp at hu; rcases hu with rfl|rfl|rfl<;>rfl) hO3 hn3 f2.below.size,ZC,⟨fun h=>absurd h (Nat.succ_ne_zero 0),fun h=>by omega⟩⟩)
  ·refine fQ (aD ?_);exact qx [1,3] _ rfl (hj (.slice none 0 0,0) _ ⟨ZA,FRow.nil _ _,ZB,⟨fun _=>by omega,fun _=>rfl⟩⟩)
 obtain ⟨fv,n⟩:=z;obtain ⟨b2,⟨zs,hO,h2,h3⟩,hn1,hiff⟩:=hJ;dsimp only at hO h3 hn1 hiff;have hBx1:=hB1.next b2;have hNx1:=aL hN1 b2;have htx1:=ht.below (f1.below.step b2);refine ag ?_;refine aN rfl rfl (aa rfl ct ah) ?_;refine ag ?_;refine aj rfl (hBx1.fld rfl) ?_;refine ag ?_;have hnm1: ∀j s,(fT N)[j]?=some s->NameF W2 117 [.pointer (some ⟨g1,0,none⟩)] j s:=fun j s hs W hW=>by
  have hj:j<N.cals.length:=by have:=(ZE hs).1; simpa [fT] using this
  have e:N.names.getD j ⟨#[]⟩=s:=by
   unfold fT at hs;rw [List.getElem?_map,List.getElem?_range hj] at hs;simpa using hs
  exact (LU (hBx1.next hW) (hNx1.below hW)).mono fun u w' ⟨q1,q2⟩=>⟨q1,by rw [q2,e]⟩
 have hgd1: ∀(j:Nat) x,N.cals[j]?=some x-> ∀cs W,Below W2.heap.size W2 W->calT.rep (fun k=>k<W2.heap.size) W cs x->Gives prog 119 (.agg cs.toArray:: []).toArray W fun u W'=>Below W.heap.size W W'/\u= .bool (dec (CalOK x)):=fun j x hx cs W hW hr=>by
  obtain ⟨u,u2,rfl,q1,q2,q3⟩:=hr;exact BC (u:=u) (v:=u2) ⟨q1,q2,q3⟩
 refine aA rfl (BB (capn:= [.pointer (some ⟨g1,0,none⟩)]) (capg:= []) (lim:=6) (nm:=fT N) (G:=CalOK) htx1 hNx1.c ie117.q ie119.q (by decide) (by simp [fT]) hnm1 hgd1) ?_;rintro y1 w31 ⟨d1,n1,⟨zs1,hO1,k21,k31⟩,hle1,hiff1⟩;obtain ⟨Y1,yc1,hy1,_⟩:=hO1.form;subst hy1;refine aK zs1 rfl rfl kV rfl (hO.below d1) rfl hO1.1 (mU hO1) k21 (by omega) (by omega) ?_;rintro fv1 w41 hP1 hg1 hq1;refine ag ?_;refine jw [1,3,4] rfl ?_;refine aN rfl rfl (aa rfl ct ah) ?_;refine ag ?_;have b31:=b2.step d1;have b41:=b31.grown hg1 b31.size h3;obtain ⟨zz1,hz1,hz21,hz31⟩:=lK h3 h2 k21 hP1 hq1 b31.size;have hBx2:=hB1.next b41;have hNx2:=aL hN1 b41;have htx2:=ht.below (f1.below.step b41);refine aj rfl (hBx2.fld rfl) ?_;refine ag ?_;have hnm2: ∀j s,(N.ops)[j]?=some s->NameF w41 120 [.pointer (some ⟨g1,0,none⟩)] j s:=fun j s hs W hW=>LQ (hBx2.next hW) (hNx2.below hW) hs;have hgd2: ∀(j:Nat) x,N.ops[j]?=some x-> ∀cs W,Below w41.heap.size w41 W->strT.rep (fun k=>k<w41.heap.size) W cs x->Gives prog 122 (.agg cs.toArray:: []).toArray W fun u W'=>Below W.heap.size W W'/\u= .bool (dec ((fun _=>True) x)):=fun j x hx cs W hW hr=>by
  obtain ⟨rfl,_⟩:=hr;exact inc3_c.mono fun u w' ⟨q1,q2⟩=>⟨q1,by rw [q2,ay trivial]⟩
 refine aA rfl (Bv (capn:= [.pointer (some ⟨g1,0,none⟩)]) (capg:= []) (lim:=6) (nm:=N.ops) (G:=(fun _=>True)) htx2 hNx2.o ie120.q ie122.q (by decide) (rfl) hnm2 hgd2) ?_;rintro y2 w32 ⟨d2,n2,⟨zs2,hO2,k22,k32⟩,hle2,hiff2⟩;obtain ⟨Y2,yc2,hy2,_⟩:=hO2.form;subst hy2;refine aK zs2 rfl rfl kV rfl (hz1.below d2) rfl hO2.1 (mU hO2) k22 (by omega) (by omega) ?_;rintro fv2 w42 hP2 hg2 hq2;refine ag ?_;refine aN rfl rfl (aa rfl ct ah) ?_;refine ag ?_;have b32:=b41.step d2;have b42:=b32.grown hg2 b32.size hz31;obtain ⟨zz2,hz2,hz22,hz32⟩:=lK hz31 hz21 k22 hP2 hq2 b32.size;have hBx3:=hB1.next b42;have hNx3:=aL hN1 b42;have htx3:=ht.below (f1.below.step b42);refine aj rfl (hBx3.fld rfl) ?_;refine ag ?_;refine aN rfl rfl (aa rfl ct ah) ?_;have hnm3: ∀j s,((N.offs.map (·.name)))[j]?=some s->NameF w42 123 [.pointer (some ⟨g1,0,none⟩)] j s:=fun j s hs W hW=>by
  rw [List.getElem?_map] at hs;obtain ⟨x,hx,rfl⟩:=Option.map_eq_some_iff.1 hs;exact LP (hBx3.next hW) (hNx3.below hW) hx
 have hgd3: ∀(j:Nat) x,N.offs[j]?=some x-> ∀cs W,Below w42.heap.size w42 W->ofT.rep (fun k=>k<w42.heap.size) W cs x->Gives prog 125 (.agg cs.toArray:: [.pointer (some ⟨g1,0,none⟩)]).toArray W fun u W'=>Below W.heap.size W W'/\u= .bool (dec ((OfOK N) x)):=fun j x hx cs W hW hr=>by
  obtain ⟨u,rfl,q1,q2,q3,q4,q5,q6,q7⟩:=hr;exact LM (hBx3.next hW) hform ⟨q1,q2,q3,q4,q5,q6,q7⟩
 refine aA rfl (Bw (capn:= [.pointer (some ⟨g1,0,none⟩)]) (capg:= [.pointer (some ⟨g1,0,none⟩)]) (lim:=12) (nm:=(N.offs.map (·.name))) (G:=(OfOK N)) htx3 hNx3.f ie123.q ie125.q (by decide) (by simp) hnm3 hgd3) ?_;rintro y3 w33 ⟨d3,n3,⟨zs3,hO3,k23,k33⟩,hle3,hiff3⟩;obtain ⟨Y3,yc3,hy3,_⟩:=hO3.form;subst hy3;refine aK zs3 rfl rfl kV rfl (hz2.below d3) rfl hO3.1 (mU hO3) k23 (by omega) (by omega) ?_;rintro fv3 w43 hP3 hg3 hq3;refine ag ?_;refine jw [1,3,4,5,6] rfl ?_;refine aN rfl rfl (aa rfl ct ah) ?_;refine ag ?_;have b33:=b42.step d3;have b43:=b33.grown hg3 b33.size hz32;obtain ⟨zz3,hz3,hz23,hz33⟩:=lK hz32 hz22 k23 hP3 hq3 b33.size;have hBx4:=hB1.next b43;have hNx4:=aL hN1 b43;have htx4:=ht.below (f1.below.step b43);refine aj rfl (hBx4.fld rfl) ?_;refine ag ?_;refine aN rfl rfl (aa rfl ct ah) ?_;have hnm4: ∀j s,((N.lines.map (·.name)))[j]?=some s->NameF w43 127 [.pointer (some ⟨g1,0,none⟩)] j s:=fun j s hs W hW=>by
  rw [List.getElem?_map] at hs;obtain ⟨x,hx,rfl⟩:=Option.map_eq_some_iff.1 hs;exact LK (hBx4.next hW) (hNx4.below hW) hx
 have hgd4: ∀(j:Nat) x,N.lines[j]?=some x-> ∀cs W,Below w43.heap.size w43 W->liT.rep (fun k=>k<w43.heap.size) W cs x->Gives prog 129 (.agg cs.toArray:: [.pointer (some ⟨g1,0,none⟩)]).toArray W fun u W'=>Below W.heap.size W W'/\u= .bool (dec ((LiOK N) x)):=fun j x hx cs W hW hr=>by
  obtain ⟨rfl,_⟩:=hr;exact LJ (hBx4.next hW) hform
 refine aA rfl (Bz (capn:= [.pointer (some ⟨g1,0,none⟩)]) (capg:= [.pointer (some ⟨g1,0,none⟩)]) (lim:=40) (nm:=(N.lines.map (·.name))) (G:=(LiOK N)) htx4 hNx4.l ie127.q ie129.q (by decide) (by simp) hnm4 hgd4) ?_;rintro y4 w34 ⟨d4,n4,⟨zs4,hO4,k24,k34⟩,hle4,hiff4⟩;obtain ⟨Y4,yc4,hy4,_⟩:=hO4.form;subst hy4;refine aK zs4 rfl rfl kV rfl (hz3.below d4) rfl hO4.1 (mU hO4) k24 (by omega) (by omega) ?_;rintro fv4 w44 hP4 hg4 hq4;refine ag ?_;refine aN rfl rfl (aa rfl ct ah) ?_;refine ag ?_;have b34:=b43.step d4;have b44:=b34.grown hg4 b34.size hz33;obtain ⟨zz4,hz4,hz24,hz34⟩:=lK hz33 hz23 k24 hP4 hq4 b34.size;have hBx5:=hB1.next b44;have hNx5:=aL hN1 b44;have htx5:=ht.below (f1.below.step b44);refine aj rfl (hBx5.fld rfl) ?_;refine ag ?_;have hnm5: ∀j s,((N.classes.map (·.name)))[j]?=some s->NameF w44 131 [.pointer (some ⟨g1,0,none⟩)] j s:=fun j s hs W hW=>by
  rw [List.getElem?_map] at hs;obtain ⟨x,hx,rfl⟩:=Option.map_eq_some_iff.1 hs;exact LH (hBx5.next hW) (hNx5.below hW) hx
 have hgd5: ∀(j:Nat) x,N.classes[j]?=some x-> ∀cs W,Below w44.heap.size w44 W->claT.rep (fun k=>k<w44.heap.size) W cs x->Gives prog 133 (.agg cs.toArray:: []).toArray W fun u W'=>Below W.heap.size W W'/\u= .bool (dec (ClaOK x)):=fun j x hx cs W hW hr=>by
  obtain ⟨rfl,_⟩:=hr;exact LG
 refine aA rfl (BA (capn:= [.pointer (some ⟨g1,0,none⟩)]) (capg:= []) (lim:=4) (nm:=(N.classes.map (·.name))) (G:=ClaOK) htx5 hNx5.k ie131.q ie133.q (by decide) (by simp) hnm5 hgd5) ?_;rintro y5 w35 ⟨d5,n5,⟨zs5,hO5,k25,k35⟩,hle5,hiff5⟩;obtain ⟨Y5,yc5,hy5,_⟩:=hO5.form;subst hy5;refine aK zs5 rfl rfl kV rfl (hz4.below d5) rfl hO5.1 (mU hO5) k25 (by omega) (by omega) ?_;rintro fv5 w45 hP5 hg5 hq5;refine ag ?_;have b35:=b44.step d5;have b45:=b35.grown hg5 b35.size hz34;obtain ⟨zz5,hz5,hz25,hz35⟩:=lK hz34 hz24 k25 hP5 hq5 b35.size;refine aW rfl ⟨f1.below.step b45,_,⟨zz5,hz5,hz25,fun g hg=>Nat.le_trans f1.below.size (hz35 g hg)⟩,by omega,?_⟩;constructor
 ·intro h;have e0:=hiff.1 (by omega);have q1:=hiff1.1 (by omega);rw [pZ e0] at q1;exact ⟨e0,q1,hiff2.1 (by omega),hiff3.1 (by omega),hiff4.1 (by omega),hiff5.1 (by omega)⟩
 ·intro h;have e0:=hiff.2 h.len;have q1:=hiff1.2 (by rw [pZ h.len]; exact h.cals);have q2:=hiff2.2 h.ops;have q3:=hiff3.2 h.offs;have q4:=hiff4.2 h.lines;have q5:=hiff5.2 h.classes;omega
def jT (M:dh):List Value:=M.map (Value.int .i64)
theorem sP:(Addr.add ⟨g,0,none⟩ ((a:Int).toNat*12)).add ((b:Int).toNat*1)=⟨g,12*a+b,none⟩:=by
 rw [add_add,ja]
 congr 1
 omega
theorem ll {t:TypeId} (h:Blk w g t (jT M)) (hl:M.length=144) (ha:a<12) (hb:b<12):w.cell? ((Addr.add ⟨g,0,none⟩ ((a:Int).toNat*12)).add ((b:Int).toNat*1))=some (.int .i64 (g12 M a b)):=by
 rw [sP,<-ja];refine h.fld ?_;unfold jT g12;rw [List.getElem?_map,List.getD_eq_getElem?_getD,ZD (by omega)];rfl
theorem xW (hB:Blk w g 140 (jT M)) (hl:M.length=144) (ha:a<12) (hb:b<12):Gives prog 153 #[.int .i64 (a:Int),.int .i64 (b:Int),.int .i64 t,.pointer (some ⟨g,0,none⟩)] w fun _ w'=>But g w w'/\w'.heap.size=w.heap.size/\Blk w' g 140 (jT (dK M a b t)):=by
 have hc:=ll hB hl ha hb;refine gv (f:=153) ?_;refine cO (bE ?_);refine aT aX rfl ⟨ct,trivial⟩ (fun _=>trivial) ?_;refine aT aX rfl ⟨ct,trivial⟩ (fun _=>trivial) ?_;refine aT bH rfl ⟨ct,ct,trivial⟩ (fun _=>by (try dsimp only); omega) ?_;refine aT bH rfl ⟨ct,ct,trivial⟩ (fun _=>by (try dsimp only); omega) ?_;refine aj rfl hc ?_;refine aT uz rfl ⟨ct,ct,trivial⟩ (fun _=>trivial) ?_;refine aT aX rfl ⟨ct,trivial⟩ (fun _=>trivial) ?_;refine aT aX rfl ⟨ct,trivial⟩ (fun _=>trivial) ?_;refine aT aX rfl ⟨ct,trivial⟩ (fun _=>trivial) ?_;refine aT aX rfl ⟨ct,trivial⟩ (fun _=>trivial) ?_;refine aT bH rfl ⟨ct,id,trivial⟩ (fun h=>by (try dsimp only); first|omega|(simp [aV] at h; omega)) ?_;refine aT bH rfl ⟨id,id,trivial⟩ (fun h=>by (try dsimp only); first|omega|(simp [aV] at h; omega)) ?_;refine aj rfl hc ?_;refine ag ?_;refine au rfl (fun h1=> ?_) (fun h2=> ?_)
 ·have hr:dK M a b t=M.set (12*a+b) t:=by
   unfold dK;rw [if_pos (by simpa using h1)]
  refine bE ?_;refine aT aX rfl ⟨ct,trivial⟩ (fun _=>trivial) ?_;refine aT aX rfl ⟨ct,trivial⟩ (fun _=>trivial) ?_;refine aT aX rfl ⟨ct,trivial⟩ (fun _=>trivial) ?_;refine aT bH rfl ⟨ct,ct,trivial⟩ (fun _=>by (try dsimp only); omega) ?_;refine aT bH rfl ⟨ct,ct,trivial⟩ (fun _=>by (try dsimp only); omega) ?_;rw [sP];have hlt:(12*a+b)<(jT M).length:=by unfold jT; rw [List.length_map]; omega
  refine gU rfl is3.q rfl rfl (by rw [<-sP]; exact hc) (hB.frozen _) rfl ?_;refine ag ?_;refine ul results153 ⟨.setCell,by simp [World.setCell],by rw [hr]; have:=hB.set (12*a+b) (.int .i64 t); rw [show (jT M).set (12*a+b) (.int .i64 t)=jT (M.set (12*a+b) t) from by unfold jT; rw [List.map_set]] at this; exact this⟩
 ·have hr:dK M a b t=M:=by
   unfold dK;rw [if_neg (by simpa using h2)]
  refine fQ ?_;refine ul results153 ⟨But.of_below ZA,rfl,by rw [hr]; exact hB⟩
theorem sQ (M:dh):(jT M).all (·.oneCell')=true:=by
 rw [List.all_eq_true];intro u hu;obtain ⟨x,_,rfl⟩:=List.mem_map.1 hu;rfl
theorem pp (h:M.length=144):(jT M).length=144:=by unfold jT; rw [List.length_map]; exact h
structure RS12 (w W:World) (g2 g3:Nat) (M:dh):Prop where
 b:Below w.heap.size w W
 z:Blk W g2 140 (jT (iM 0))
 t:Blk W g3 140 (jT M)
theorem vv {v:NV} (hN:dI w v N) (hL:LnOK 12 (eP N)) (hli: ∀l∈N.lines,0<=l.frm/\0<=l.to):Gives prog 81 #[.agg v.cells.toArray] w (ZJ w (.agg (jT (fe (eP N))).toArray)):=by
 have hform:=NetIn.form hN;obtain ⟨vc,vn,vo,vf,vl,vk⟩:=v;obtain ⟨_,_,_,_,⟨A5,c5,e5⟩,_⟩:=id hform;dsimp only at e5;subst e5;have hl:=hN.l;have hmax:=hl.len.2.2;have hz0: ∀(t:TypeId) (w':World) (g:Nat),Blk w' g t (List.replicate 144 (Value.int .i64 0))->Blk w' g t (jT (iM 0)):=fun t w' g h=>by
  rw [Be];unfold jT;rw [List.map_replicate];exact h
 refine gv (f:=81) ?_;refine ag ?_;refine aG rfl rfl rfl rfl ?_;rintro g1 w1 f1;refine dC rfl rfl BX ?_;rintro g2 w2 f2;refine ag ?_;refine dC rfl rfl BX ?_;rintro g3 w3 f3;refine ag ?_;have k1:=f1.at_;have k2:=f2.at_;have k3:=f3.at_;have s1:=f1.size;have s2:=f2.size;have hg23:g2≠g3:=by omega
 have hB13:=(f1.blk.next f2.below).next f3.below;have b3:=(f1.below.step f2.below).step f3.below;have hl3:=hl.below b3;have hput: ∀ {W W':World} {M M':dh},RS12 w W g2 g3 M->But g3 W W'->Blk W' g3 140 (jT M')->RS12 w W' g2 g3 M':=fun h hb hB=>⟨h.b.grown hb h.b.size (fun k hk=>by cases hk; omega),hb.blk h.z hg23,hB⟩;have h0:RS12 w w3 g2 g3 (iM 0):=⟨b3,hz0 _ _ _ (f2.blk.next f3.below),hz0 _ _ _ f3.blk⟩;have hg1:g1≠g3:=by omega
 refine aJ [1,2,3] (fun a:Nat=> [(12,none,.int .i64 (a:Int))])
  (fun a W=>a<=12/\RS12 w W g2 g3 (iM (12*a))/\But g3 w3 W) (fun a=>12-a) 0 ⟨ZB,h0,But.of_below ZA⟩ ?_
 rintro a W ⟨ha,hR,hbut⟩;refine ag ?_;refine ai rfl (fun hlt=> ?_) (fun hge=> ?_)
 ·refine ag ?_;refine aJ [1,2,3,4,12] (fun b:Nat=> [(15,none,.int .i64 (b:Int))])
   (fun b W=>b<=12/\RS12 w W g2 g3 (iM (12*a+b))/\But g3 w3 W) (fun b=>12-b) 0 ⟨ZB,hR,hbut⟩ ?_
  rintro b W' ⟨hb,hR',hbut'⟩;refine ag ?_;refine ai rfl (fun hlt2=> ?_) (fun hge2=> ?_)
  ·have hs:=Bf (k:=12*a+b) (by omega);have hdm:(12*a+b) / 12=(12*a+b)%12↔a=b:=by omega
   refine ag ?_;refine ai rfl (fun hne=> ?_) (fun heq=> ?_)
   ·rw [if_neg (by omega)] at hs;have hc:=ll (a:=a) (b:=b) hR'.t (qK _) (by omega) (by omega);refine bE ?_;refine aT aX rfl ⟨ct,trivial⟩ (fun _=>trivial) ?_;refine aT aX rfl ⟨ct,trivial⟩ (fun _=>trivial) ?_;refine aT bH rfl ⟨ct,ct,trivial⟩ (fun _=>by (try dsimp only); omega) ?_;refine aT bH rfl ⟨ct,ct,trivial⟩ (fun _=>by (try dsimp only); omega) ?_;rw [sP];refine gU rfl is3.q rfl rfl (by rw [<-sP]; exact hc) (hR'.t.frozen _) rfl ?_;refine ag ?_;refine aC (b+1) ⟨by omega,hput hR' .setCell ?_,hbut'.trans .setCell⟩;have:=hR'.t.set (12*a+b) (.int .i64 (-1));rw [show 12*a+(b+1)=12*a+b+1 by omega,hs];rw [show (jT (iM (12*a+b))).set (12*a+b) (.int .i64 (-1))=jT ((iM (12*a+b)).set (12*a+b) (-1)) from by unfold jT; rw [List.map_set]] at this;exact this
   ·rw [if_pos (by omega)] at hs;refine ag ?_;refine aC (b+1) ⟨by omega,?_,hbut'⟩;rw [show 12*a+(b+1)=12*a+b+1 by omega,hs];exact hR'
  ·refine ag ?_;refine aC (a+1) ⟨by omega,?_,hbut'⟩;rw [show 12*(a+1)=12*a+b by omega];exact hR'
 have ha12:a=12:=by omega
 subst ha12;rw [show iM (12*12)=init12 from D8] at hR;have hlW:SL liT (fun k=>k<w.heap.size) W (.slice A5 N.lines.length c5) N.lines:=hl.below hR.b;refine ag ?_;refine aN rfl rfl (aa rfl ct ah) ?_;refine ag ?_;refine aj rfl ((hbut.blk hB13 hg1).fld rfl) ?_;refine ag ?_;obtain ⟨L,hLe⟩: ∃L,L=eP N:=⟨_,rfl⟩;have hLl:L.length=N.lines.length:=by rw [hLe]; simp [eP]
 rw [<-hLe] at hL ⊢;refine aJ [1,2,3,6,29,30] (fun j:Nat=> [(31,none,.int .i64 (j:Int))])
  (fun j W=>j<=N.lines.length/\RS12 w W g2 g3 (gM init12 (L.take j))) (fun j=>N.lines.length-j) 0 ⟨ZB,hR⟩ ?_
 rintro j W2 ⟨hj,hR2⟩;refine ag ?_;refine ai rfl (fun hlt=> ?_) (fun hge=> ?_)
 ·obtain ⟨l,hll,hlm⟩:=bD (l:=N.lines) (k:=j) (by omega);have hl2:=hl.below hR2.b;obtain ⟨ad,rfl⟩:=hl2.addr (by omega);obtain ⟨ad',cs,e1,hF,hrep,hc⟩:=hl2.at hll;cases e1;obtain ⟨rfl,_⟩:=hrep;have hln:L[j]?=some (l.frm.toNat,l.to.toNat,l.trav):=by rw [hLe]; unfold eP; rw [List.getElem?_map,hll]; rfl
  have hlk:=hL _ (ZF hln);dsimp only at hlk;obtain ⟨p1,p2⟩:=hli l hlm;have q1:l.frm=((l.frm.toNat:Nat):Int):=by omega
  have q2:l.to=((l.to.toNat:Nat):Int):=by omega
  refine ag ?_;refine aF rfl (hc) ?_;refine aM rfl EQ rfl is113.q rfl rfl ?_;rintro g8 w8 f8;refine ag ?_;refine aj rfl (f8.blk.fld rfl) ?_;refine ag ?_;refine aj rfl (f8.blk.fld rfl) ?_;refine ag ?_;refine aj rfl (f8.blk.fld rfl) ?_;rw [q1,q2];have hT8:=hR2.t.next f8.below;have hlen2:=(AX hL (L.take j) (fun x hx=>List.mem_of_mem_take hx)).len;refine bK rfl rfl ie153.q rfl (aa rfl ct (aa rfl ct (aa rfl ct ah))) (xW (t:=l.trav) hT8 hlen2 hlk.1 hlk.2.1) ?_;rintro y9 w9 ⟨hbut9,hsz9,hB9⟩;refine ag ?_;have hR8:RS12 w w8 g2 g3 (gM init12 (L.take j)):=⟨hR2.b.step f8.below,hR2.z.next f8.below,hT8⟩;refine aC (j+1) ⟨by omega,?_⟩;rw [ZG,hln];have hh:=hput hR8 hbut9 hB9;rw [<-wU init12 (L.take j) (l.frm.toNat,l.to.toNat,l.trav)] at hh;exact hh
 have hjl:L.take j=L:=List.take_of_length_le (by omega);rw [hjl] at hR2;obtain ⟨M1,hM1⟩: ∃M,M=gM init12 L:=⟨_,rfl⟩;rw [<-hM1] at hR2;refine ag ?_;have hT: ∀ {o a b:Nat},o<12->a<12->b<=12->T12 L 40960000 (iw o (gW (gY M1 o) o a) a b):=fun h1 h2 h3=>by rw [hM1]; exact EZ hL h1 h2 h3
 refine aJ [2,3,6] (fun o:Nat=> [(44,none,.int .i64 (o:Int))])
  (fun o W=>o<=12/\RS12 w W g2 g3 (gY M1 o)) (fun o=>12-o) 0 ⟨ZB,by rw [BF]; exact hR2⟩ ?_
 rintro o W3 ⟨ho,hR3⟩;refine ag ?_;refine ai rfl (fun hlto=> ?_) (fun hgeo=> ?_)
 ·refine ag ?_;refine aJ [2,3,6,9,44] (fun a:Nat=> [(47,none,.int .i64 (a:Int))])
   (fun a W=>a<=12/\RS12 w W g2 g3 (gW (gY M1 o) o a)) (fun a=>12-a) 0 ⟨ZB,by rw [Ag]; exact hR3⟩ ?_
  rintro a W4 ⟨ha,hR4⟩;refine ag ?_;refine ai rfl (fun hlta=> ?_) (fun hgea=> ?_)
  ·refine ag ?_;refine aJ [2,3,6,9,10,44,47] (fun b:Nat=> [(50,none,.int .i64 (b:Int))])
    (fun b W=>b<=12/\RS12 w W g2 g3 (iw o (gW (gY M1 o) o a) a b)) (fun b=>12-b) 0 ⟨ZB,by rw [Ae]; exact hR4⟩ ?_
   rintro b W5 ⟨hb,hR5⟩;refine ag ?_;refine ai rfl (fun hltb=> ?_) (fun hgeb=> ?_)
   ·have ht5:=hT (o:=o) (a:=a) (b:=b) (by omega) (by omega) hb;have hstep:=Af o (gW (gY M1 o) o a) a b;obtain ⟨M,hM⟩: ∃M,M=iw o (gW (gY M1 o) o a) a b:=⟨_,rfl⟩;rw [<-hM] at hR5 ht5 hstep;have c1:=ll (a:=a) (b:=o) hR5.t ht5.len (by omega) (by omega);have c2:=ll (a:=o) (b:=b) hR5.t ht5.len (by omega) (by omega);have r1:=ht5.rng a o (by omega) (by omega);have r2:=ht5.rng o b (by omega) (by omega);refine fQ (aD (cO (fU (cO (bE ?_)))));refine aT aX rfl ⟨ct,trivial⟩ (fun _=>trivial) ?_;refine aT df rfl ⟨ct,trivial⟩ (fun _=>trivial) ?_;refine bG (aS [2,3,6,9,10,11,44,47,50] [(2,_,_),(3,_,_),(6,_,_),(9,_,_),(10,_,_),(11,_,_),(44,_,_),(47,_,_),(50,_,_)] rfl (aD ?_));refine cO (bE ?_);refine aT aX rfl ⟨ct,trivial⟩ (fun _=>trivial) ?_;refine aT aX rfl ⟨ct,trivial⟩ (fun _=>trivial) ?_;refine aT bH rfl ⟨ct,ct,trivial⟩ (fun _=>by (try dsimp only); omega) ?_;refine aT bH rfl ⟨ct,ct,trivial⟩ (fun _=>by (try dsimp only); omega) ?_;refine aj rfl c1 ?_;refine aT zH rfl ⟨ct,ct,trivial⟩ (fun _=>trivial) ?_;refine aT aX rfl ⟨ct,trivial⟩ (fun _=>trivial) ?_;refine aT aX rfl ⟨ct,trivial⟩ (fun _=>trivial) ?_;refine aT aX rfl ⟨ct,trivial⟩ (fun _=>trivial) ?_
    refine aT bH rfl ⟨ct,id,trivial⟩ (fun h=>by (try dsimp only); first|omega|(simp [aV] at h; omega)) ?_;refine aT bH rfl ⟨id,id,trivial⟩ (fun h=>by (try dsimp only); first|omega|(simp [aV] at h; omega)) ?_;refine aj rfl c2 ?_;refine ag ?_;refine aI [2,3,6,9,10,11,44,47,50,66] rfl ?_;refine au rfl (fun hboth=> ?_) (fun hnot=> ?_)
    ·have hv:kZ o a M b=dK M a b (g12 M a o+g12 M o b):=by unfold kZ; rw [if_pos (by simpa using hboth)]
     refine dE mixed fun W6 hb6=> ?_;refine dL .weak 14 (by kernel_rfl) (by kernel_rfl) rfl rfl hb6 ?_;refine bL aX rfl ⟨ct,trivial⟩ (fun _=>trivial) ?_;refine bL aX rfl ⟨ct,trivial⟩ (fun _=>trivial) ?_;refine bL aX rfl ⟨ct,trivial⟩ (fun _=>trivial) ?_;refine bL aX rfl ⟨ct,trivial⟩ (fun _=>trivial) ?_;refine bL aX rfl ⟨ct,trivial⟩ (fun _=>trivial) ?_;refine bL bH rfl ⟨ct,ct,trivial⟩ (fun _=>by (try dsimp only); omega) ?_;refine bL bH rfl ⟨ct,ct,trivial⟩ (fun _=>by (try dsimp only); omega) ?_;refine aB rfl c1 ?_;refine bL aX rfl ⟨ct,trivial⟩ (fun _=>trivial) ?_;refine bL aX rfl ⟨ct,trivial⟩ (fun _=>trivial) ?_;refine bL bH rfl ⟨ct,ct,trivial⟩ (fun _=>by (try dsimp only); omega) ?_;refine bL bH rfl ⟨ct,ct,trivial⟩ (fun _=>by (try dsimp only); omega) ?_;refine aB rfl c2 ?_;refine aZ ?_;refine dD (iv [2,3,6,9,10,11,44,47,50,67,68,69,80] [(2,_,_),(3,_,_),(6,_,_),(9,_,_),(10,_,_),(11,_,_),(44,_,_),(47,_,_),(50,_,_),(67,_,_),(68,_,_),(69,_,_),(80,_,_)] rfl (fun w7 b7=>ek ?_));refine bV (by kernel_rfl) (by kernel_rfl) rfl ?_;have hT7:=hR5.t.next b7;refine bK rfl rfl ie153.q rfl (aa rfl ct (aa rfl ct (aa rfl ct ah))) (xW (t:=g12 M a o+g12 M o b) hT7 ht5.len (by omega) (by omega)) ?_
     rintro y9 w9 ⟨hbut9,hsz9,hB9⟩;refine bG (aS [2,3,6,9,10,11,44,47,50] [(2,_,_),(3,_,_),(6,_,_),(9,_,_),(10,_,_),(11,_,_),(44,_,_),(47,_,_),(50,_,_)] rfl (dJ ?_));refine ed rfl (aS [2,3,6,9,10,11,44,47,50] [(2,_,_),(3,_,_),(6,_,_),(9,_,_),(10,_,_),(11,_,_),(44,_,_),(47,_,_),(50,_,_)] rfl (bP (aD ?_)));refine ag ?_;have hR7:RS12 w w7 g2 g3 M:=⟨hR5.b.step b7,hR5.z.next b7,hT7⟩;refine aC (b+1) ⟨by omega,?_⟩;rw [hstep,hv];exact hput hR7 hbut9 hB9
    ·have hv:kZ o a M b=M:=by unfold kZ; rw [if_neg (by simpa using hnot)]
     refine ag ?_;refine aC (b+1) ⟨by omega,?_⟩;rw [hstep,hv];exact hR5
   ·have hb12:b=12:=by omega
    subst hb12;refine ag ?_;refine aC (a+1) ⟨by omega,?_⟩;rw [Ah];exact hR5
  ·have ha12:a=12:=by omega
   subst ha12;refine ag ?_;refine aC (o+1) ⟨by omega,?_⟩;rw [BG];exact hR4
 have ho12:o=12:=by omega
 subst ho12;have hend:gY M1 12=fe L:=by rw [hM1,fe]
 rw [hend] at hR3;have hlenE:=pp (lX hL).1.len;refine ag ?_;refine kE (jT (fe L)) rfl rfl underlying140 is140.q rfl ct (fun _=>fun j v hj=>hR3.t.fld hj) hlenE ?_;refine aQ rfl rfl rfl hR3.z is140.q hlenE (pp (qK 0)) (sQ _) ?_;rintro w9 hB9 hbut9 hsz9;refine ag ?_;exact Nf results81 underlying140 is140.q hlenE rfl hB9 ⟨hR3.b.grown hbut9 hR3.b.size (fun k hk=>by cases hk; omega),rfl⟩
theorem vT (h:ConsOK keys11 N):LnOK 12 (eP N):=h.ln.1.more h.ln.2.1
theorem zn (h:ConsOK keys11 N): ∀l∈N.lines,0<=l.frm/\0<=l.to:=fun l hl=>⟨(h.lines.good l hl).f1,(h.lines.good l hl).t1⟩
theorem CJ {v:NV} (ht:Tabs w) (hN:dI w v N):Gives prog 36 #[.agg v.cells.toArray] w fun u w'=>Below w.heap.size w w'/\ ∃A n c,u= .slice A n c/\(n=0↔SoundOK keys11 N):=by
 have hform:=NetIn.form hN;obtain ⟨vc,vn,vo,vf,vl,vk⟩:=v;obtain ⟨⟨A1,c1,e1⟩,⟨A2,c2,e2⟩,⟨A3,c3,e3⟩,⟨A4,c4,e4⟩,⟨A5,c5,e5⟩,⟨A6,c6,e6⟩⟩:=id hform;dsimp only at e1 e2 e3 e4 e5 e6;subst e1 e2 e3 e4 e5 e6;have m4:=hN.f.len.2.2;refine gv (f:=36) ?_;refine ag ?_;refine aG rfl rfl rfl rfl ?_;rintro g1 w1 f1;refine ag ?_;have hB1:=f1.blk;have hN1:=aL hN f1.below;refine aF rfl (fun _ _ hv=>hB1.fld hv) ?_;refine aA rfl (wX (v:=⟨.slice A1 N.cals.length c1,.slice A2 N.names.length c2,.slice A3 N.ops.length c3,.slice A4 N.offs.length c4,.slice A5 N.lines.length c5,.slice A6 N.classes.length c6⟩) (ht.below f1.below) hN1) ?_;rintro y2 w2 ⟨d2,n,hR,hn,hiff⟩;obtain ⟨Y,yc,rfl⟩:=FRow.form hR;have b2:=f1.below.step d2;have hB2:=hB1.next d2;refine ag ?_;refine ai rfl (fun hbad=> ?_) (fun hgood=> ?_)
 ·refine ag ?_;refine aW rfl ⟨b2,_,_,_,rfl,⟨fun h=>by omega,fun h=>hiff.2 h.cons⟩⟩
 have hcons:ConsOK keys11 N:=hiff.1 (by omega);have hL:=vT hcons;have hn12:=hcons.ln.2.1;obtain ⟨rel,hrel⟩: ∃r,r=fe (eP N):=⟨_,rfl⟩;have hok:=lX hL;rw [<-hrel] at hok;have hlen:=pp hok.1.len;have hn0:n=0:=by omega
 subst hn0;refine ag ?_;refine aF rfl (fun _ _ hv=>hB2.fld hv) ?_;refine aA rfl (vv (v:=⟨.slice A1 N.cals.length c1,.slice A2 N.names.length c2,.slice A3 N.ops.length c3,.slice A4 N.offs.length c4,.slice A5 N.lines.length c5,.slice A6 N.classes.length c6⟩) (aL hN1 d2) hL (zn hcons)) ?_;rintro y3 w3 ⟨d3,rfl⟩;rw [<-hrel];refine aM rfl BX rfl (hlen ▸ is140.q) (by rw [hlen]; rfl) (sQ _) ?_;rintro g4 w4 f4;refine ag ?_;have hB4:=(hB2.next d3).next f4.below;have hR4:=(hR.below d3).below f4.below;have b4:=(b2.step d3).step f4.below;have b14:Below w1.heap.size w1 w4:=(d2.step d3).step f4.below;have hYg: ∀g,(Value.slice Y 0 yc).ownBlock=some g->g≠g4:=fun g hg e=>by
  obtain ⟨zs,q1,_⟩:=hR;have:=q1.lt hg;have:=f4.at_;have:=d3.size;omega
 refine aj rfl (hB4.fld rfl) ?_;refine ag ?_;refine aJ [1,4,17] (fun z:Nat×Value×Nat=> [(3,none,z.2.1),(18,none,.int .i64 (z.1:Int))])
  (fun z W=>z.1<=N.offs.length/\Below w1.heap.size w1 W/\Blk W g4 140 (jT rel)/\FRow W w1.heap.size z.2.1 z.2.2/\(∀g,z.2.1.ownBlock=some g->g≠g4)/\z.2.2<=z.1/\(z.2.2=0↔ ∀a b,b<z.1->a<N.offs.length->ReachL (eP N) a b)) (fun z=>N.offs.length-z.1) (0,.slice Y 0 yc,0) ⟨ZB,b14,f4.blk,hR4,hYg,ZC,⟨fun _ a b hb=>by omega,fun _=>rfl⟩⟩ ?_
 rintro ⟨b,fv,n⟩ W ⟨hb,hW,hTW,⟨zs,hO,h2,h3⟩,h4g,hnb,hre⟩;dsimp only at hb hO h3 h4g hnb hre;have hB1W:=hB1.next hW;refine ag ?_;refine aI [1,3,4,17,18,19] rfl ?_;refine ai rfl (fun hlt=> ?_) (fun hge=> ?_)
 ·refine ag ?_;refine aj rfl (hB1W.fld rfl) ?_;refine ag ?_;refine aJ [1,3,4,5,17,18,23] (fun a:Nat=> [(24,none,.int .i64 (a:Int))])
   (fun a W'=>a<=N.offs.length/\W'=W/\ ∀i,i<a->ReachL (eP N) i b) (fun a=>N.offs.length-a) 0 ⟨ZB,rfl,fun i hi=>by omega⟩ ?_
  rintro a W' ⟨ha,rfl,hall⟩;refine ag ?_;refine ai rfl (fun hlt2=> ?_) (fun hge2=> ?_)
  ·have hc:=ll (a:=a) (b:=b) hTW hok.1.len (by omega) (by omega);have hiffab:=hok.2 a b (by omega) (by omega);refine fQ (aD (cO (fU (cO (bE ?_)))));refine aT aX rfl ⟨ct,trivial⟩ (fun _=>trivial) ?_;refine aT df rfl ⟨ct,trivial⟩ (fun _=>trivial) ?_;refine bG (aS [1,3,4,5,6,17,18,23,24] [(1,_,_),(3,_,_),(4,_,_),(5,_,_),(6,_,_),(17,_,_),(18,_,_),(23,_,_),(24,_,_)] rfl (aD ?_));refine cO (bE ?_);refine aT aX rfl ⟨ct,trivial⟩ (fun _=>trivial) ?_;refine aT aX rfl ⟨ct,trivial⟩ (fun _=>trivial) ?_;refine aT bH rfl ⟨ct,ct,trivial⟩ (fun _=>by (try dsimp only); omega) ?_;refine aT bH rfl ⟨ct,ct,trivial⟩ (fun _=>by (try dsimp only); omega) ?_;refine aj rfl hc ?_;refine ag ?_;refine ai rfl (fun hno=> ?_) (fun hyes=> ?_)
   ·have hnr:=hiffab.1 hno;refine ag ?_;refine aH [0,1,2] _ [.int .i64 3,.int .i64 (b:Int),.int .i64 111] rfl rfl rfl (aa rfl ct (aa rfl ct (aa rfl ct ah))) (by kernel_rfl) ?_;refine ak 167 _ rfl rfl rfl om (aa rfl ct ah) rfl rfl rfl rfl rfl ?_;rintro g5 w5 f5;refine aK [.int .i64 3,.int .i64 (b:Int),.int .i64 111] rfl rfl kV rfl (hO.below f5.below) rfl rfl (fun j u hj=>⟨_,rfl,f5.blk.fld hj⟩) (fun u hu=>by simp at hu; rcases hu with rfl|rfl|rfl<;>rfl) (by omega) (by omega) ?_;rintro fv' w6 hO6 hg6 hn6;refine ag ?_;have hW2:=hW.step f5.below;refine aC (b+1,fv',n+1) ⟨by show b+1<=_; omega,?_,GB.blk hg6 (hTW.next f5.below) (fun e=>h4g _ e rfl),FRow.app (w:=w5) h3 h2 (fun u hu=>by simp at hu; rcases hu with rfl|rfl|rfl<;>rfl) hO6 hn6 hW2.size,fun g hg=> ?_,by show n+1<=b+1; omega,⟨fun h=>absurd h (Nat.succ_ne_zero n),fun h=>absurd (h a b (by show b<b+1; omega) (by omega)) hnr⟩⟩
    ·exact hW2.grown hg6 hW2.size h3
    ·rcases hn6 with h|h
     ·exact h4g g (by rw [<-h]; exact hg)
     ·rw [h] at hg;cases hg;have:=hTW.lt;have:=f5.below.size;omega
   ·have hr:ReachL (eP N) a b:=Classical.byContradiction fun h=>hyes (hiffab.2 h);refine ag ?_;refine aC (a+1) ⟨by omega,rfl,fun i hi=> ?_⟩;rcases ZI i a with h|h
    ·exact hall i h
    ·have:i=a:=by omega
     subst this;exact hr
  ·refine ag ?_;refine aC (b+1,fv,n) ⟨by show b+1<=_; omega,hW,hTW,⟨zs,hO,h2,h3⟩,h4g,by show n<=b+1; omega,?_⟩;show n=0↔ ∀x y,y<b+1->x<N.offs.length->ReachL (eP N) x y;rw [hre];refine ⟨fun h x y hy hx=> ?_,fun h x y hy hx=>h x y (by omega) hx⟩;rcases ZI y b with h'|h'
   ·exact h x y h' hx
   ·have:y=b:=by omega
    subst this;exact hall x (by omega)
 ·have hbl:b=N.offs.length:=by omega
  subst hbl;obtain ⟨Z,zc,hzv,_⟩:=hO.form;subst hzv;refine ag ?_;refine aW rfl ⟨f1.below.step hW,_,_,_,rfl,?_⟩;rw [hre];exact ⟨fun h=>⟨hcons,fun a b ha hb=>h a b hb ha⟩,fun h a b hb ha=>h.all a b ha hb⟩
theorem yK (h:SoundOK keys11 N) {l:Li} (hl:l∈N.lines):eB l.frm/\eB l.to/\0<=l.trav/\l.trav<=1000000:=by
 have ho:=h.cons.lines.good l hl;have hf:=h.cons.offs.few;have h1:=ho.f1;have h2:=ho.f2;have h3:=ho.t1;have h4:=ho.t2;have h5:=ho.r1;have h6:=ho.r2;exact ⟨⟨by omega,by omega⟩,⟨by omega,by omega⟩,by omega,by omega⟩
theorem Ck (h:SoundOK keys11 N) (h0:0<=t) (h1:t<=1000000): ∀p∈jZ N t,p.2.OK/\eB p.1.1/\eB p.1.2:=fun p hp=>by
 have hf:=h.cons.offs.few;have hl:=h.cons.lines.few;rcases ZH hp with hp|hp
 ·unfold pI at hp;obtain ⟨i,hi,rfl⟩:=List.mem_map.1 hp;have:=List.mem_range.1 hi;have hI:eB (i:Int):=⟨by omega,by omega⟩;exact ⟨⟨hI,⟨by omega,by omega⟩,⟨by omega,by omega⟩⟩,hI,⟨by show (-9223372036854775808:Int)<= -1; omega,by show (-1:Int)<=9223372036854775807; omega⟩⟩
 ·unfold rF at hp;obtain ⟨i,hi,rfl⟩:=List.mem_mapIdx.1 hp;obtain ⟨q1,q2,q3,q4⟩:=yK h (List.getElem_mem hi);exact ⟨⟨q1,q2,q3,q4,h0,h1⟩,⟨by show (-9223372036854775808:Int)<= -1; omega,by show (-1:Int)<=9223372036854775807; omega⟩,⟨by show -9223372036854775808<=(i:Int); omega,by show (i:Int)<=_; omega⟩⟩
theorem ve {d:bA} {l:List Ev} {nw:Nat} (hf:FitW d l nw) (ws:List (List Int)): ∀r∈bU l ws,r.length<=14:=fun r hr=>by
 obtain ⟨S,_,rfl⟩:=List.mem_map.1 hr;exact Nat.le_trans (jN l S).length_le hf.few
theorem Al {v:NV} {dv lv wv:Value} {d:bA} {l:List Ev} {ws:List (List Int)} (ht:Tabs w) (hN:dI w v N) (hd:SD w dv d) (hl:SE w lv l) (hS:SD w wv ws) (hne: ∀e∈l,e.needs.length<=1000000) :
  Gives prog 23 #[.agg v.cells.toArray,dv,lv,wv,.int .i64 t] w fun x w'=>Below w.heap.size w w'/\SPs w' x (ig N d l ws t):=by
 have hform:=NetIn.form hN;obtain ⟨A,cap,rfl,hcap⟩:=hd.form;obtain ⟨B,lcap,rfl,hlcap⟩:=hl.form;obtain ⟨X,xcap,rfl,_⟩:=hS.form;have hv: ∃A4 c4,v.f= .slice A4 N.offs.length c4:=hform.f;obtain ⟨vc,vn,vo,vf,vl,vk⟩:=v;obtain ⟨A4,c4,e4⟩:=hv;dsimp only at e4;subst e4;refine LX (f:=23) ?_;refine ag ?_;refine aG rfl rfl rfl rfl ?_;rintro g5 w1 f1;refine aG rfl rfl rfl rfl ?_;rintro g6 w2 f2;refine ag ?_;have b2:=f1.below.step f2.below;have hB5:=f1.blk.next f2.below;have hB6:=f2.blk;refine aF rfl (fun _ _ hv=>hB5.fld hv) ?_;refine aA rfl (CJ (ht.below b2) (aL hN b2)) ?_;rintro y3 w3 ⟨c3,C3,n3,k3,rfl,hn3⟩;have b3:=b2.step c3;have hB53:=hB5.next c3;have hB63:=hB6.next c3;refine ag ?_;refine aj rfl (hB63.cell 0) ?_;refine ag ?_;refine aO (cap:= []) rfl rfl ie57.q rfl ct (aa rfl id (aa rfl id (aa rfl id ah))) (fun _=>vM (aU hd b3) (aY hl b3)) ?_;rintro w4 c4';refine ag ?_;have b4:=b3.step c4';have hB54:=hB53.next c4';have hB64:=hB63.next c4';refine aj rfl (hB64.cell 0) ?_;refine ag ?_;refine aj rfl (hB54.fld rfl) ?_;refine ag ?_;refine aI [0,1,2,3,4,5,6,10,33] rfl ?_;have hbad': ∀ {p:Prop},(p->PossOK N d l ws.length t)->True:=fun _=>trivial;refine au rfl (fun hbad=> ?_) (fun hgood=> ?_)
 ·refine ag ?_;refine F6 results23 rfl ⟨b4,?_⟩;have hno: ¬PossOK N d l ws.length t:=fun h=>by
   have e0:n3=0:=hn3.2 h.sound;have e1:=h.same;rw [ay h.fit] at hbad;simp [e0,e1] at hbad
  unfold ig;rw [az hno];exact SL.nil _ _ _
 have hg:n3=0/\FitW d l ws.length/\d.length=N.offs.length:=by
  by_cases hfw:FitW d l ws.length
  ·rw [ay hfw] at hgood;simp at hgood;exact ⟨by omega,hfw,by omega⟩
  ·rw [az hfw] at hgood;simp at hgood
 obtain ⟨e0,hfw,hsame⟩:=hg;have hsnd:=hn3.1 e0;refine ag ?_;refine au rfl (fun hbt=> ?_) (fun hgt=> ?_)
 ·refine ag ?_;refine F6 results23 rfl ⟨b4,?_⟩;have hno: ¬PossOK N d l ws.length t:=fun h=>by
   have e0:=h.t0;have e1:=h.t1;simp at hbt;omega
  unfold ig;rw [az hno];exact SL.nil _ _ _
 have ht01:0<=t/\t<=1000000:=by simp at hgt; omega
 have hok:PossOK N d l ws.length t:=⟨hsnd,hfw,hsame,ht01.1,ht01.2⟩;have hkn:=Ck hsnd ht01.1 ht01.2;have hoff:=hsnd.cons.offs.few;have hlin:=hsnd.cons.lines.few;have hwl:=hfw.worlds;have hll:=hfw.few;refine ag ?_;refine dC rfl rfl Oi ?_;rintro g11 w5 f5;refine ag ?_;have b5:=b4.step f5.below;refine aA rfl (vg (aY hl b5) (aU hS b5) (by omega) hne (by omega)) ?_;rintro rv w6 ⟨c6,hR6⟩;obtain ⟨R6,rc6,rfl,_⟩:=hR6.form;have b6:=b5.step c6;refine il rfl Oh rfl is98.q rfl ?_;rintro g12 w7 f7;refine ag ?_;refine jw [0,1,2,3,4,5,6,10,11,12] rfl ?_;have b7:=b6.step f7.below;have hB57:=hB54.next (f5.below.step (c6.step f7.below));refine aF rfl (fun _ _ hv=>hB57.fld hv) ?_;refine ag ?_;refine aA rfl (Gj) ?_;rintro y8 w8 ⟨c8,gN,gT,rfl,hBN,hBT,hgN,hgT⟩;have b8:=b7.step c8;refine ag ?_;have s5:=f5.below.size;have s4:=b4.size;have s6:=c6.size;have s7:=f7.below.size;have s8:=c8.size;have q5:=f5.at_;have q5':=f5.size;have q7:=f7.at_;have q7':=f7.size;have hB6':Blk w8 g6 30 [.slice A d.length cap]:=hB64.next (f5.below.step (c6.step (f7.below.step c8)));have hB11:Blk w8 g11 54 [.slice none 0 0]:=f5.blk.next (c6.step (f7.below.step c8))
 have hB12:Blk w8 g12 98 [.slice R6 (bU l ws).length rc6]:=f7.blk.next c8;have q6:g6<w4.heap.size:=hB64.lt;have q5g:w.heap.size<=g6:=by have:=f2.at_; have:=f1.below.size; omega
 have hR8:SL (sliceT evT) (fun k=>w5.heap.size<=k/\k<w6.heap.size) w8 (.slice R6 (bU l ws).length rc6) (bU l ws):=hR6.below (f7.below.step c8);have hN8:NetIn (fun k=>k<w.heap.size) w8 ⟨vc,vn,vo,.slice A4 N.offs.length c4,vl,vk⟩ N:=NetIn.below hN b8;have hit:=yt hN8 (fun k hk=>by omega) hBN hBT ⟨by omega,by omega⟩;refine lL rfl ie115.q hit rfl (fun _=>rfl)
  (fun pre M W=>Below w.heap.size w W/\w8.heap.size<=W.heap.size/\Blk W g6 30 [.slice A d.length cap]/\Blk W g12 98 [.slice R6 (bU l ws).length rc6]/\SL (sliceT evT) (fun k=>w5.heap.size<=k/\k<w6.heap.size) W (.slice R6 (bU l ws).length rc6) (bU l ws)/\ ∃vf ps,Blk W g11 54 [vf]/\RowN wE W 58 w8.heap.size vf ps/\ps.map (·.2)=((pre.map (·.2)).filter (fun p=>jg d (bU l ws) p.2)).map (·.1)/\M=fun k=>k=g11∨vf.ownBlock=some k)
  (fun c pre M W=>False) (fun k=>k=g11) ?_ ?_ ?_ (fun _ _ _ _ _ h _=>h) ?_ ?_ ?_ ?_
 ·rintro k rfl;refine ⟨by omega,?_⟩;rintro (rfl|rfl|h)
  ·omega
  ·omega
  ·omega
 ·rintro k (rfl|rfl|h)
  ·exact hBN.lt
  ·exact hBT.lt
  ·omega
 ·rintro pre M W1 W2 ⟨a1,a2,a3,a4,aR,vf,ps,a5,a6,a7,a8⟩ hx;exact ⟨(hx.less (by omega)).below a1 ZC,Nat.le_trans a2 hx.size,a3.ext hx,a4.ext hx,aR.ext hx,vf,ps,a5.ext hx,a6.ext hx,a7,a8⟩
 ·exact ⟨b8,ZC,hB6',hB12,hR8,.slice none 0 0,[],hB11,RowN.nil _ _ _ _,rfl,by funext k; simp [Value.ownBlock]⟩
 ·rintro D L pre ⟨fv,s,K⟩ M W hD hL ⟨a1,a2,a3,a4,aR,vf,ps,a5,a6,a7,rfl⟩ ⟨hp1,hp2,bF,hfm⟩ hMlt hML hMD hrec;dsimp only at hp1 hp2 hfm;have hpsl:ps.length<=2000:=by
   have e1:ps.length=(ps.map (·.2)).length:=by simp
   rw [e1,a7,List.length_map];have e2:=List.length_filter_le (fun p=>jg d (bU l ws) p.2) (pre.map (·.2));have e3:pre.length<(jZ N t).length:=(ZE hp2).1;rw [pG] at e3;rw [List.length_map] at e2;omega
  obtain ⟨hKI,hs1,hs2⟩:=hkn _ (ZF hp2);dsimp only at hKI hs1 hs2;refine ag ?_;refine aM rfl MU rfl is58.q rfl rfl ?_;rintro g13 w9 f9;refine ag ?_;refine lJ (hrec.kept (f9.below.block L hrec.lt)) fun W2 hx2 hsz2 hk2 hrec2=> ?_;have q13:=f9.at_;have q13':=f9.size;have hWW2:ExtF 0 W W2:=(ExtF.of_below f9.below).trans (hx2.less ZB);have a1':Below w.heap.size w W2:=(hx2.less (by omega)).below (a1.step f9.below) ZC;have a3':=a3.ext hWW2;have a4':=a4.ext hWW2;have aR':=aR.ext hWW2;have a5':=a5.ext hWW2;have a6':=a6.ext hWW2;have hB13:=f9.blk.ext hx2;have hLW:L<W.heap.size:=hrec.lt;have kW2: ∀k,k<W.heap.size->k≠L->W2.heap[k]?=W.heap[k]?:=fun k h1 h2=>(hk2 k h2).trans (f9.below.block k h1);obtain ⟨kf,caps,rfl,hen,hfo⟩:=(hfm.ext hWW2).ok hKI;refine ag ?_;refine aj rfl (a3'.cell 0) ?_;refine aj rfl (a4'.cell 0) ?_;refine ag ?_;refine aA rfl (KG (aU hd a1') (aR'.wider fun q hq=>by omega) hen hfo hKI (ve hfw ws)) ?_;rintro y3 W3 ⟨hb3,rfl⟩;refine ag ?_;have hL2:L<W2.heap.size:=hrec2.lt;have rec3:W3.heap[L]?=W2.heap[L]?:=hb3.block L hL2;have s3:=hb3.size;have a1'':=a1'.step hb3;have a5'':=a5'.next hb3;have a6'':=a6'.step hb3;have hB13':=hB13.next hb3
  have hvlt: ∀q,vf.ownBlock=some q->w8.heap.size<=q/\q<W.heap.size:=fun q hq=>⟨a6.2.2 q hq,a6.1.lt hq⟩;have hLv:vf.ownBlock≠some L:=fun e=>hML (.inr e);have hDv:vf.ownBlock≠some D:=fun e=>hMD (.inr e);have hLg:L≠g11:=fun e=>hML (.inl e);have hDg:D≠g11:=fun e=>hMD (.inl e);have hfs: ∀(x:MM),((pre++ [x]).map (·.2)).filter (fun p=>jg d (bU l ws) p.2)=(pre.map (·.2)).filter (fun p=>jg d (bU l ws) p.2)++if jg d (bU l ws) x.2.2 then [x.2] else []:=fun x=>by
   rw [List.map_append,List.filter_append];cases hq:jg d (bU l ws) x.2.2<;>simp [List.filter,hq]
  refine au rfl (fun hyes=> ?_) (fun hno=> ?_)
  ·refine bE ?_;refine aj rfl (a5''.cell 0) ?_;refine aF rfl (fun _ _ hv=>hB13'.fld hv) ?_;refine ak 58 _ rfl rfl rfl Md (aa rfl ct ah) rfl rfl rfl rfl rfl ?_;rintro g54 w10 f10;have o10:=a6''.1.below f10.below;refine aK (zY s) rfl rfl LY rfl o10 rfl rfl (fun j v hj=>⟨⟨g54,0,none⟩,rfl,f10.blk.fld hj⟩) (fun v hv=>by simp [zY] at hv; rcases hv with rfl|rfl<;>rfl) (by omega) (by omega) ?_;rintro vf' w11 o11 hg11 hn11;have s10:=f10.below.size;have s11:=hg11.size;have b11:Blk w11 g11 54 [vf]:=Blk.keptO (a5''.next f10.below) hg11 (fun e=>by have:=hvlt _ e; omega);obtain ⟨A8,c8,hv8,_⟩:=o11.form;have h18:vf'.oneCell'=true:=by rw [hv8]; rfl
   refine gU rfl is54.q rfl rfl (b11.cell 0) (b11.frozen 0) h18 ?_;refine ag ?_;have r11:RowN wE w11 58 w8.heap.size vf' (ps++ [(zY s,s)]):=RowN.app (a6''.step f10.below) o11 hg11 hn11 ⟨rfl,hs1,hs2⟩ (by omega);have r12:=r11.setCell (g:=g11) (i:=0) (by omega) vf';have hnew: ∀q,vf'.ownBlock=some q->vf.ownBlock=some q∨q=w10.heap.size:=fun q hq=>by
    rcases hn11 with h|h
    ·exact .inl (by rw [<-h]; exact hq)
    ·rw [h] at hq; cases hq; exact .inr rfl
   have rec11:w11.heap[L]?=W2.heap[L]?:=(hg11.block L (by omega) (fun e=>hLv e.symm)).trans ((f10.below.block L (by omega)).trans rec3);have kept11: ∀k,k<W.heap.size-> ¬(k=g11∨vf.ownBlock=some k)->k≠L->w11.heap[k]?=W.heap[k]?:=fun k h1 h2 h3 =>
    (hg11.block k (by omega) (fun e=>h2 (.inr e.symm))).trans ((f10.below.block k (by omega)).trans ((hb3.block k (by omega)).trans (kW2 k h1 h3)))
   have hb11:Below w.heap.size w w11:=(a1''.step f10.below).grown hg11 (a1''.step f10.below).size (fun q hq=>by have:=hvlt q hq; omega);have b6w:Blk w11 g6 30 [.slice A d.length cap]:=Blk.keptO ((a3'.next hb3).next f10.below) hg11 (fun e=>by have:=hvlt _ e; omega);have b12w:Blk w11 g12 98 [.slice R6 (bU l ws).length rc6]:=Blk.keptO ((a4'.next hb3).next f10.below) hg11 (fun e=>by have:=hvlt _ e; omega);have aR11:SL (sliceT evT) (fun k=>w5.heap.size<=k/\k<w6.heap.size) (w11.setCell ⟨g11,0,none⟩ vf') (.slice R6 (bU l ws).length rc6) (bU l ws):=((aR'.below hb3).below f10.below).mono (bn fun k hk hlt=>(Below.heap_setCell _ _ _ _ (fun e=>by have e:k=g11:=e; omega)).trans (hg11.block k hlt (fun e=>by have:=hvlt k e.symm; omega)));refine jL (hrec2.kept ((Below.heap_setCell _ _ _ _ (by show L≠g11; exact hLg)).trans rec11)) fun W9 hx9 hsz9 hk9 hrec9=> ?_;have hs9:W9.heap.size=w11.heap.size:=by rw [hsz9]; simp
   refine ⟨by omega,fun k h1 h2 h3=>(hk9 k h3).trans ((Below.heap_setCell _ _ _ _ (fun e=>h2 (.inl e))).trans (kept11 k h1 h2 h3)),fun _=>⟨fun k=>k=g11∨vf'.ownBlock=some k,⟨⟨(hx9.less (by omega)).below (hb11.setCell (by show w.heap.size<=g11; omega) _) ZC,by omega,(b6w.far (by show g6≠g11; omega) vf').ext hx9,(b12w.far (by show g12≠g11; omega) vf').ext hx9,aR11.ext hx9,vf',_,(b11.set 0 vf').ext hx9,r12.ext hx9,?_,rfl⟩,?_,?_,hrec9⟩,fun k hk=> ?_⟩,fun h=>by cases h⟩
   ·rw [hfs,List.map_append,List.map_append,a7];simp [hyes]
   ·rintro (h|h)
    ·exact hLg h
    ·rcases hnew L h with h|h
     ·exact hLv h
     ·omega
   ·rintro (h|h)
    ·exact hDg h
    ·rcases hnew D h with h|h
     ·exact hDv h
     ·omega
   ·rcases hk with rfl|hk
    ·exact ⟨.inl (.inl rfl),by omega⟩
    ·rcases hnew k hk with h|h
     ·exact ⟨.inl (.inr h),by have:=hvlt k h; omega⟩
     ·refine ⟨.inr (by omega),?_⟩;have:=o11.lt hk;omega
  ·refine ag ?_;refine jL (hrec2.kept rec3) fun W8 hx8 hsz8 hk8 hrec8=> ?_;refine ⟨by omega,fun k h1 h2 h3=>(hk8 k h3).trans ((hb3.block k (by omega)).trans (kW2 k h1 h3)),fun _=>⟨fun k=>k=g11∨vf.ownBlock=some k,⟨⟨(hx8.less (by omega)).below a1'' ZC,by omega,(a3'.next hb3).ext hx8,(a4'.next hb3).ext hx8,(aR'.below hb3).ext hx8,vf,ps,a5''.ext hx8,a6''.ext hx8,?_,rfl⟩,hML,hMD,hrec8⟩,fun k hk=> ?_⟩,fun h=>by cases h⟩
   ·rw [hfs,List.map_append,a7];simp [hno]
   ·refine ⟨.inl hk,?_⟩;rcases hk with rfl|hk
    ·omega
    ·have:=hvlt k hk; omega
 ·rintro D xs M W hD hdone ⟨a1,a2,a3,a4,aR,vf,ps,a5,a6,a7,rfl⟩ hMD hdef;have hdone':xs.map (·.2)=jZ N t:=hdone;have hDn:D<W.heap.size:=(Array.getElem?_eq_some_iff.1 hdef).1;have hput:ExtF w8.heap.size W (W.putObj D (.deferred none)):=ExtF.putObj hdef rfl hD;have hBp:Below w.heap.size w (W.putObj D (.deferred none)):=iT a1 (by omega);refine bP (aD ?_);refine ag ?_;refine aj rfl (a5.cell 0) ?_;refine ag ?_;refine Cf results23 rfl hdef ⟨hBp,?_⟩;rw [wL hok];unfold lT;rw [<-hdone',<-a7];exact ((a6.ext hput).sl (by show 0<2; omega)).wider fun _ h=>h.2
 ·rintro D c pre M W hD h;exact h.elim
end Go.Proofs.YtobaafdejnimkaaGreatDoor
namespace Go.PF
open Go.RowKit
section
variable {P:Program} {N:Nat} {E:Env} {w:World} {fn:Func} {R:Value->World->Prop}
theorem ik {s u:Nat} {t t1:TypeId} {fs:Array Field} {g:Nat} {cs:List Value} {v:Value} (hres:fn.results= #[.cell s t,.tmp u]) (hu:P.underlying t=some (.struct fs)) (hs:(P.info? t).map (·.size)=some cs.length) (hl:look E s=some (none,.pointer (some ⟨g,0,none⟩))) (hv:look E u=some (none,v)) (hB:Blk w g t1 cs) (hR:R (.tuple #[.agg cs.toArray,v]) w) :
  KW N [] (bodyPost P fn (fun e w'=> ∃v,e= .returned v/\R v w') .ret) E w:=fun a ha=>by
 refine bodyPost_ret (v:= .tuple #[.agg cs.toArray,v]) ?_ ha.defers ⟨_,rfl,hR⟩;have e:a.tmps.getD s undef= .pointer (some ⟨g,0,none⟩):=(ha.slots s none _ hl).1 trivial;have e2:a.tmps.getD u undef=v:=(ha.slots u none _ hv).1 trivial;simp only [Array.getD_eq_getD_getElem?] at e e2;simp [results,hres,e,e2,asAddr,lV hu hs (fun j v hj=>hB.fld hj)]
end
end Go.PF
namespace Go.Proofs.YtobaafdejnimkaaGreatDoor
open Tryz
open Go.PF Go.RowKit Go.Ord
attribute [local irreducible] TW CW KW DW
variable {l:List Ev} {ws:List (List Int)} {o t:Int}
def Ph:List qR->qR×Bool
 | [s]=>(s,true)
 | _=>((0,0),false)
theorem Ch {w:World} {dv lv wv:Value} {d:bA} {f:Int} (hd:SD w dv d) (hl:SE w lv l) (hS:SD w wv ws) (hne: ∀e∈l,e.needs.length<=1000000) (hI:Knd.OK (.at o f t)) :
  Gives prog 21 #[dv,lv,wv,.int .i64 o,.int .i64 f,.int .i64 t] w fun x w'=>Below w.heap.size w w'/\x= .bool (fM d l ws o f t):=by
 obtain ⟨A,cap,rfl,hcap⟩:=hd.form;obtain ⟨B,lcap,rfl,hlcap⟩:=hl.form;obtain ⟨X,xcap,rfl,_⟩:=hS.form;refine gv (f:=21) ?_;refine ag ?_;refine aA rfl (vM hd hl) ?_;rintro y w1 ⟨b1,rfl⟩;refine ag ?_;refine au rfl (fun hbad=> ?_) (fun hgood=> ?_)
 ·refine ag ?_;refine aW rfl ⟨b1,?_⟩;unfold fM
  cases hf:dec (FitW d l ws.length) with
  | false=>rfl
  | true =>
   rw [hf] at hbad;simp at hbad;rw [decide_eq_false (by omega)];rfl
 have hg:FitW d l ws.length/\0<=o/\o<(d.length:Int):=by
  by_cases hf:FitW d l ws.length
  ·rw [ay hf] at hgood;simp at hgood;exact ⟨hf,by omega,by omega⟩
  ·rw [az hf] at hgood;simp at hgood
 have hwl:=hg.1.worlds;have hll:=hg.1.few;refine ag ?_;refine aA rfl (vg (aY hl b1) (aU hS b1) (by omega) hne (by omega)) ?_;rintro rv w2 ⟨c2,h2⟩;refine ag ?_;refine aA rfl (B6) ?_;rintro fv w3 ⟨c3,h3⟩;obtain ⟨kf,caps,rfl,hen,hfo⟩:=h3.ok hI;have b2:=b1.step c2;have b3:=b2.step c3;refine aA rfl (KG (aU hd b3) ((h2.below c3).wider fun q hq=>by have:=c3.size; omega) hen hfo hI (ve hg.1 ws)) ?_;rintro y4 w4 ⟨c4,rfl⟩;refine ag ?_;refine aW rfl ⟨b3.step c4,?_⟩;unfold fM;rw [ay hg.1,decide_eq_true hg.2];rfl
theorem seen_eq:(decide (0<ws.length)&& !(ws.any fun S=>decide ((bz (l.filter (dQ o t)) S).length=0)))=kH l ws o t:=by
 unfold kH
 congr 1
 rw [List.not_any_eq_all_not];refine Ii ?_;rw [List.all_eq_true,List.all_eq_true];refine forall_congr' fun S=>forall_congr' fun _=> ?_;have e:bz (l.filter (dQ o t)) S=(bz l S).filter (dQ o t):=by
  unfold bz;rw [List.filter_filter,List.filter_filter];exact List.filter_congr fun x _=>Bool.and_comm _ _
 rw [e];constructor
 ·intro h;have h: ¬((bz l S).filter (dQ o t)).length=0:=by simpa using h
  obtain ⟨x,hx⟩:=List.exists_mem_of_length_pos (Nat.pos_of_ne_zero h);obtain ⟨h1,h2⟩:=List.mem_filter.1 hx;exact List.any_eq_true.2 ⟨x,h1,h2⟩
 ·intro h;obtain ⟨x,h1,h2⟩:=List.any_eq_true.1 h;have:=List.length_pos_of_mem (List.mem_filter.2 ⟨h1,h2⟩);rw [decide_eq_false (by omega)];rfl
theorem K6 {w:World} {lv wv:Value} (hl:SE w lv l) (hS:SD w wv ws) (hsm:l.length<=1000000) (hne: ∀e∈l,e.needs.length<=1000000) :
  Gives prog 22 #[lv,wv,.int .i64 o,.int .i64 t] w fun x w'=>Below w.heap.size w w'/\x= .bool (kH l ws o t):=by
 obtain ⟨B,lcap,rfl,hlcap⟩:=hl.form;obtain ⟨X,xcap,rfl,_⟩:=hS.form;refine gv (f:=22) ?_;refine ag ?_;refine dC rfl rfl Ol ?_;rintro g9 w1 f1;refine ag ?_;have q9:=f1.at_;have q9':=f1.size;refine aJ [1,2,3,9,13,14] (fun x:Nat×Value×List (List Value×Ev)=> [(15,none,.int .i64 (x.1:Int))])
  (fun x W=>x.1<=l.length/\Below w.heap.size w W/\w1.heap.size<=W.heap.size/\Blk W g9 31 [x.2.1]/\OwnS W 60 4 x.2.1 x.2.2.length (x.2.2.flatMap (·.1))/\(∀g,x.2.1.ownBlock=some g->w1.heap.size<=g)/\x.2.2.map (·.2)=(l.take x.1).filter (dQ o t)/\ ∀p∈x.2.2,evT.rep (fun k=>k<w.heap.size) w p.1 p.2) (fun x=>l.length-x.1) (0,.slice none 0 0,[]) ⟨ZB,f1.below,ZC,f1.blk,OwnS.nil _ _ _,fun g hg=>by simp [Value.ownBlock] at hg,rfl,fun p hp=>by cases hp⟩ ?_
 rintro ⟨i,vf,ps⟩ W ⟨hi,hB,hsW,hB9,hO,hob,hmap,hrep⟩;dsimp only at hi hB9 hO hob hmap hrep;have hpl:ps.length<=l.length:=by
  have:=congrArg List.length hmap;simp only [List.length_map] at this;have h2:=List.length_filter_le (dQ o t) (l.take i);rw [List.length_take] at h2;omega
 refine ag ?_;refine ai rfl (fun hlt=> ?_) (fun hge=> ?_)
 ·obtain ⟨e,he,hem⟩:=bD (l:=l) (k:=i) (by omega);obtain ⟨ad,rfl⟩:=hl.addr (by omega);obtain ⟨nv,hcells0,i1,i2,i3,hn0⟩:=SE.get hl he;obtain ⟨C,ncap,rfl,_⟩:=hn0.form;have hcells: ∀j u,[Value.int .i64 e.office,.int .i64 e.low,.int .i64 e.high,.slice C e.needs.length ncap][j]?=some u->W.cell? ((ad.add ((i:Int).toNat*4)).add j)=some u:=fun j u hj=>(hB.cell (block_lt_of_cell (hcells0 j u hj))).trans (hcells0 j u hj);have htk:(l.take (i+1)).filter (dQ o t)=(l.take i).filter (dQ o t)++if dQ o t e then [e] else []:=by
   rw [ZG,he,List.filter_append];cases hq:dQ o t e<;>simp [List.filter,hq]
  refine ag ?_;refine aF rfl (hcells) ?_;refine aM rfl nY rfl is60.q rfl rfl ?_;rintro g11 w2 f2;refine ag ?_;have hB92:=hB9.next f2.below;refine aj rfl (f2.blk.fld rfl) ?_;refine ag ?_;refine aj rfl (f2.blk.fld rfl) ?_;refine ag ?_;refine aI [1,2,3,9,11,13,14,15,28] rfl ?_;refine au rfl (fun hyes=> ?_) (fun hno=> ?_)
  ·refine bE ?_;refine aj rfl (hB92.cell 0) ?_;refine aF rfl (fun _ _ hv=>f2.blk.fld hv) ?_;refine ak 60 _ rfl rfl rfl qP (aa rfl ct ah) rfl rfl rfl rfl rfl ?_;rintro g3 w3 f3;have b3:=f2.below.step f3.below;have hB3:=hB.step b3;have s3:=b3.size;refine aK [.int .i64 e.office,.int .i64 e.low,.int .i64 e.high,.slice C e.needs.length ncap] rfl rfl uS rfl (hO.below b3) rfl rfl (fun j v hj=>⟨⟨g3,0,none⟩,rfl,f3.blk.fld hj⟩) (fun v hv=>by simp at hv; rcases hv with rfl|rfl|rfl|rfl<;>rfl) (by omega) (by omega) ?_;rintro vf' w4 o4 hg4 hn4;have s4:=hg4.size;have hB94:Blk w4 g9 31 [vf]:=Blk.keptO (hB9.next b3) hg4 (fun e=>by have:=hob _ e; omega);obtain ⟨A8,c8,hv8,_⟩:=o4.form;have h18:vf'.oneCell'=true:=by rw [hv8]; rfl
   refine gU rfl is31.q rfl rfl (hB94.cell 0) (hB94.frozen 0) h18 ?_;refine ag ?_;have hob': ∀g,vf'.ownBlock=some g->w1.heap.size<=g:=fun g hg=>by
    rcases hn4 with h|h
    ·exact hob g (by rw [<-h]; exact hg)
    ·rw [h] at hg; cases hg; omega
   have hB4:Below w.heap.size w w4:=hB3.grown hg4 hB3.size (fun q hq=>by have:=hob q hq; omega);refine aC (i+1,vf',ps++ [([.int .i64 e.office,.int .i64 e.low,.int .i64 e.high,.slice C e.needs.length ncap],e)]) ⟨by show i+1<=l.length; omega,hB4.setCell (by show w.heap.size<=g9; omega) _,by simp; omega,hB94.set 0 vf',?_,hob',?_,fun p hp=> ?_⟩
   ·show OwnS _ _ 4 vf' (ps++ [_]:List (List Value×Ev)).length ((ps++ [_]:List (List Value×Ev)).flatMap fun p=>p.1);rw [List.flatMap_append,List.length_append];have:=OwnS.kept o4 (w':=w4.setCell ⟨g9,0,none⟩ vf') fun q hq=>Below.heap_setCell _ _ _ _ (fun e=>by have e:q=g9:=e; have:=hob' q hq; omega);simpa using this
   ·show List.map Prod.snd (ps++ [_])=(l.take (i+1)).filter (dQ o t);rw [List.map_append,hmap,htk];have:dQ o t e=true:=by
     unfold dQ;simpa [and_comm] using hyes
    rw [this];rfl
   ·rcases ZH hp with h|h
    ·exact hrep p h
    ·rw [List.mem_singleton] at h;subst h;exact ⟨_,rfl,i1,i2,i3,hn0⟩
  ·refine ag ?_;refine aC (i+1,vf,ps) ⟨by show i+1<=l.length; omega,hB.step f2.below,by have:=f2.below.size; omega,hB92,hO.below f2.below,hob,?_,hrep⟩;show ps.map (·.2)=(l.take (i+1)).filter (dQ o t);have:dQ o t e=false:=by
    unfold dQ
    cases hq:decide (e.office=o/\e.high<=t) with
    | false=>rfl
    | true=>exact absurd (by simpa using hq) (by simpa using hno)
   rw [hmap,htk,this];simp
 have hie:i=l.length:=by omega
 subst hie;rw [List.take_length] at hmap;have hth:SE W vf (l.filter (dQ o t)):=by
  have:=uH (by decide) hB hrep hO rfl (by omega);rw [hmap] at this;exact this.wider fun q hq=>hq.elim (fun h=>by have:=hB.size; omega) (fun h=>hO.lt h)
 refine ag ?_;refine aN rfl rfl (aa rfl ct ah) ?_;refine ag ?_;refine aO (cap:= []) rfl rfl ie62.q rfl ct (aa rfl id (aa rfl id ah)) (fun _=>Fe (aU hS hB) ie61.q (Jh hB9 hth (by have:=List.length_filter_le (dQ o t) l; omega) (fun e he=>hne e ((List.mem_filter (p:=dQ o t)).1 he).1))) ?_;rintro w5 c5;refine ag ?_;refine aW rfl ⟨hB.step c5,?_⟩;rw [<-seen_eq];simp
end Go.Proofs.YtobaafdejnimkaaGreatDoor
namespace Go.Ord
variable {d:bA}
def pc:Nat->Nat
 | 0=>0
 | n+1=>(n+1)%2+pc ((n+1) / 2)
decreasing_by omega
theorem Gl (n:Nat):pc n=n%2+pc (n / 2):=by
 cases n with
 | zero=>simp [pc]
 | succ n=>rw [pc]
theorem AZ (u:U) (us:List U) (m:Nat):left (u::us) m=(if m.testBit 0 then [] else [u])++left us (m / 2):=by
 unfold left;rw [List.length_cons,List.range_succ_eq_map,List.filterMap_cons,List.filterMap_map];have e:((fun i=>if m.testBit i=true then none else (u::us)[i]?) ∘ Nat.succ)=fun i=>if (m / 2).testBit i=true then none else us[i]?:=by
  funext i;simp [Function.comp,Nat.testBit_succ]
 rw [e];by_cases h:m.testBit 0=true
 ·simp [h]
 ·simp [h]
theorem l7: ∀(us:List U) (m:Nat),m<2 ^ us.length->pc m+(left us m).length=us.length
 | [],m,h=>by
  simp at h;subst h
  simp [pc,left]
 | u::us,m,h=>by
  have h2:m / 2<2 ^ us.length:=by
   rw [List.length_cons,Nat.pow_succ] at h;omega
  have ih:=l7 us (m / 2) h2;rw [AZ,Gl,List.length_append,List.length_cons];by_cases hb:m.testBit 0=true
  ·have:m%2=1:=by rw [Nat.testBit_zero] at hb; simpa using hb
   simp [hb];omega
  ·have:m%2=0:=by
    rw [Nat.testBit_zero] at hb;have:=Nat.mod_two_eq_zero_or_one m;simp at hb;omega
   simp [hb];omega
theorem zx (m i:Nat):m.testBit i=decide (m / 2 ^ i%2=1):=Nat.testBit_eq_decide_div_mod_eq
theorem yQ {a b:Nat} (h1:a / 2=b / 2) (h2:a%2=b%2):a=b:=by omega
theorem CP: ∀(i m:Nat),m.testBit i=false->m+2 ^ i=m ||| 2 ^ i
 | 0,m,h=>by
  have hm:m%2=0:=by
   rw [Nat.testBit_zero] at h;have:=Nat.mod_two_eq_zero_or_one m;simp at h;omega
  refine yQ ?_ ?_
  ·rw [Nat.or_div_two];simp;omega
  ·have:(m ||| 2 ^ 0)%2=1:=by rw [Nat.or_mod_two_eq_one]; right; rfl
   rw [this];simp
   omega
 | i+1,m,h=>by
  rw [Nat.testBit_succ] at h;have ih:=CP i (m / 2) h;have e:2 ^ (i+1) / 2=2 ^ i:=by rw [Nat.pow_succ]; omega
  refine yQ ?_ ?_
  ·rw [Nat.or_div_two,e,<-ih,Nat.pow_succ];omega
  ·have e2:2 ^ (i+1)%2=0:=by rw [Nat.pow_succ]; omega
   have:(m ||| 2 ^ (i+1))%2=m%2:=by
    have hb:(m ||| 2 ^ (i+1)).testBit 0=m.testBit 0:=by rw [Nat.testBit_or,Nat.testBit_two_pow]; simp
    rw [Nat.testBit_zero,Nat.testBit_zero] at hb;have h1:=Nat.mod_two_eq_zero_or_one m;have h2:=Nat.mod_two_eq_zero_or_one (m ||| 2 ^ (i+1));rcases h1 with h1|h1<;>rcases h2 with h2|h2<;>simp [h1,h2] at hb ⊢
   rw [this];omega
theorem CQ {m i:Nat} (h:m.testBit i=false):m+2 ^ i=m ||| 1 <<< i:=by
 rw [Nat.one_shiftLeft];exact CP i m h
structure RS where
 time:Int
 last:Nat
 set:Nat
 frm:Int
def gm (us:List U) (s:RS):St:=match us[s.last]? with
 | some u=>(some u.exit,s.time+u.span)
 | none=>(none,0)
structure RSOK (d:bA) (us:List U) (s:RS):Prop where
 last:s.last<us.length
 bits:s.set<2 ^ us.length
 way:Way d us s.set (gm us s) (pc s.set)
 t0:0<=s.time
 t1:s.time<=1000000
 f1: -1<=s.frm
structure DP (d:bA) (us:List U) (r b:Nat) (L:List RS):Prop where
 each: ∀s∈L,RSOK d us s
 key:L.Pairwise fun a c=> ¬(a.set=c.set/\a.last=c.last)
 lo: ∀(i:Nat) s,L[i]?=some s->i<b->pc s.set<=r
 hi: ∀(i:Nat) s,L[i]?=some s->b<=i->pc s.set=r+1
 back: ∀(i:Nat) s,L[i]?=some s->s.frm<i
def Lat (b:Nat) (L L':List RS):Prop:=b<=L.length/\L'.take b=L.take b/\ ∀s∈L,∃s'∈L',s'.set=s.set/\s'.last=s.last/\s'.time<=s.time
theorem Lat.refl {b:Nat} {L:List RS} (h:b<=L.length):Lat b L L:=⟨h,rfl,fun s hs=>⟨s,hs,rfl,rfl,Int.le_refl _⟩⟩
theorem Lat.trans {b:Nat} {L L' L'':List RS} (h:Lat b L L') (h':Lat b L' L''):Lat b L L'':=by
 refine ⟨h.1,h'.2.1.trans h.2.1,fun s hs=> ?_⟩;obtain ⟨s',h1,h2,h3,h4⟩:=h.2.2 s hs;obtain ⟨s'',k1,k2,k3,k4⟩:=h'.2.2 s' h1;exact ⟨s'',k1,k2.trans h2,k3.trans h3,Int.le_trans k4 h4⟩
def Has (L:List RS) (set last:Nat) (t:Int):Prop:= ∃s∈L,s.set=set/\s.last=last/\s.time<=t
theorem Has.lat {b:Nat} {L L':List RS} {set last:Nat} {t:Int} (h:Has L set last t) (hl:Lat b L L'):Has L' set last t:=by
 obtain ⟨s,h1,h2,h3,h4⟩:=h;obtain ⟨s',k1,k2,k3,k4⟩:=hl.2.2 s h1;exact ⟨s',k1,k2.trans h2,k3.trans h3,Int.le_trans k4 h4⟩
theorem DP.app {us:List U} {r b:Nat} {L:List RS} (h:DP d us r b L) {n:RS} (hn:RSOK d us n) (hr:pc n.set=r+1) (hf:n.frm<b) (hb:b<=L.length) (hno: ∀(i:Nat) s,L[i]?=some s->b<=i-> ¬(s.set=n.set/\s.last=n.last)):DP d us r b (L++ [n])/\Lat b L (L++ [n]):=by
 have hat: ∀(i:Nat) s,(L++ [n])[i]?=some s->L[i]?=some s∨(i=L.length/\s=n):=fun i s hs=>by
  rcases Nat.lt_trichotomy i L.length with hi|hi|hi
  ·rw [List.getElem?_append_left hi] at hs; exact .inl hs
  ·subst hi; simp at hs; exact .inr ⟨rfl,hs.symm⟩
  ·rw [List.getElem?_eq_none (by simp; omega)] at hs; cases hs
 refine ⟨⟨fun s hs=> ?_,?_,fun i s hs hi=> ?_,fun i s hs hi=> ?_,fun i s hs=> ?_⟩,hb,by rw [List.take_append_of_le_length hb],fun s hs=>⟨s,List.mem_append_left _ hs,rfl,rfl,Int.le_refl _⟩⟩
 ·rcases ZH hs with hs|hs
  ·exact h.each s hs
  ·rw [List.mem_singleton] at hs; subst hs; exact hn
 ·refine List.pairwise_append.2 ⟨h.key,List.pairwise_singleton _ _,fun a ha c hc=> ?_⟩;rw [List.mem_singleton] at hc;subst hc;obtain ⟨i,hi⟩:=List.mem_iff_getElem?.1 ha;by_cases hib:i<b
  ·rintro ⟨e,_⟩;have:=h.lo i a hi hib;rw [e] at this;omega
  ·exact hno i a hi (by omega)
 ·rcases hat i s hs with hs|⟨rfl,rfl⟩
  ·exact h.lo i s hs hi
  ·omega
 ·rcases hat i s hs with hs|⟨rfl,rfl⟩
  ·exact h.hi i s hs hi
  ·exact hr
 ·rcases hat i s hs with hs|⟨rfl,rfl⟩
  ·exact h.back i s hs
  ·omega
theorem DP.set {us:List U} {r b:Nat} {L:List RS} (h:DP d us r b L) {n o:RS} {k:Nat} (hk:L[k]?=some o) (hkb:b<=k) (hn:RSOK d us n) (hf:n.frm<b) (hb:b<=L.length) (h1:o.set=n.set) (h2:o.last=n.last) (ht:n.time<=o.time):DP d us r b (L.set k n)/\Lat b L (L.set k n):=by
 have hkl:=(ZE hk).1;have hke:=(ZE hk).2;have hat: ∀(i:Nat) s,(L.set k n)[i]?=some s->(i≠k/\L[i]?=some s)∨(i=k/\s=n):=fun i s hs=>by
  by_cases hik:k=i
  ·subst hik;rw [List.getElem?_set_self hkl] at hs;exact .inr ⟨rfl,by cases hs; rfl⟩
  ·rw [List.getElem?_set_ne hik] at hs;exact .inl ⟨fun e=>hik e.symm,hs⟩
 have hpc:=h.hi k o hk hkb;refine ⟨⟨fun s hs=> ?_,?_,fun i s hs hi=> ?_,fun i s hs hi=> ?_,fun i s hs=> ?_⟩,hb,?_,fun s hs=> ?_⟩
 ·rcases List.mem_or_eq_of_mem_set hs with hs|hs
  ·exact h.each s hs
  ·subst hs; exact hn
 ·rw [List.pairwise_iff_getElem];intro i j hi hj hij;have hi':=ZD hi;have hj':=ZD hj;have key: ∀x y,L[i]?=some x->L[j]?=some y-> ¬(x.set=y.set/\x.last=y.last):=fun x y hx hy=>by
   obtain ⟨hx1,hx2⟩:=ZE hx;obtain ⟨hy1,hy2⟩:=ZE hy;have:=List.pairwise_iff_getElem.1 h.key i j hx1 hy1 hij;rw [hx2,hy2] at this;exact this
  rcases hat i _ hi' with ⟨_,hx⟩|⟨rfl,hx⟩<;>rcases hat j _ hj' with ⟨_,hy⟩|⟨rfl,hy⟩
  ·exact key _ _ hx hy
  ·rw [hy,<-h1,<-h2]; exact key _ _ hx hk
  ·rw [hx,<-h1,<-h2]; exact key _ _ hk hy
  ·omega
 ·rcases hat i s hs with ⟨_,hs⟩|⟨rfl,rfl⟩
  ·exact h.lo i s hs hi
  ·omega
 ·rcases hat i s hs with ⟨_,hs⟩|⟨rfl,rfl⟩
  ·exact h.hi i s hs hi
  ·rw [<-h1]; exact hpc
 ·rcases hat i s hs with ⟨_,hs⟩|⟨rfl,rfl⟩
  ·exact h.back i s hs
  ·omega
 ·exact List.take_set_of_le hkb
 ·obtain ⟨i,hi⟩:=List.mem_iff_getElem?.1 hs;by_cases hik:k=i
  ·subst hik;rw [hk] at hi;cases hi;exact ⟨n,List.mem_iff_getElem?.2 ⟨k,List.getElem?_set_self hkl⟩,h1.symm,h2.symm,ht⟩
  ·exact ⟨s,List.mem_iff_getElem?.2 ⟨i,by rw [List.getElem?_set_ne hik]; exact hi⟩,rfl,rfl,Int.le_refl _⟩
theorem rZ {us:List U} {s:RS} {u:U} (h:us[s.last]?=some u):gm us s=(some u.exit,s.time+u.span):=by
 unfold gm;rw [h]
theorem Cm {us:List U} {m i:Nat} (hi:i<us.length) (hm:m<2 ^ us.length) (h:m.testBit i=false):pc (m ||| 1 <<< i)=pc m+1/\m ||| 1 <<< i<2 ^ us.length:=by
 have h1:=l7 us m hm;have hlt:m ||| 1 <<< i<2 ^ us.length:=Nat.or_lt_two_pow hm (by rw [Nat.one_shiftLeft]; exact Nat.pow_lt_pow_right (by decide) hi);have h2:=l7 us _ hlt;have h3:=(jd (m:=m) h (ZD hi)).length_eq;rw [List.length_cons] at h3;exact ⟨by omega,hlt⟩
theorem RSOK.next {us:List U} (hw: ∀u∈us,0<=u.low/\u.low<=u.high/\u.high<=1000000) {s:RS} (h:RSOK d us s) {i:Nat} {u:U} (hu:us[i]?=some u) (hb:s.set.testBit i=false) (hc:gK d (gm us s) u) {k:Int} (hk: -1<=k) :
  RSOK d us ⟨kW d (gm us s) u,i,s.set ||| 1 <<< i,k⟩/\pc (s.set ||| 1 <<< i)=pc s.set+1/\gm us ⟨kW d (gm us s) u,i,s.set ||| 1 <<< i,k⟩=nxt d (gm us s) u:=by
 have hi:=(ZE hu).1;obtain ⟨q1,q2⟩:=Cm hi h.bits hb;have e:gm us ⟨kW d (gm us s) u,i,s.set ||| 1 <<< i,k⟩=nxt d (gm us s) u:=rZ hu;obtain ⟨w1,w2,w3⟩:=hw u (ZF hu);have hb1:kW d (gm us s) u<=u.high:=by unfold kW; have:=hc.2; omega
 have hb0:u.low<=kW d (gm us s) u:=by unfold kW; omega
 refine ⟨⟨hi,q2,?_,by show 0<=kW d (gm us s) u; omega,by show kW d (gm us s) u<=1000000; omega,hk⟩,q1,e⟩;rw [e];show Way d us (s.set ||| 1 <<< i) (nxt d (gm us s) u) (pc (s.set ||| 1 <<< i));rw [q1];exact h.way.step hu hb hc
def qm (d:bA) (us:List U) (set:Nat) (s:St):Prop:= ∀(j:Nat) v,us[j]?=some v->set.testBit j=false->gK d s v
def uJ (d:bA) (us:List U) (r:Nat) (L:List RS):Prop:= ∃s∈L,pc s.set=r/\Feas d (gm us s) (left us s.set)
theorem yP {us:List U} (hu: ∀u∈us,UOK d u) {L:List RS} {set i:Nat} {u:U} {t:Int} (hui:us[i]?=some u) (h:Has L set i t) (hf:Feas d (some u.exit,t+u.span) (left us set)):uJ d us (pc set) L:=by
 obtain ⟨s,h1,h2,h3,h4⟩:=h;refine ⟨s,h1,by rw [h2],?_⟩;rw [h2,rZ (by rw [h3]; exact hui)];exact hf.better (jv (by omega)) (fun x hx=>by obtain ⟨j,_,hj⟩:=mem_left.1 hx; exact hu x (ZF hj))
theorem qN (hd:WfD d) {us:List U} (hu: ∀u∈us,UOK d u) {s:St} (hs:qT d s) {m:Nat} (h:Feas d s (left us m)) (hne:left us m≠ []) :
  ∃ (i:Nat) (u:U),us[i]?=some u/\m.testBit i=false/\gK d s u/\qm d us (m ||| 1 <<< i) (nxt d s u)/\Feas d (nxt d s u) (left us (m ||| 1 <<< i)):=by
 obtain ⟨l,hp,hr⟩:=h
 cases l with
 | nil=>exact absurd hp.symm.eq_nil hne
 | cons u l =>
  obtain ⟨i,hm,hi⟩:=mem_left.1 (hp.mem_iff.1 (List.mem_cons_self ..));have hpl:l.Perm (left us (m ||| 1 <<< i)):=List.Perm.cons_inv (hp.trans (jd hm hi));have hF:Feas d (nxt d s u) (left us (m ||| 1 <<< i)):=⟨l,hpl,hr.2⟩;exact ⟨i,u,hi,hm,hr.1,fun j v hv hb=>yZ hd hu (nI (hu u (ZF hi))) hF hb hv,hF⟩
theorem yR {us:List U} {m:Nat} (hm:m<2 ^ us.length):left us m= []↔m=2 ^ us.length-1:=by
 constructor
 ·intro h;apply Nat.eq_of_testBit_eq;intro i;rw [Nat.testBit_two_pow_sub_one];by_cases hi:i<us.length
  ·simp only [hi,decide_true]
   cases hb:m.testBit i with
   | true=>rfl
   | false =>
    have:us[i]∈left us m:=mem_left.2 ⟨i,hb,ZD hi⟩;rw [h] at this;cases this
  ·simp only [hi,decide_false];exact Nat.testBit_lt_two_pow (Nat.lt_of_lt_of_le hm (Nat.pow_le_pow_right (by decide) (by omega)))
 ·intro h;apply List.eq_nil_iff_forall_not_mem.2;intro u hu;obtain ⟨i,hb,hi⟩:=mem_left.1 hu;rw [h,Nat.testBit_two_pow_sub_one] at hb;have:=(ZE hi).1;simp at hb;omega
theorem vL {us:List U} {L:List RS} (hL: ∀s∈L,RSOK d us s):(∃s∈L,s.set=2 ^ us.length-1)->Feas d (none,0) us:=by
 rintro ⟨s,hs,he⟩;have h:=hL s hs;have h0:=(yR h.bits).2 he;have h1:=l7 us s.set h.bits;rw [h0] at h1;have hw:=h.way;have:pc s.set=us.length:=by simpa using h1
 rw [this] at hw;exact hw.feas
theorem vK {us:List U} {L:List RS} (hL: ∀s∈L,RSOK d us s) (h:uJ d us us.length L): ∃s∈L,s.set=2 ^ us.length-1:=by
 obtain ⟨s,hs,hp,_⟩:=h;have h1:=l7 us s.set (hL s hs).bits;refine ⟨s,hs,(yR (hL s hs).bits).1 (List.eq_nil_of_length_eq_zero (by omega))⟩
theorem DP.few {us:List U} {r b:Nat} {L:List RS} (h:DP d us r b L) (hu:us.length<=16):L.length<=1048576:=by
 have h1:(L.map fun s=>s.set*16+s.last).Nodup:=by
  rw [List.nodup_iff_pairwise_ne,List.pairwise_map];refine List.Pairwise.imp_of_mem ?_ h.key;intro a c ha hc hk e;have h1:=(h.each a ha).last;have h2:=(h.each c hc).last;apply hk;omega
 have h2:=qM 1048576 _ h1 (fun x hx=>by
  obtain ⟨s,hs,rfl⟩:=List.mem_map.1 hx;have h1:=(h.each s hs).last;have h2:=(h.each s hs).bits;have h3:2 ^ us.length<=2 ^ 16:=Nat.pow_le_pow_right (by decide) hu;have h4:(2:Nat) ^ 16=65536:=by decide
  omega)
 simpa using h2
theorem DP.round {us:List U} {r b:Nat} {L:List RS} (h:DP d us r b L):DP d us (r+1) L.length L:=by
 refine ⟨h.each,h.key,fun i s hs hi=> ?_,fun i s hs hi=> ?_,h.back⟩
 ·by_cases hb:i<b
  ·have:=h.lo i s hs hb; omega
  ·exact Nat.le_of_eq (h.hi i s hs (by omega))
 ·have:=(ZE hs).1;omega
def ib (us:List U) (i:Nat):RS:=⟨((us[i]?).map (·.low)).getD 0,i,1 <<< i,-1⟩
def fH (us:List U) (k:Nat):List RS:=(List.range k).map (ib us)
theorem qX (us:List U) (k:Nat):fH us (k+1)=fH us k++ [ib us k]:=by simp [fH,List.range_succ]
theorem lS (us:List U) (k:Nat):(fH us k).length=k:=by simp [fH]
theorem Dg {u:U} (h0:0<=u.low) (h1:u.low<=u.high):gK d (none,0) u/\kW d (none,0) u=u.low:=by
 refine ⟨⟨by show (0:Int)≠ -1; decide,by show (0:Int)+0<=u.high; omega⟩,?_⟩;show max u.low (0+0)=u.low;omega
theorem xH {us:List U} (hw: ∀u∈us,0<=u.low/\u.low<=u.high/\u.high<=1000000) {i:Nat} {u:U} (hu:us[i]?=some u):RSOK d us (ib us i)/\pc (ib us i).set=1/\gm us (ib us i)=nxt d (none,0) u:=by
 obtain ⟨w1,w2,w3⟩:=hw u (ZF hu);obtain ⟨c1,c2⟩:=Dg (d:=d) w1 w2;have hi:=(ZE hu).1;have hz:(0:Nat)<2 ^ us.length:=Nat.two_pow_pos _;obtain ⟨q1,q2⟩:=Cm hi hz (m:=0) (by simp);have e0:(0:Nat) ||| 1 <<< i=1 <<< i:=by simp
 rw [e0] at q1 q2;have hlow:(ib us i).time=u.low:=by simp [ib,hu]
 have e:gm us (ib us i)=nxt d (none,0) u:=by
  rw [rZ (u:=u) (by exact hu),hlow];unfold nxt;rw [c2]
 have q1':pc (1 <<< i)=1:=by rw [q1]; simp [pc]
 refine ⟨⟨hi,q2,?_,by rw [hlow]; exact w1,by rw [hlow]; omega,by show (-1:Int)<= -1; decide⟩,q1',e⟩;rw [e];have:=(Way.zero (d:=d) us).step hu (by simp) c1;rw [e0] at this;show Way d us (1 <<< i) (nxt d (none,0) u) (pc (1 <<< i));rw [q1'];exact this
theorem Df {us:List U} {k i:Nat} {s:RS} (h:(fH us k)[i]?=some s):i<k/\s=ib us i:=by
 unfold fH at h;rw [List.getElem?_map] at h;obtain ⟨j,hj,rfl⟩:=Option.map_eq_some_iff.1 h;rw [List.getElem?_eq_some_iff] at hj;obtain ⟨h1,h2⟩:=hj;simp at h1 h2;subst h2;exact ⟨h1,rfl⟩
theorem xI {us:List U} (hw: ∀u∈us,0<=u.low/\u.low<=u.high/\u.high<=1000000):DP d us 0 0 (fH us us.length):=by
 have hat: ∀(i:Nat) s,(fH us us.length)[i]?=some s->RSOK d us s/\pc s.set=1/\s.frm= -1/\s.last=i:=fun i s hs=>by
  obtain ⟨h1,rfl⟩:=Df hs;obtain ⟨q1,q2,_⟩:=xH (d:=d) hw (ZD h1);exact ⟨q1,q2,rfl,rfl⟩
 refine ⟨fun s hs=> ?_,?_,fun i s hs hi=>by omega,fun i s hs _=>(hat i s hs).2.1,fun i s hs=> ?_⟩
 ·obtain ⟨i,hi⟩:=List.mem_iff_getElem?.1 hs;exact (hat i s hi).1
 ·rw [List.pairwise_iff_getElem];intro i j hi hj hij e;have h1:=(hat i _ (ZD hi)).2.2.2;have h2:=(hat j _ (ZD hj)).2.2.2;omega
 ·rw [(hat i s hs).2.2.1];omega
theorem sS (hd:WfD d) {us:List U} (hu: ∀u∈us,UOK d u) (hw: ∀u∈us,0<=u.low/\u.low<=u.high/\u.high<=1000000) (hne:us≠ []) (h:Feas d (none,0) us):uJ d us 1 (fH us us.length):=by
 rw [<-lu us] at h;obtain ⟨i,u,h1,h2,h3,h4,h5⟩:=qN hd hu (s:=(none,0)) (fun x hx=>by cases hx) (m:=0) h (by rw [lu]; exact hne);obtain ⟨q1,q2,q3⟩:=xH (d:=d) hw h1;have e0:(0:Nat) ||| 1 <<< i=1 <<< i:=by simp
 rw [e0] at h5;exact ⟨ib us i,List.mem_map.2 ⟨i,List.mem_range.2 (ZE h1).1,rfl⟩,q2,by rw [q3]; exact h5⟩
end Go.Ord
namespace Go.Proofs.YtobaafdejnimkaaGreatDoor
open Tryz
open Go.PF Go.RowKit Go.Ord
def PD (e:Ev) (t:Int):Prop:=0<=t/\t<=1000000/\e.low<=t/\t<=e.high
def Two (d:bA) (l:List Ev) (ts:List Int) (j i:Nat):Prop:= ∀a s b t,l[j]?=some a->ts[j]?=some s->l[i]?=some b->ts[i]?=some t->EN d (a,s) (b,t)∨EN d (b,t) (a,s)
structure HoldsI (d:bA) (l:List Ev) (ts:List Int):Prop where
 wf:WfE d l
 len:ts.length=l.length
 win: ∀(i:Nat) e t,l[i]?=some e->ts[i]?=some t->PD e t
 two: ∀j i,j<i->Two d l ts j i
theorem HoldsI.n {d:bA} {l:List Ev} {ts:List Int} (h:HoldsI d l ts):HoldsN d (l.zip ts):=by
 refine ⟨fun x hx=> ?_,List.pairwise_iff_getElem.2 fun i j hi hj hij=> ?_⟩
 ·obtain ⟨i,hi⟩:=List.mem_iff_getElem?.1 hx;rw [List.getElem?_zip_eq_some] at hi;exact h.win i _ _ hi.1 hi.2
 ·have hi':=ZD hi;have hj':=ZD hj;rw [List.getElem?_zip_eq_some] at hi' hj';exact h.two i j hij _ _ _ _ hi'.1 hi'.2 hj'.1 hj'.2
theorem Two.symm {d:bA} {l:List Ev} {ts:List Int} {j i:Nat} (h:Two d l ts j i):Two d l ts i j:=fun a s b t h1 h2 h3 h4=>(h b t a s h3 h4 h1 h2).symm
def PH (d:bA) (a:Nat) (x:Int) (b:Nat) (y:Int):Prop:=at2 d a b≠ -1/\at2 d a b<=y-x
end Go.Proofs.YtobaafdejnimkaaGreatDoor
