/- Texts of this claim,joined. -/
import Derived.Test.YtoleahhfkpkcjaaGreatDoorQR
set_option linter.unusedSimpArgs false
set_option linter.unusedVariables false
set_option maxRecDepth 100000
set_option maxHeartbeats 4000000
namespace Go.Proofs.YtoleahhfkpkcjaaGreatDoor
open Go.Proofs.Tryz
open Go.PF Go.RowKit Go.Ord
attribute [local irreducible] TW CW KW DW
theorem G5 {w:World} {nv:NV} {N:Net} {sv rv xv:Value} {L:List Sc} {most t:Int} {r:List Rc} {x:Rc} {s:ByteArray} {F:Nat->Prop} (hN:ig w nv N) (hL:SS w sv L) (hr:SR w rv r) (hm:fE most) (hx:RcOK F w xv x) (ht:Tabs w) (hi:TabI w) :
  Gives prog 6 #[.agg nv.cells.toArray,sv,ZU most,rv,.agg (iY x xv).toArray,.string s,ZU t] w (ZS w (.bool true)):=by
 refine gw func6 ntmps6 ?_;refine nw rfl λg7 w7 f7=> ?_;refine nw rfl λbi bj a3=> ?_;have a4:=f7.below.step a3.below;refine cv rfl (BB (ht.below a4) (hi.below a4)) λw1 b1=> ?_;have o:=a4.step b1;have J:=aS hN o;have K:=hL.step dJ o;have M:=hr.step dM o;have a5:RcOK (λk=>k<w1.heap.size) w1 xv x:=⟨hx.i1,hx.i2,hx.i3,hx.i4,hx.lb,(hx.ct.below o).now jA⟩;have B7:=f7.blk.next (a3.below.step b1);have a6:=a3.blk.next b1;refine dl 3 λw2 E=> ?_;refine cr rfl (uN (aS J E) (K.step dJ E) (M.step dM E) λk g=>g) λu w3 b3 e=> ?_;obtain ⟨b,rfl,hb⟩:=e
 cases b with
 | false =>
  have hG: ¬aF (some !true):=by simp [aF]
  refine rn ?_;refine WH 16 ZA ?_;refine UM λw4 b4=> ?_;refine cT rfl ?_
  exact aO rfl ⟨o.step (E.step (b3.step b4)),rfl⟩
 | true =>
  refine rn ?_;obtain ⟨hf,_,_,ba,bb⟩:=hb rfl;have a7:=M.step dM (E.step b3);have a8:=a5.step (E.step b3);obtain ⟨X,af,rfl,_⟩:=a8.ct.form;obtain ⟨A,bk,rfl,_⟩:=a7.form;have ag:=a6.next (E.step b3);obtain ⟨ah,p1,a9,n1,a1⟩:=a7.flat (T:=rcT) ZL;refine il .own 14 ZK ZK rfl rfl ZA ?_;refine eP ?_;refine rd ?_;refine iK 57 rfl rfl zi ?_;refine eP ?_;refine rd ?_;refine iO (m:=r.length) (A:=A) (ah.flatMap (·.1)) rfl rfl xZ rfl ZK rfl id a1 n1 (Gg a9) ZJ ZJ ?_;refine eP ?_;refine rd ?_;refine gD 57 [.tmp 36] rfl rfl rfl zi (bO rfl id dE) rfl rfl rfl rfl rfl ?_;refine eP ?_;refine kC (iY x (.slice X x.cont.length af)) rfl rfl xZ rfl ZK rfl ct (λu hu=> ?_) ZJ ZJ rfl ?_
  .simp [iY] at hu;rcases hu with rfl|rfl|rfl|rfl|rfl|rfl<;>rfl
  refine eP ?_;refine Yp [38] [0,1,2,3,4,5,6,7,11,15,29,30,31,32] rfl λvs w4 b4 hs=> ?_;obtain ⟨y,rfl,hO⟩:=Sats.one hs;have hy:=IB b4 a9 p1 a8 hO ZJ;have O:=E.step (b3.step b4);refine bC ?_;refine aL rfl rfl ?_;refine cr rfl (uN (aS J O) (K.step dJ O) hy λk g=>g) λu U b5 e=> ?_;obtain ⟨c,rfl,_⟩:=e;refine rn ?_;have j:=O.step b5;have bl:=B7.next j;have bc:=a6.next j;have ai:=aS J j;have aj:=K.step dJ j;have ak:=M.step dM j;have al:=a5.step j;have b0:=o.step j;have aa:=ht.below b0;have au:=hi.below b0;clear hs E b3 b4 b5 O j ag B7 a6 a7 a8 hy hO J K M a5 a9 a1 n1 p1 ah o;refine iE rfl (λav=> ?_) λav=> ?_
  .exact aO rfl ⟨b0,rfl⟩
  refine rn ?_;refine cr rfl (pp (F0:=λk=>k<U.heap.size) aa ai (λk g=>g) aj ak hm hf.few ZJ) λu w6 b6 e=> ?_;obtain ⟨pa,ra,rfl,Ta,Ra⟩:=e;refine rn ?_;refine na wT λbm bn v=> ?_;refine sb rfl v.blk (λY am G bd=> ?_) (h1:=Ra.one) (imp:=λ_ _ _ _ h=>h.q);have bo:=v.at_;have z6:=b6.size;have bp:=v.size;have z:ZT U Y:=But.below (b6.step v.below) G ZJ;have Ta:=Ta.kept (w':=Y) ZJ λk g=>(G.block k (by have:=Ta.facts.2.1 k g; omega) λe=>by have:=Ta.facts.2.1 k g; cases e; omega).trans (v.below.block k (Ta.facts.2.1 k g));have a0:=v.below;clear v;refine rn ?_;refine cr rfl (pp (F0:=λk=>k<U.heap.size) (aa.below z) (NetIn.below ai z) (λk g=>ZJ) (aj.step dJ z) (ak.step dM z) hm hf.few ZJ) λu an C e=> ?_;obtain ⟨pb,rb,rfl,Tb,Rb⟩:=e;refine rn ?_;refine na wT λbq br d=> ?_;refine sb rfl d.blk (λao be n bf=> ?_) (h1:=Rb.one) (imp:=λ_ _ _ _ h=>h.q);have bs:=d.at_;have bt:=C.size;have bu:=d.size;obtain ⟨S,hS⟩: ∃S:TrS,S=TrS.adds ⟨N,L,most,[]⟩ r:=⟨_,rfl⟩;rw [<-hS] at Ta Tb Ra Rb;have hT:TrTwo U ao pa S pb S (λk=>U.heap.size<=k/\k<w6.heap.size) (λk=>k<U.heap.size\/U.heap.size<=k/\k<w6.heap.size) (λk=>Y.heap.size<=k/\k<an.heap.size) (λk=>k<U.heap.size\/Y.heap.size<=k/\k<an.heap.size):=by
   refine ⟨But.below ((z.step C).step d.below) n ZJ,?_,?_,λk g h=>ZJ,λk g h=>ZJ,λk g=>ZJ,λk g=>ZJ⟩
   .have T:=(Ta.later C).later d.below;exact T.kept ZJ λk g=>n.block k ZJ λe=>by cases e; omega
   .have T:=Tb.later d.below;exact T.kept ZJ λk g=>n.block k ZJ λe=>by cases e; omega
  have Z:=n.blk ((am.next C).next d.below) ZJ;have ab:ZT w6 ao:=But.below (((But.below a0 G ZJ).step C).step d.below) n ZJ;clear Ta Tb d z C b6;have aw:=hT.bel;refine rn ?_;refine aM rfl (vQ hT.b (al.below aw) λk g=>⟨ZJ,ZJ⟩) ?_;rintro _ bv ⟨H,rfl,Tb⟩;have bw:=H.size;have T2:=hT.addB H Tb;have Z:=H.blk ZJ Z;have Ra:=Ra.below (ab.trans (H.below (B:=w6.heap.size) (λk g=>ZJ) ab.size));clear hT Tb H ab a0;have ax:=T2.bel;refine rn ?_;refine cd rfl (λhe=> ?_) λhe=> ?_
  .refine cr rfl (jl T2.b) λu ap I hl=> ?_;have aq:x∈(S.add x).recs:=by
    unfold TrS.add;rw [if_pos he];exact mem_insertR.2 (.inl rfl)
   generalize (S.add x).recs=l at hl aq
   obtain ⟨R,bg,rfl,_⟩:=hl.form;have bh:=hl.len.2.2;have a2:=ax.step I;refine rn ?_;refine zR ap [11,15,22] 23 l.length (λb:Bool=> [(21,none,.bool b)]) (λi b _=>b=dec (x∈l.take i)) false (by rw [aG ZM]) (λi b W hi hW hJ=> ?_) λb W hW hJ=> ?_
   .have hz:=ZD hi;have e1:dec (x∈l.take (i+1))=(dec (x∈l.take i)||dec (l[i]=x)):=by
     rw [<-Ov,<-List.take_append_getElem hi];exact bH (by rw [List.mem_append,List.mem_singleton,eq_comm])
    rw [<-hJ] at e1;obtain ⟨ad,rfl⟩:=hl.addr ZJ;obtain ⟨xv,bx,ay⟩:=SR.get (hl.below hW) hz;have D:=a2.step hW
    cases b with
    | true =>
     have hG: ¬aF (some !true):=by simp [aF]
     refine rn ?_;refine dx ?_;refine dz λW2 E=> ?_;refine oI true ?_
     rw [e1]; rfl
    | false =>
     refine rn ?_;refine dx ?_;refine dc (cap:= []) ZK rfl (λ_ w' hb=>kL (ay.below hb) ((al.below D).below hb)) ?_;refine eP ?_;refine rd ?_;refine dz λW2 E=> ?_;refine oI _ ?_;rw [IZ,e1]
   .exact aO rfl ⟨b0.step (a2.step hW),by rw [hJ,List.take_length,aC aq]; rfl⟩
  .have ac:(S.addE x=1\/S.addE x=2)/\S.add x=S:=by
    refine ⟨?_,if_neg he⟩;unfold TrS.addE at he ⊢
    split at he
    .split at he
     .exact absurd rfl he
     .rename_i h1 h2;exact .inr (by rw [if_pos h1,if_neg h2])
    .rename_i h1;exact .inl (if_neg h1)
   obtain ⟨ac,e2⟩:=ac;rw [e2] at T2
   cases hX:(true&&(decide (S.addE x=1)||decide (S.addE x=2))) with
   | false=>rcases ac with h|h<;>simp [h] at hX
   | true =>
    refine bC ?_;refine aL rfl rfl ?_;refine cr rfl (jl T2.a) λu ap I az=> ?_;have T3:=T2.next I;refine bC ?_;refine aL rfl rfl ?_;refine cr rfl (jl T3.b) λu bz D b7=> ?_;have T4:=T3.next D;refine bC ?_;refine aL rfl rfl ?_;refine cv rfl (aC (p:=S.recs=S.recs) rfl ▸ oV (az.below D) b7) λc0 ae=> ?_;have T5:=T4.next ae;have Z:=((Z.next I).next D).next ae;have Ra:=((Ra.below I).below D).below ae;refine bC ?_;refine aL rfl rfl ?_;refine rn ?_;have ar:=lG (lab:=s) Ra;have b8:S.most=most:=by rw [hS]; exact (gq ⟨N,L,most,[]⟩ .nil r).1.2.2
    rw [b8] at ar;refine cr rfl ar λu c1 b9 e=> ?_;obtain ⟨b,rfl,_⟩:=e;have T6:=T5.next b9
    cases b with
    | false =>
     have hG: ¬aF (some !!false):=by simp [aF]
     refine rn ?_
     exact aO rfl ⟨b0.step T6.bel,rfl⟩
    | true =>
     refine rn ?_;refine bC ?_;refine aL rfl rfl ?_;refine aM rfl (AR T6 au aa) ?_;rintro _ c2 ⟨rfl,c3,c4,T7⟩;refine rn ?_;exact aO rfl ⟨b0.step T7.bel,rfl⟩
end Go.Proofs.YtoleahhfkpkcjaaGreatDoor
