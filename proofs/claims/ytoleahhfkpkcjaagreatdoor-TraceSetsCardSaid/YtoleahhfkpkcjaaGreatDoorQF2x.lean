/- Texts of this claim,joined. -/
import Derived.Test.YtoleahhfkpkcjaaGreatDoorQR
set_option linter.unusedSimpArgs false
set_option linter.unusedVariables false
set_option maxRecDepth 100000
set_option maxHeartbeats 4000000
namespace Go.PF
open Go.RowKit
section
open Go
theorem XP {P:Program} {N:Nat} {ds:List Deferred} {ops rest:List Oper} {w:World} {Fin:DE->Prop} {D:DE} {G:Option Bool} {d:Option Tmp} {ty:TypeId} {pos:String} {af:Array Edge} {gu:Option (Nat×Bool)} {t:TypeId} {s:Nat} {x0 x1 x2:Operand} {v0 v1 v2:Value} {φ:Value->World->Prop} {S:Value->Nat->Prop} {cx:Option Bool} {q:Prop} (ψ:Value->World->Prop) (hm: ∀v w w',ZT w w'->ψ v w->ψ v w')
  (hg:(fD ops D gu,aD N d,bT D s,G8 D [x0,x1,x2])=(some G,true,some (cx,.own φ S),some [v0,v1,v2])) (ix:aF G->aF cx)
  (h: ∀u w,φ u w-> ∃cs,P.built t [(0,v0),(1,v1),(2,v2),(3,u)]=some (List.toArray cs)/\ψ (.agg cs.toArray) w/\ ∀g,Free φ u w g->Free ψ (.agg cs.toArray) w g) (next:q)
  (hso:sF ops ⟨d,.build t #[(0,x0),(1,x1),(2,x2),(3,.tmp s)],ty,pos,af,gu⟩ [s]=true:=by rfl)
  (imp:Wp q->DW P N ds .free ops w Fin rest (bG (iC D [s]) d G (.own ψ λ_ _=>False)):=by exact λh=>Gd h):DW P N ds .free ops w Fin (⟨d,.build t #[(0,x0),(1,x1),(2,x2),(3,.tmp s)],ty,pos,af,gu⟩::rest) D:=by
 simp only [Prod.mk.injEq] at hg;refine ⟨G,.own ψ λ_ _=>False,[s],⟨hg.1,hg.2.1,rfl,hm,hso,λx hx=>⟨cx,φ,S,by simp at hx; subst hx; exact hg.2.2.1⟩,λhG a w' hb ha=> .inl ?_⟩,imp ⟨next⟩⟩;have h1:=(ha.slots s (bB ZQ) cx _ hg.2.2.1).1 (ix hG);obtain ⟨cs,h2,h3,h4⟩:=h _ _ h1;have e:=qm hg.2.2.2 (λt ht=>bB (by
  simp only [List.mem_cons,List.not_mem_nil,or_false] at ht;rcases ht with ht|ht|ht<;>simp [Op.operands,<-ht])) a w' ha hG
 simp only [List.map_cons,List.cons.injEq] at e;exact ⟨_,w',uh (is:= [0,1,2,3]) (xs:= [x0,x1,x2,.tmp s]) (vs:= [v0,v1,v2,a.tmps.getD s undef]) rfl (by simp only [List.map_cons,e.1,e.2.1,e.2.2]; rfl) h2,ZA,h3,λg hg'=> .inl ⟨s,cx,_,by simp [oF],hg.2.2.1,ix hG,λhf=>hg' (h4 g hf)⟩⟩
end
end Go.PF
namespace Go.Proofs.YtoleahhfkpkcjaaGreatDoor
open Go.Proofs.Tryz
open Go.PF Go.RowKit Go.Ord
attribute [local irreducible] TW CW KW DW
theorem Mr {w:World} {nv:NV} {N:Net} {sv rv:Value} {L:List Sc} {most t:Int} {r:List Rc} {s o:ByteArray} (hN:ig w nv N) (hL:SS w sv L) (hr:SR w rv r) (hm:fE most) (ht:Tabs w) (hi:TabI w) :
  Gives prog 4 #[.agg nv.cells.toArray,sv,ZU most,rv,.string s,.string o,ZU t] w (ZS w (.bool true)):=by
 refine gw func4 ntmps4 ?_;refine nw rfl λg7 w7 f7=> ?_;refine cv rfl (BB (ht.below f7.below) (hi.below f7.below)) λw1 b1=> ?_;have b01:=f7.below.step b1;have B7:=f7.blk.next b1;refine cr rfl (uN (aS hN b01) (hL.step dJ b01) (hr.step dM b01) λk hk=>hk) λu w5 b5 e=> ?_;obtain ⟨b,rfl,hb⟩:=e;have b0:=b01.step b5;have B7:=B7.next b5;have hN5:=aS hN b0;have hL5:=hL.step dJ b0;have hr5:=hr.step dM b0;have ht5:=ht.below b0;have hi5:=hi.below b0;clear b1 b5 b01 f7;refine rn ?_;refine iE rfl (λhno=> ?_) λhno=> ?_
 .exact aO rfl ⟨b0,rfl⟩
 obtain ⟨hf,_,_,hl30,hr30⟩:=hb (by cases b<;>simp_all);obtain ⟨A,cap,rfl,_⟩:=hr5.form;refine rn ?_;refine cr rfl (pp (F0:=λk=>k<w5.heap.size) ht5 hN5 (λk hk=>hk) hL5 hr5 hm hf.few ZJ) λu w6 b6 e=> ?_;obtain ⟨pa,ra,rfl,Ta,Ra⟩:=e;refine rn ?_;refine na wT λg17 w17 f17=> ?_;refine sb rfl f17.blk (λw8 B17 hb8 hs8=> ?_) (h1:=Ra.one) (imp:=λ_ _ _ _ h=>h.q);have y17:=f17.at_;have z6:=b6.size;have z17:=f17.size;have b8:ZT w5 w8:=But.below (b6.step f17.below) hb8 ZJ;obtain ⟨S,hS⟩: ∃S:TrS,S=TrS.adds ⟨N,L,most,[]⟩ r:=⟨_,rfl⟩;rw [<-hS] at Ta Ra;have Ta:=Ta.kept (w':=w8) ZJ λk hk=>(hb8.block k (by have:=Ta.facts.2.1 k hk; omega) λe=>by have:=Ta.facts.2.1 k hk; cases e; omega).trans (f17.below.block k (Ta.facts.2.1 k hk));have Ra:=Ra.below (But.below f17.below hb8 ZJ);have hmo:S.most=most:=by rw [hS]; exact (gq ⟨N,L,most,[]⟩ .nil r).1.2.2
 clear f17 b6;refine rn ?_;have hli:=lG (lab:=s) Ra;rw [hmo] at hli;refine cr rfl hli λu w9 b9 e=> ?_;obtain ⟨c1,rfl,_⟩:=e;have Ra9:=Ra.below b9;have b59:=b8.step b9
 cases c1 with
 | false =>
  have hG: ¬aF (some !!false):=by simp [aF]
  refine rn ?_;refine cT rfl ?_
  exact aO rfl ⟨b0.step b59,rfl⟩
 | true =>
  refine bC ?_;refine rn ?_;refine bC ?_;refine aL rfl rfl ?_;have hli:=lG (lab:=o) Ra9;rw [hmo] at hli;refine cr rfl hli λu w10 b10 e=> ?_;obtain ⟨c2,rfl,_⟩:=e;have Ta:=(Ta.later b9).later b10;have b510:=b59.step b10;have z10:=(b9.step b10).size;clear B17 Ra9 Ra b9 b10 b59 b8 hb8;refine rn ?_;refine iE rfl (λh=> ?_) λh=> ?_
  .exact aO rfl ⟨b0.step b510,rfl⟩
  refine rn ?_;refine cr rfl (Dt (F0:=λk=>k<w5.heap.size) (v:=nv) (ht5.below b510) (NetIn.below hN5 b510) (λk hk=>by have:=b510.size; omega) (hL5.step dJ b510) hm) λu w11 b11 e=> ?_;obtain ⟨pb,rfl,Tb⟩:=e;have h510:=b510.size;have hT:TrTwo w5 w11 pa S pb ⟨N,L,most,[]⟩ (λk=>w5.heap.size<=k/\k<w6.heap.size) (λk=>k<w5.heap.size\/w5.heap.size<=k/\k<w6.heap.size) (λk=>w10.heap.size<=k/\k<w11.heap.size) (λk=>k<w5.heap.size\/w10.heap.size<=k/\k<w11.heap.size) :=
   ⟨b510.step b11,Ta.later b11,Tb,λk hk h=>ZJ,λk hk h=>ZJ,λk hk=>ZJ,λk hk=>ZJ⟩
  clear Ta Tb b11 b510 z10 h510;refine dC [1,2,3,4,5,6,7,15,16,18] (λk:Nat=> [(19,none,ZU ((k:Int)-1))]) (λk W=>k<=r.length/\ ∃(Lb:List Rc) (Mb Fb:Nat->Prop),(∀x,x∈Lb↔x∈r.drop k)/\Lb.length<=2*(r.length-k)/\TrTwo w5 W pa S pb (TrS.adds ⟨N,L,most,[]⟩ Lb) (λk=>w5.heap.size<=k/\k<w6.heap.size) (λk=>k<w5.heap.size\/w5.heap.size<=k/\k<w6.heap.size) Mb Fb) (λk=>k) r.length ⟨ZC,[],_,_,ZM,ZM,hT⟩ ?_;rintro k W ⟨hk,Lb,Mb,Fb,hLm,hLl,hT⟩;have bW:=hT.bel;rcases k with _|k
  .refine rn ?_;refine cd rfl (λh=> ?_) λ_=> ?_
   .exact absurd h ZJ
   have hSb:TrS.adds ⟨N,L,most,[]⟩ Lb=S:=by
    rw [hS];exact Rk (S:=⟨N,L,most,[]⟩) .nil (by simp at hLl ⊢; omega) ZO λx=>by rw [hLm,List.drop_zero]
   rw [hSb] at hT;refine bC ?_;refine aL rfl rfl ?_;refine cr rfl (jl hT.a) λu w12 b12 hl1=> ?_;have T1:=hT.next b12;refine bC ?_;refine aL rfl rfl ?_;refine cr rfl (jl T1.b) λu w13 b13 hl2=> ?_;have T2:=T1.next b13;refine bC ?_;refine aL rfl rfl ?_;refine cv rfl (aC (p:=S.recs=S.recs) rfl ▸ oV (hl1.below b13) hl2) λw14 b14=> ?_;have T3:=T2.next b14;refine rn ?_;refine bC ?_;refine aL rfl rfl ?_;refine aM rfl (AR T3 hi5 ht5) ?_;rintro _ w15 ⟨rfl,Fa1,Fb1,T4⟩;refine rn ?_;refine bC ?_;refine aL rfl rfl ?_;refine aM rfl (AR T4 hi5 ht5) ?_;rintro _ w16 ⟨rfl,Fa2,Fb2,T5⟩;refine rn ?_;exact aO rfl ⟨b0.step T5.bel,rfl⟩
  .have e1:((k+1:Nat):Int)-1=(k:Int):=ZJ;rw [e1];obtain ⟨ad,rfl⟩:=hr5.addr ZJ;have hz:=ZD hk;obtain ⟨xv,hxc,hxo⟩:=SR.get (hr5.below bW) hz;refine rn ?_;refine cd rfl (λ_=> ?_) λh=> ?_;rotate_left 1
   .exact absurd (Int.natCast_nonneg k) h
   refine aM rfl (vQ hT.b hxo λq hq=>⟨by have:=bW.size; omega,λh=>by have:=hT.bm q h; omega⟩) ?_;rintro _ W1 ⟨c1,rfl,T1⟩;have hT1:=hT.addB c1 T1;clear hT T1 c1 bW hxc hxo;have bW1:=hT1.bel;refine rn ?_;refine WG w5 [1,2,3,4,5,6,7,15,16,18,19] (λ_=> []) (λ(Fb':Nat->Prop) W'=>TrTwo w5 W' pa S pb ((TrS.adds ⟨N,L,most,[]⟩ Lb).add r[k]) (λk=>w5.heap.size<=k/\k<w6.heap.size) (λk=>k<w5.heap.size\/w5.heap.size<=k/\k<w6.heap.size) (Gr Mb W W1) Fb') (λK0 K=> ?_) (λFb' W2 b2 hT2=> ?_) (imp2:=λ_ _ _ _ h=>h.q)
   .refine cd rfl (λ_=> ?_) λ_=> ?_
    .obtain ⟨Sb,hSb⟩: ∃Sb:TrS,Sb=(TrS.adds ⟨N,L,most,[]⟩ Lb).add r[k]:=⟨_,rfl⟩;rw [<-hSb] at hT1 K;have hTb:=hT1.b;refine Yq 7 ?_;refine Yr (cap:= []) (λx W=>SL rcT (λk=>W1.heap.size<=k/\k<W.heap.size) W x Sb.recs) (λv w1 w2 hb h=>(h.below hb).wider λk hk=>⟨hk.1,Nat.lt_of_lt_of_le hk.2 hb.size⟩) ZK rfl (λ_ w' hb'=>(jl (hTb.later hb')).mono λx w'' ⟨h1,h2⟩=>⟨h1,h2.wider λk hk=>⟨by have:=hb'.size; omega,hk.2⟩,λg hg w2 h3 h4=> ?_⟩) ?_
     .exact (h2.mono (Kept.of_blocks λk hk hlt=>h3.block k hlt λe=>by cases e; omega)).wider λk hk=>by have:=hb'.size; omega
     refine XP (v0:= .agg nv.cells.toArray) (v1:=sv) (v2:= ZU most) (λx W=> ∃rv',x= .agg (List.toArray (uJ nv sv most rv'))/\SL rcT (λk=>W1.heap.size<=k/\k<W.heap.size) W rv' Sb.recs) (λv w1 w2 hb ⟨rv',e,h⟩=>⟨rv',e,(h.below hb).wider λk hk=>⟨hk.1,Nat.lt_of_lt_of_le hk.2 hb.size⟩⟩) rfl id (λu W h1=> ?_) ?_
     .obtain ⟨⟨A1,c1,e1⟩,⟨A2,c2,e2⟩,⟨A3,c3,e3⟩,⟨A4,c4,e4⟩,⟨A5,c5,e5⟩,⟨A6,c6,e6⟩⟩:=NetIn.form hN5;obtain ⟨_,_,e7,_⟩:=hL5.form;obtain ⟨_,_,e8,_⟩:=SL.form (T:=rcT) (F:=λk=>W1.heap.size<=k/\k<W.heap.size) (w:=W) (l:=Sb.recs) h1;refine ⟨uJ nv sv most u,?_,⟨u,rfl,h1⟩,λg hf w2 h3 h4=>⟨u,rfl,hf w2 h3 h4⟩⟩;simp only [NV.cells,uJ,e1,e2,e3,e4,e5,e6,e7,e8]
      kernel_rfl
     refine Yt wT ?_;refine dfe 72 20 [1,2,3,4,5,6,7,15,16,18,19] rfl λv72 v20 w6' b6 hs72 hs20 hap=> ?_;obtain ⟨rv',rfl,hrv⟩:=hs72;obtain ⟨g20,rfl,hg20,hB20⟩:=hs20;have hfr:=(hap g20).resolve_right (Ay hB20);have z6:=b6.size;have hone:(uJ nv sv most rv').all (·.oneCell')=true:=RTr.one (S:=⟨N,L,most,Sb.recs⟩) (F:=λk=>k<w6'.heap.size) ⟨aS ((NetIn.below hN5 hT1.bel).wider λk hk=>by have:=hT1.bel.size; omega) b6,(hL5.step dJ hT1.bel).step dJ b6,hrv.now dM,λk hk=>hk⟩;refine sb rfl hB20 (λw7 hB7 hb7 hs7=> ?_) (h1:=hone) (imp:=λ_ _ _ _ h=>h.q);have hb17:ZT W1 w7:=But.below b6 hb7 ZJ;have hR7:RTr (λk=>k<w7.heap.size) w7 nv sv rv' ⟨N,L,most,Sb.recs⟩:=by
      refine ⟨aS ((NetIn.below hN5 hT1.bel).wider λk hk=>by have:=hT1.bel.size; omega) hb17,(hL5.step dJ hT1.bel).step dJ hb17,?_,λk hk=>hk⟩;obtain ⟨rv2,e,h3⟩:=Free.grow (λv w1 w2 hb ⟨rv',e,h⟩=>⟨rv',e,(h.below hb).wider λk hk=>⟨hk.1,Nat.lt_of_lt_of_le hk.2 hb.size⟩⟩) ⟨_,rfl,hrv⟩ hfr hb7;simp [uJ] at e;subst e;exact h3.now dM
     have hT7:=hT1.next hb17;clear hT1 hfr hap hrv hb7 b6 hB20 hb17;have b57:=hT7.bel;refine rn ?_;have hli:=lG (lab:=s) (S:=⟨N,L,most,Sb.recs⟩) hR7;dsimp only at hli;refine cr rfl hli λu w8 b8 e=> ?_;obtain ⟨d1,rfl,_⟩:=e;have hT8:=hT7.next b8;have b58:=hT8.bel
     cases d1 with
     | false =>
      have hG: ¬aF (some false):=by simp [aF]
      refine rn ?_;refine cF rfl ?_
      exact jd K _ hT8
     | true =>
      refine bC ?_;refine rn ?_;refine bC ?_;refine aL rfl rfl ?_;have hli:=lG (lab:=o) (S:=⟨N,L,most,Sb.recs⟩) (hR7.below b8);dsimp only at hli;refine cr rfl hli λu w9 b9 e=> ?_;obtain ⟨d2,rfl,_⟩:=e;have hT9:=hT8.next b9;have b59:=hT9.bel;refine rn ?_;refine iE rfl (λ_=> ?_) λ_=> ?_;rotate_left 1
      .exact jd K _ hT9
      refine aM rfl (pV (s:=s) (t:=t) (hi5.below b59) (ht5.below b59) hT9.b) ?_;rintro _ w10 ⟨c10,T10,_,rfl,_⟩;have hT10:=hT9.goB c10 T10;have b510:=hT10.bel;refine rn ?_;refine aM rfl (jZ (s:=o) (hi5.below b510) hT10.b) ?_;rintro _ w11 ⟨c11,T11,_,rfl,_⟩;have hT11:=hT10.goB c11 T11;have b511:=hT11.bel;refine rn ?_;exact jd K _ hT11
    .exact jd K (Gr Fb W W1) hT1
   .have bW2:=hT2.bel;obtain ⟨xv,hxc,hxo⟩:=SR.get (hr5.below bW2) hz;refine rn ?_;refine aM rfl (vQ hT2.b hxo λq hq=>⟨by have:=bW2.size; omega,λh=>by have:=hT2.bm q h; omega⟩) ?_;rintro _ W3 ⟨c3,rfl,T3⟩;have hT3:=hT2.addB c3 T3;clear hT2 T3 c3 bW2 hxc hxo;refine rn ?_;refine dB k ⟨ZJ,Lb++ [r[k],r[k]],Gr (Gr Mb W W1) W2 W3,Gr Fb' W2 W3,λx=> ?_,ZO,?_⟩
    .rw [List.mem_append,hLm,List.drop_eq_getElem_cons hk,List.mem_cons];simp only [List.mem_cons,List.not_mem_nil,or_false,or_self];exact or_comm
    .rw [tZ];exact hT3
end Go.Proofs.YtoleahhfkpkcjaaGreatDoor
