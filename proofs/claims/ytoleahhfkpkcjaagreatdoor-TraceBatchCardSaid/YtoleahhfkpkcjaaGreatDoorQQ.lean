/- Texts of this claim,joined. -/
import Derived.Test.YtoleahhfkpkcjaaGreatDoorQP
import Derived.Laws.Pointers
import Derived.KernelRfl
set_option linter.unusedSimpArgs false
set_option linter.unusedVariables false
set_option maxRecDepth 100000
set_option maxHeartbeats 4000000
variable {w w':Go.World} {F M G I:Nat->Prop} {d:Go.Ord.bG} {l r:List Go.Ord.Ev} {m:List (ByteArray×Go.Value)} {t o f:Int} {S:Go.Proofs.YtoleahhfkpkcjaaGreatDoor.TrS} {p g b n:Nat} {ws:List (List Int)} {R:Go.Value->Go.World->Prop} {v dv lv sv xv:Go.Value} {ps:List (List Go.Value×Go.Ord.Rc)} {N:Go.Ord.Net} {P:Go.Program} {s:ByteArray} {rs:List (List Go.Ord.Ev)} {af:Array Go.Edge} {cs caps:List Go.Value} {fn:Go.Func} {pos:String}
namespace Go.Proofs.YtoleahhfkpkcjaaGreatDoor
open Go.Proofs.Tryz
open Go.PF Go.RowKit Go.Ord
attribute [local irreducible] TW CW KW DW
theorem SH {nv:NV} {rv:Value} {L:List Sc} {r:List Rc} (q:NetIn F w nv N) (s:SL yh F w sv L) (t:SL rcT F w rv r) (x: ∀k,F k->k<w.heap.size) :
  Gives prog 10 #[.agg nv.cells.toArray,sv,rv] w λu y=>ZT w y/\ ∃b,u= .bool b/\(b=true->FewR N/\N.offs.length<=5/\N.lines.length<=12/\L.length<=30/\r.length<=30):=by
 obtain ⟨⟨z,C,i⟩,⟨D,E,j⟩,⟨G,H,l⟩,⟨I,J,m⟩,⟨K,M,n⟩,⟨O,R,o⟩⟩:=NetIn.form q;obtain ⟨Y,Z,vo,vf,vl,vk⟩:=nv;subst i j l m n o;refine gw func10 ntmps10 ?_;refine nw rfl λg2 w2 a=> ?_;refine cv rfl (LB ((q.below a.below).wider λk c=>Nat.lt_of_lt_of_le (x k c) a.below.size)) λw3 g=> ?_
 cases d:dec (FewR N)&&decide ((N.offs.length:Int)<=5)&&decide ((N.lines.length:Int)<=12) with
 | false =>
  have hG: ¬aF (some false):=by simp [aF]
  refine rn ?_
  exact aO rfl ⟨bK,false,rfl,λh=>by cases h⟩
 | true =>
  refine dD ?_;refine aP rfl rfl ?_;refine cr rfl (Ht ((s.below (a.below.step g)).wider λk c=>c) ((t.below (a.below.step g)).wider λk c=>Nat.lt_of_lt_of_le (x k c) (a.below.step g).size)) λu w4 b4 e=> ?_;obtain ⟨b,rfl,U⟩:=e;refine rn ?_;refine aO rfl ⟨bK,_,rfl,λh=> ?_⟩;simp only [Bool.and_eq_true,decide_eq_true_eq] at d;have W:b=true:=by simpa using h
  exact ⟨dec_iff.1 d.1.1,by have:=d.1.2; omega,by have:=d.2; omega,U W⟩
theorem Ha {x y:Br}:yw (Ac x) (Ac y)=decide (x=y):=by
 obtain ⟨c,d⟩:=x;obtain ⟨e,f⟩:=y;simp only [Ac,yw,U7];by_cases a:c=e
 .by_cases b:d=f
  .subst a b; simp
  .simp [b]
 .simp [a]
theorem Aa {u:Value} {a b:List Br} (r:SL sptT F w v a) (hb:SL sptT G w u b):Gives prog 21 #[v,u] w λx D=>ZT w D/\x= .bool (decide (a=b)):=by
 obtain ⟨A,s,rfl,_⟩:=r.form;obtain ⟨B,t,rfl,_⟩:=hb.form;have z:=r.len.2.2;refine gw func21 ntmps21 ?_;refine rn ?_;refine cd rfl (λo=> ?_) λg=> ?_
 .exact aO rfl ⟨ZA,by rw [decide_eq_false λh=>o (by rw [h])]⟩
 refine rn ?_;refine dA [0,1] (λk:Nat=> [(5,none,ZU (k:Int))])
  (λk W=>k<=a.length/\ZT w W/\a.take k=b.take k) (λk=>a.length-k) 0 ⟨ZB,ZA,rfl⟩ ?_
 rintro k W ⟨M,i,c⟩;refine rn ?_;refine cd rfl (λE=> ?_) λH=> ?_
 .obtain ⟨x,p,I⟩:=eP (l:=a) (k:=k) ZJ;obtain ⟨y,n,J⟩:=eP (l:=b) (k:=k) ZJ;have j:=r.below i;have m:=hb.below i;obtain ⟨N,rfl⟩:=j.addr ZJ;obtain ⟨O,rfl⟩:=m.addr ZJ;have K:=(SPs.get j p).1;have L:=(SPs.get m n).1;refine dx ?_;refine QT (xs:=Ac x) (ys:=Ac y) rfl rfl rfl ct rfl ct (by cases x; cases y; kernel_rfl) ?_;refine dz λR C=> ?_;refine iG rfl (λd=> ?_) λe=> ?_
  .refine aO rfl ⟨i.step C,?_⟩;rw [decide_eq_false λh=> ?_];subst h;rw [p] at n;cases n;rw [Ha] at d;simp at d
  .have q:x=y:=by
    rw [Ha] at e;simpa using e
   refine rn ?_;refine cK (k+1) ⟨ZJ,i.step C,?_⟩;rw [ZG,ZG,c,p,n,q]
 .refine aO rfl ⟨i,?_⟩;rw [List.take_of_length_le ZJ,List.take_of_length_le ZJ] at c;rw [decide_eq_true c]
end Go.Proofs.YtoleahhfkpkcjaaGreatDoor
namespace Go.PF
open Go.RowKit
section
open Go
theorem kv {d:Option Tmp} {ty:TypeId} {gu:Option (Nat×Bool)} {x y:Operand} {p:Option Addr} {t t' e:TypeId} (h:P.underlying t=some (.pointer e)):Val P ⟨d,.binOp .eql t x y t',ty,pos,af,gu⟩ [x,y] [.pointer p,.pointer none] True (.bool p.isNone) :=
 ⟨rfl,ZQ,λ_ ρ w a=>by
  obtain ⟨b,c⟩:=iI a;have f:P.underlying t=some (.pointer (P.pointee t)):=by unfold Program.pointee; rw [h]
  simp only [execOp]; rw [b,c,eqGuard_at_pointer]; simp [run_eql_pointer_nil _ _ _ f]⟩
end
end Go.PF
namespace Go.Proofs.YtoleahhfkpkcjaaGreatDoor
open Go.Proofs.Tryz
open Go.PF Go.RowKit Go.Ord
attribute [local irreducible] TW CW KW DW
theorem yV {recs:List Rc} (hB:w.cell? (Addr.add ⟨p,0,none⟩ 10)=some lv) (hl:SL rcT I w lv recs) (hI: ∀k,I k->k<w.heap.size) (hn:recs.length<=400) (hc: ∀r∈recs,r.cont.length<=1000000) :
  Gives prog 23 #[.pointer (some ⟨p,0,none⟩)] w λu n=>ZT w n/\SL rcT (λk=>w.heap.size<=k/\k<n.heap.size) n u recs:=by
 refine gw func23 ntmps23 ?_;refine aM (kv underlying34) rfl ⟨ct,ct,trivial⟩ (λ_=>trivial) ?_;obtain ⟨A,K,rfl,_⟩:=hl.form;refine rn ?_;refine cF rfl ?_;refine dA [0,11,12] (λx:Nat×Value×List (List Value×Rc)=> [(13,none,ZU (x.1:Int)),(3,none,x.2.1)])
  (λx W=>x.1<=recs.length/\ZT w W/\RowB rcT W 57 w.heap.size x.2.1 x.2.2/\x.2.2.map (·.2)=recs.take x.1) (λx=>recs.length-x.1) (0,.slice none 0 0,[]) ⟨ZB,ZA,RowB.nil _ _ _ _,rfl⟩ ?_
 rintro ⟨i,L,o⟩ W ⟨M,h,j,c⟩;dsimp only at M j c;have E:o.length=i:=by
  have:=congrArg List.length c;simp at this; omega
 refine rn ?_;refine cd rfl (λq=> ?_) λs=> ?_
 .have b:i<recs.length:=by dsimp only at q; omega
  obtain ⟨ad,rfl⟩:=hl.addr ZJ;have F:recs[i]?=some recs[i]:=ZD b;obtain ⟨zv,N,l⟩:=SR.get (hl.below h) F;have t:=hc _ (List.getElem_mem b);obtain ⟨Z,G,rfl,_⟩:=l.ct.form;refine rn ?_;refine Go.PF.nv BC rfl λg5 w5 y=> ?_;refine cr rfl (uy (l.below y.below) t) λu w6 H e=> ?_;obtain ⟨v',rfl,d⟩:=e;obtain ⟨Y,O,rfl,_⟩:=d.ct.form;have g:=y.below.step H;have z5:=y.below.size;have z: ∀k,L.ownBlock=some k->k<W.heap.size:=λk m=>j.1.lt m;refine ra (T:=rcT) (a:=recs[i]) Dk Gf rfl (j.step g) ⟨_,rfl,d.i1,d.i2,d.i3,d.i4,d.lb,d.ct.wider λk m=>⟨by have:=h.size; omega,ZJ,λe=>by have:=z k e; omega⟩⟩ rfl ZJ (by have:=h.size; have:=H.size; omega) λg7 B R C D S h7=> ?_;have U:ZT w R:=Below.grown (h.step g) D (by have:=h.size; have:=g.size; omega) (λk m=>j.2.2 k m);refine cK (i+1,B,o++ [(iq recs[i] (.slice Y recs[i].cont.length O),recs[i])]) ⟨b,U,C,?_⟩;rw [List.map_append,c,ZG,F];rfl
 have b:i=recs.length:=by dsimp only at s; omega
 subst b;have J:=j.sl ZL;rw [c,List.take_length] at J;exact aO rfl ⟨h,J⟩
end Go.Proofs.YtoleahhfkpkcjaaGreatDoor
namespace Go.PF
open Go.RowKit
theorem Chg.gb (h:Chg (λk=>k=g) w w'):w.grownBy w' (some g):=⟨h.os,h.tape,h.output,h.size,λk b a=>h.block k b λe=>a (by rw [e])⟩
theorem T4 {N:Nat} {ds:List Deferred} {ops rest:List Oper} {D:DE} {o:Option Nat} {tk:Nat} {Fin:DE->Prop} {d:Option Tmp} {ty:TypeId} {x:Operand} {t t1:TypeId} [Sr P t n] (h:(aC N d,dev D x)=(true,some (none,.ex (.pointer (some ⟨g,0,none⟩))))) (i:Blk w g t1 cs) (a:o≠some g) (hn:cs.length=n)
  (next:DR P N ds ops w o tk Fin rest (bE D d none (.ex (.agg cs.toArray)))):DR P N ds ops w o tk Fin (⟨d,.load t x,ty,pos,af,none⟩::rest) D:=by
 simp only [Prod.mk.injEq] at h;obtain ⟨k,b⟩:=Sr.u (P:=P) (t:=t);exact og rfl h.1 rfl (λl _ m c e=>vQ b (hn ▸ Sr.s) (e.eval h.2 ZQ trivial) (λj v f=>(GB.blk c i a).fld f)) next
end Go.PF
namespace Go.Proofs.YtoleahhfkpkcjaaGreatDoor
open Go.Proofs.Tryz
open Go.PF Go.RowKit Go.Ord
attribute [local irreducible] TW CW KW DW
theorem Tr.same (h:Tr M F w p S) (hb:ZT w w'):Tr (λk=>M k\/w.heap.size<=k/\k<w'.heap.size) (λk=>F k\/w.heap.size<=k/\k<w'.heap.size) w' p S:=by
 obtain ⟨I,b,c,d,e,f,m,i,h,j,l,n,o,q,r⟩:=h;have t:=hb.size;exact ⟨I,b,c,d,e,f,m,i,h.below hb,.inl j,.inl l,λg s=> .inl (n g s),λk a=> .inl (o k a),λk a=>a.imp (q k) id,λk a=>a.elim (λh=>by have:=r k h; omega) λh=>h.2⟩
theorem VP {x:Rc} (hT:Tr M F w p S) (hx:RcOK G w xv x) (hG: ∀k,G k->k<w.heap.size/\ ¬M k) :
  Gives prog 25 #[.pointer (some ⟨p,0,none⟩),.agg (iq x xv).toArray] w λu O=>Chg M w O/\u= ZU (S.addE x)/\Tr (λk=>M k\/w.heap.size<=k/\k<O.heap.size) (λk=>F k\/w.heap.size<=k/\k<O.heap.size) O p (S.add x):=by
 have aj:=hT;obtain ⟨I,gm,lv,nv,sv,dv,m,R,h,mp,mg,ml,iF,mF,lt⟩:=hT;have hB:=h.blk;have hR:=h.ok.right;obtain ⟨X,a7,rfl,_⟩:=hx.ct.form;obtain ⟨A,ad,rfl,_⟩:=h.sr.form;have a8:=h.ok.few;have be:R.length=S.recs.length:=by rw [<-h.eq,List.length_map]
 have N: ∀ {O},ZT w O->S.add x=S->Tr (λk=>M k\/w.heap.size<=k/\k<O.heap.size) (λk=>F k\/w.heap.size<=k/\k<O.heap.size) O p (S.add x):=λhb e=>by rw [e]; exact aj.same hb
 refine gw func25 ntmps25 ?_;refine nw rfl λg3 w3 f3=> ?_;refine aM (kv underlying34) rfl ⟨ct,ct,trivial⟩ (λ_=>trivial) ?_;refine rn ?_;refine dD ?_;refine aP rfl rfl ?_;refine cv rfl (O6 (h.below f3.below) (hx.below f3.below)) λw4 b4=> ?_;refine iG rfl (λa9=> ?_) λa1=> ?_
 .have ak: ¬S.Fit x:=λhf=>by rw [aD hf] at a9; simp at a9
  have J:S.addE x=1:=by unfold TrS.addE; rw [if_neg λq=>ak q.2]
  have hb:ZT w w4:=f3.below.step b4;exact aO rfl ⟨.of_below hb,by rw [J],N hb (by unfold TrS.add; rw [J,if_neg ZL])⟩
 have hf:S.Fit x:=Classical.byContradiction λhf=>by rw [aH hf] at a1; simp at a1
 refine dx ?_;refine dc (cap:= []) ZK rfl (λ_ O hb=>Ja (h.sr.step jZ (f3.below.step (b4.step hb))) (hx.below (f3.below.step (b4.step hb))) h.ok.srt ZJ) ?_;refine dz λw5 b5=> ?_;have z:Wp (ZT w w5):=⟨f3.below.step (b4.step b5)⟩;refine iG rfl (λU=> ?_) λs=> ?_
 .have U:=dec_iff.1 U;have J:S.addE x=0:=by unfold TrS.addE; rw [if_pos ⟨hR,hf⟩,if_pos (.inl U)]
  exact aO rfl ⟨.of_below z.q,by rw [J],N z.q (by unfold TrS.add; rw [J,if_pos rfl,Sq U])⟩
 have s:x ∉ S.recs:=λU=>by rw [aD U] at s; cases s
 refine cd rfl (λbc=> ?_) λal=> ?_
 .have J:S.addE x=2:=by unfold TrS.addE; rw [if_pos ⟨hR,hf⟩,if_neg (λq=>q.elim s λq=>ZJ)]
  exact aO rfl ⟨.of_below z.q,by rw [J],N z.q (by unfold TrS.add; rw [J,if_neg ZL])⟩
 have a2:S.recs.length<400:=ZJ;have J:S.addE x=0:=by unfold TrS.addE; rw [if_pos ⟨hR,hf⟩,if_pos (.inr a2)]
 have e2:S.add x=S.put x:=by unfold TrS.add; rw [J,if_pos rfl]
 rw [J,e2];clear N;have bf:=pK hf.1;have am: ∀r∈S.recs,r.cont.length<=1000000:=λr hr=>by have:=pK (h.ok.val r hr).1; omega
 have h5:=h.below z.q;refine aN rfl (M9 h5.lst h5.mapAt (hx.below z.q) ZJ ZJ am) ?_;rintro u6 w6 ⟨ae,m6,aa,ab⟩;have g6:=ae.gb;have z5:=z.q.size;have z6:=g6.size;have bg:=h5.blk.lt;have bd:=h5.map.lt;have bh:=h.map.lt;have q3:=f3.at_;have z3:=f3.size;have bi:=b4.size;have bj:=b5.size;have bk:=h.blk.lt;have kI: ∀ {W:World},w5.grownBy W (some gm)->Kept I w5 W:=λhW=>Kept.of_blocks λk a d=>hW.block k d λe=>by cases e; exact (h.hI _ a).2.2.1 rfl
 have an:Blk w6 g3 _ _:=GB.blk g6 (f3.blk.next (b4.step b5)) (λe=>by cases e; omega);have af:Blk w6 p _ _:=GB.blk g6 h5.blk (λe=>by cases e; exact h.pm rfl);refine dG ?_;refine aL ?_;refine fQ ?_;refine Bz [(0,none,.pointer (some ⟨p,0,none⟩)),(3,none,.pointer (some ⟨g3,0,none⟩)),(5,none,ZU (lT S.recs x:Int))]
  (λW=>w5.grownBy W (some gm)/\ ∃m2,MapL sK W gm m2/\ ∀q∈m2,∃cs,q.2= .agg (List.toArray cs)/\RepA (λk=>I k\/w5.heap.size<=k/\k<W.heap.size) W cs ((S.put x).ans q.1)) (λK=> ?_) λW hJ=> ?_
 .have ac: ∀q∈m6,¬Tch S.recs x 3 q.1/\ ∃cs,q.2= .agg (List.toArray cs)/\RepA I w6 cs (S.ans q.1):=λq c=>by
   obtain ⟨q1,q2⟩:=(ab q).1 c;obtain ⟨cs,e,hA⟩:=h5.ans q q1;exact ⟨q2,cs,e,hA.mono (kI g6)⟩
  refine rn ?_;refine aI rfl (λd=> ?_) λa5=> ?_
  .refine rn ?_;refine aN rfl (Fj (n:=lT S.recs x) (b:=S.recs.length) (F:=I) (f:=S.ans) ⟨af.fld rfl,aa,λq c=>h5.mapAt.ans q ((ab q).1 c).1⟩ (λq c=>(ac q c).2) (λk a=>by have:=h.hI k a; omega) (λq c=>xG a8) ZJ (by have:=(j6 S.recs x).le; omega)) ?_;rintro u7 w7 ⟨ao,m7,ap,aq,ar⟩;refine dG ?_;refine aL ?_;refine dC [0,3,5] rfl (K _ ⟨g6.trans ao.gb,m7,ap,λq c=> ?_⟩);obtain ⟨v,hv⟩:=aq q.1 ⟨q.2,c⟩;obtain ⟨cs,e,hA⟩:=ar q c;refine ⟨cs,e,?_⟩;rw [Ir s (ac _ hv).1];exact hA.wider λk a=> .inr ZJ
  .refine oh ?_;refine aL ?_;refine dC [0,3,5] rfl (K _ ⟨g6,m6,aa,λq c=> ?_⟩);obtain ⟨q2,cs,e,hA⟩:=ac q c;refine ⟨cs,e,?_⟩;rw [Ir s q2,Si (xG a8) (by have: ¬((lT S.recs x:Nat):Int)<(S.recs.length:Int):=a5; omega)];exact hA.wider λk a=> .inl a
 obtain ⟨gW,m2,au,av⟩:=hJ;clear aa ab an af g6 ae;have zW:=gW.size;have ag:Blk W p _ _:=GB.blk gW h5.blk (λe=>by cases e; exact h.pm rfl);have aw:Blk W g3 _ _:=GB.blk gW (f3.blk.next (b4.step b5)) (λe=>by cases e; omega);have ah:=h5.own.kept (w':=W) λq c=>gW.block q (h5.own.lt c) (λe=>by cases e; exact h.lp.2 c);have a0:RcOK G W (.slice X x.cont.length a7) x:=⟨hx.i1,hx.i2,hx.i3,hx.i4,hx.lb,(hx.below z.q).ct.mono (Kept.of_blocks λk a d=>gW.block k d λe=>by cases e; exact (hG _ a).2 mg)⟩;have bl:(R.flatMap (·.1)).length=R.length*6:=h.own.1;have ax: ∀q∈R,q.1.length=6:=λq c=>rcT.len _ _ _ _ (h.reps q c);have ay: ∀u∈R.flatMap (·.1),u.oneCell'=true:=λu hu=>by
  obtain ⟨q,c,hu⟩:=List.mem_flatMap.1 hu;obtain ⟨v,e,_,_,_,_,_,hs⟩:=h.reps q c;rw [e] at hu;obtain ⟨Z,zc,rfl,_⟩:=hs.form;simp [iq] at hu;rcases hu with rfl|rfl|rfl|rfl|rfl|rfl<;>rfl
 have t: ∀k,(Value.slice A S.recs.length ad).ownBlock=some k->k<w.heap.size:=λk a=>h.own.lt a;obtain ⟨o,B⟩: ∃o,o=(Value.slice A S.recs.length ad).ownBlock:=⟨_,rfl⟩;have L: ∀ {j:Value} {w1 w2:World},w1.grownBy w2 o->RcOK (λk=>W.heap.size<=k/\k<w1.heap.size) w1 j x->RcOK (λk=>W.heap.size<=k/\k<w2.heap.size) w2 j x:=λC h=>⟨h.i1,h.i2,h.i3,h.i4,h.lb,(h.ct.mono (Kept.of_blocks λk a d=>C.block k d λe=>by have:=t k (by rw [<-B,<-e]); omega)).wider λk a=>⟨a.1,Nat.lt_of_lt_of_le a.2 C.size⟩⟩;have az: ∀ {F:Nat->Prop} {Y:World} {j:Value},RcOK F Y j x->(iq x j).all (·.oneCell')=true/\(iq x j).length=6:=λh=>by
  obtain ⟨Z,zc,rfl,_⟩:=h.ct.form;exact ⟨rfl,rfl⟩
 refine rn ?_;refine dP mixed λW3 b0=> ?_;refine jT o 61 10 ZK ZK rfl rfl b0 ?_;refine fO rfl rfl rfl ct ?_;refine fO rfl rfl rfl ct ?_;refine iZ rfl rfl rfl ct ?_;refine bP rfl rfl if93_1.q rfl ct ?_;refine gU rfl rfl io31.q rfl ct (λ_=>⟨ag.fld rfl,λe=>h.lp.1 (B ▸ e)⟩) ?_;refine fO rfl rfl rfl ct ?_;refine T4 rfl aw (λe=>by have:=t g3 (by rw [<-B,e]); omega) rfl ?_;refine Ez (cap:= []) (λy Y=>W.heap.size<=Y.heap.size/\ ∃j,y= .agg (iq x j).toArray/\RcOK (λk=>W.heap.size<=k/\k<Y.heap.size) Y j x) (λv w1 w2 C ⟨h0,j,e,h⟩=>⟨Nat.le_trans h0 C.size,j,e,L C h⟩) rfl rfl ZK rfl ct (cO rfl ct dR) (λ_ O C=> ?_) ?_
 .exact (uy (v:= .slice X x.cont.length a7) ⟨a0.i1,a0.i2,a0.i3,a0.i4,a0.lb,a0.ct.mono (Kept.of_blocks λk a d=>C.block k d λe=>(hG _ a).2 (ml k (by rw [<-B,<-e])))⟩ ZJ).mono λy b1 ⟨D,j,e,h⟩=>⟨D,by have:=C.size; have:=D.size; omega,j,e,h.i1,h.i2,h.i3,h.i4,h.lb,h.ct.wider λk a=>⟨by have:=C.size; omega,a.2⟩⟩
 refine pI 57 [.tmp 59] (λy Y=> ∃g j,y= .slice (some ⟨g,0,none⟩) 1 1/\W.heap.size<=g/\Blk Y g 57 (iq x j)/\RcOK (λk=>W.heap.size<=k/\k<Y.heap.size) Y j x) (λv w1 w2 C ⟨g,j,e,a5,D,h⟩=>⟨g,j,e,a5,GB.blk C D (λe=>by have:=t g (by rw [<-B,e]); omega),L C h⟩) rfl rfl rfl Gf (bC rfl ct eO) rfl rfl rfl (λ_ vs Y C hs=> ?_) ?_
 .obtain ⟨u,rfl,h0,j,rfl,h⟩:=Sats.one hs;exact ⟨λv hv=>by simp at hv; subst hv; rfl,λg Y' f=>⟨g,_,rfl,by have:=f.at_; omega,f.blk,L (GB.of_below f.below) h⟩⟩
 refine vB (cap:= []) (λy Y=> ∃j,RcOK (λk=>W.heap.size<=k/\k<Y.heap.size/\y.ownBlock≠some k) Y j x/\OwnS Y 57 6 y (R.length+1) ((R.flatMap (·.1)).take (lT S.recs x*6)++iq x j++(R.flatMap (·.1)).drop (lT S.recs x*6))/\ ∀g,y.ownBlock=some g->o=some g\/W.heap.size<=g) (λv w1 w2 hb ⟨j,D,h2,h3⟩=>⟨j,⟨D.i1,D.i2,D.i3,D.i4,D.lb,(D.ct.below hb).wider λk a=>⟨a.1,Nat.lt_of_lt_of_le a.2.1 hb.size,a.2.2⟩⟩,h2.below hb,h3⟩) rfl rfl rfl ZK rfl ct (bC rfl ct (bC rfl ct (bC rfl ct eO))) (λ_ O C b2 vs hs=> ?_) ?_
 .obtain ⟨v1,v2,v3,rfl,J,e2,e3⟩:=rA hs;cases J;cases e2;obtain ⟨g,j,rfl,a5,b3,l⟩:=e3;have hz:=C.size;have b6:=ah.kept (w':=O) λq c=>b2 q (by rw [B,c]) (ah.lt c);obtain ⟨b7,b8⟩:=az l;refine (JP (i:=lT S.recs x) b6 ZJ (by have:=(j6 S.recs x).le; omega) ay b3 b8 (λu hu=>List.all_eq_true.1 b7 u hu) (λe=>by have:=t g e; omega)).mono λu b1 ⟨q1,q2,q3⟩=>⟨by rw [B]; exact q1,j,⟨l.i1,l.i2,l.i3,l.i4,l.lb,(l.ct.mono (Kept.of_blocks λk a d=>q1.block k d λe=>by have:=t k e.symm; omega)).wider λk a=>⟨a.1,Nat.lt_of_lt_of_le a.2 q1.size,λe=> ?_⟩⟩,q2,λk a=>(q3 k a).imp (λe=>by rw [B,e]) λe=>ZJ⟩;rcases q3 k e with q|q
  .have:=t k q;omega
  .omega
 refine uE (qh [0,3,5,52] _ rfl [61] rfl λvs w8 E b9=>gy ?_);obtain ⟨y,rfl,j,l,a6,ai⟩:=Sats.one b9;have bm:=E.size;have ba:Blk w8 p _ _:=GB.blk E ag (λe=>h.lp.1 (B ▸ e));obtain ⟨Y1,yc,hy,_⟩:=a6.form;have a3: ∀k,k<W.heap.size->o≠some k->y.ownBlock≠some k:=λk a D e=>(ai k e).elim D λe=>ZJ;refine rn ?_;refine sf rfl ba (λw9 bb H bn=> ?_) (h1:=by rw [hy]; rfl);have k5: ∀k,k<w5.heap.size->k≠gm->o≠some k->k≠p->w9.heap[k]?=w5.heap[k]?:=λk D h2 h3 h4=>(H.block k ZJ (λe=>by cases e; exact h4 rfl)).trans ((E.block k ZJ (λe=>h3 e.symm)).trans (gW.block k D (λe=>by cases e; exact h2 rfl)));have kW: ∀k,w5.heap.size<=k->k<W.heap.size->w9.heap[k]?=W.heap[k]?:=λk D h2=>(H.block k ZJ (λe=>by cases e; omega)).trans (E.block k h2 (λe=>by have:=t k (by rw [<-B,<-e]); omega));have k9: ∀k,k<w.heap.size->k≠gm->o≠some k->k≠p->w9.heap[k]?=w.heap[k]?:=λk D h2 h3 h4=>(k5 k ZJ h2 h3 h4).trans (z.q.block k D);have a4:Kept I w w9:=Kept.of_blocks λk a d=>k9 k d (h.hI k a).2.2.1 (λe=>(h.hI k a).2.2.2 (by rw [<-B,e])) (h.hI k a).2.1
 refine aO rfl ⟨⟨H.os.trans (E.os.trans (gW.os.trans z.q.os)),H.tape.trans (E.tape.trans (gW.tape.trans z.q.tape)),H.output.trans (E.output.trans (gW.output.trans z.q.output)),ZJ,λk a hM=>k9 k a (λe=>hM (e ▸ mg)) (λe=>hM (ml k (by rw [<-B,e]))) (λe=>hM (e ▸ mp))⟩,rfl,λk=>I k\/w5.heap.size<=k/\k<w8.heap.size/\y.ownBlock≠some k,gm,y,nv,sv,dv,m2,R.take (lT S.recs x)++(iq x j,x)::R.drop (lT S.recs x),?_,.inl mp,.inl mg,λg C=> ?_,λk a=> ?_,λk a=>a.imp (mF k) id,λk a=>a.elim (λh=>by have:=lt k h; omega) λh=>h.2⟩
 .refine ⟨Sn h.ok s hf a2,bb,(jI h.net a4).wider λk a=> .inl a,(h.scn.mono a4).wider λk a=> .inl a,(h.dst.mono a4).wider λk a=> .inl a,?_,?_,?_,?_,?_,?_,h.pm,?_⟩
  .rw [wJ s,List.map_append,List.map_cons,List.map_take,List.map_drop,h.eq];rfl
  .have J:(R.take (lT S.recs x)++(iq x j,x)::R.drop (lT S.recs x)).length=R.length+1:=by
    rw [List.length_append,List.length_cons,List.length_take,List.length_drop];have:=(j6 S.recs x).le;omega
   obtain ⟨f1,f2⟩:=qY ax (lT S.recs x);rw [J,List.flatMap_append,List.flatMap_cons,<-f1,<-f2,<-List.append_assoc];exact a6.kept λq c=>H.block q (a6.lt c) (λe=>by cases e; exact (a3 p ZJ (λe=>h.lp.1 (B ▸ e))) c)
  .intro q c;rcases ZH c with c|c
   .exact rcT.wider _ _ _ _ _ (λk a=> .inl a) (rcT.mono _ _ _ _ _ a4 (h.reps q (List.mem_of_mem_take c)))
   .rcases List.mem_cons.1 c with rfl|c
    .exact ⟨j,rfl,l.i1,l.i2,l.i3,l.i4,l.lb,(l.ct.mono (Kept.of_blocks λk a d=>H.block k d λe=>by cases e; omega)).wider λk a=> .inr ⟨ZJ,a.2⟩⟩
    .exact rcT.wider _ _ _ _ _ (λk a=> .inl a) (rcT.mono _ _ _ _ _ a4 (h.reps q (List.mem_of_mem_drop c)))
  .exact au.kept ((H.block gm ZJ (λe=>by cases e; exact h.pm rfl)).trans (E.block gm ZJ (λe=>h.lp.2 (by rw [<-B,<-e]))))
  .intro q c;obtain ⟨cs,e,hA⟩:=av q c;refine ⟨cs,e,(hA.mono (Kept.of_blocks λk a d=> ?_)).wider λk a=>a.imp id λa=>⟨a.1,ZJ,a3 k a.2 λe=>by have:=t k (by rw [<-B,e]); omega⟩⟩;rcases a with a|a
   .have hI:=h.hI k a;exact (k5 k ZJ hI.2.2.1 (λe=>hI.2.2.2 (by rw [<-B,e])) hI.2.1).trans (gW.block k ZJ (λe=>by cases e; exact hI.2.2.1 rfl)).symm
   .exact kW k a.1 a.2
  .intro k a;rcases a with a|a
   .have hI:=h.hI k a;exact ⟨ZJ,hI.2.1,hI.2.2.1,a3 k ZJ λe=>hI.2.2.2 (by rw [<-B,e])⟩
   .exact ⟨ZJ,ZJ,ZJ,a.2.2⟩
  .exact ⟨a3 p ZJ λe=>h.lp.1 (by rw [<-B,e]),a3 gm ZJ λe=>h.lp.2 (by rw [<-B,e])⟩
 .rcases ai g C with e|e
  .exact .inl (ml g (by rw [<-B,e]))
  .have:=a6.lt C;exact .inr ZJ
 .exact a.imp (iF k) λa=>ZJ
theorem kK {α:Type} {T:Ty α} {t:TypeId} (ps:List (List Value×α)) (h:Blk w g t (ps.flatMap (·.1))) (hn:n=ps.length) (hp: ∀p∈ps,T.rep (λk=>k<w.heap.size) w p.1 p.2) (hs:ps.length<=1000000) (h0:0<T.n:=by decide):SL T (λk=>k<w.heap.size) w (.slice (some ⟨g,0,none⟩) n n) (ps.map (·.2)):=by
 subst hn;exact eB ps hp h0 (aU h (lD (λp:List Value×α=>p.1) T.n ps (λp hp'=>T.len _ _ _ _ (hp p hp'))) ZJ) rfl (λq hq=>by simp [Value.ownBlock] at hq; subst hq; exact h.lt) ZJ
theorem Ql:Ty.One evT:=λ_ _ _ _ ⟨v,h,_,_,_,A,b,c,_⟩ u a=>by
 rw [h] at a;simp at a;rcases a with rfl|rfl|rfl|rfl
 .rfl
 .rfl
 .rfl
 .rw [c]; rfl
abbrev Yy (b:Nat) (w:World) (v:Value) (rs:List (List Ev)):Prop:=SL (sliceT evT) (λk=>b<=k/\k<w.heap.size) w v rs
abbrev Wi (w:World) (v:Value) (rs:List (List Ev)):Prop:=SL (sliceT evT) (λk=>k<w.heap.size) w v rs
theorem BP {l:List (List Ev)} (h:Wi w v l) (hb:ZT w w'):Wi w' v l:=h.step (iQ pW) hb
theorem Jk {u:Value} (hl:SE w v l) (A:SL (sliceT aS) F w u ws) (p:l.length<=1000000) (r: ∀e∈l,e.needs.length<=1000000) (L:ws.length<=1000000) :
  Gives prog 90 #[v,u] w λx j=>ZT w j/\Yy w.heap.size j x (eX l ws):=by
 have s:=A.bnd;refine gw func90 ntmps90 ?_;refine SF [0,8,9] 10 ws.length 5 (sliceT evT) 39 (eX l ws) (λi B C W D c h b=> ?_) λB C W c h b=> ?_
 .have t:=ZD D;have k:=congrArg List.length b;simp at k;obtain ⟨H,d,m⟩:=Lx A c t;refine rn ?_;refine cr rfl (Hu (dW hl c) d p r) λx I E y=> ?_;obtain ⟨J,z,rfl,_⟩:=y.form;refine rg U6 Nu rfl (h.step E) (a:=dB l ws[i]) ⟨_,rfl,y.wider λq n=>⟨Nat.le_trans c.size n.1,n.2,λe=>by have:=h.1.lt e; have:=n.1; omega⟩⟩ λg G j o K=> ?_;exact Q6 (by simp [eX,t]) o
 .have:=h.sl ZL;rw [b,List.take_of_length_le (by simp [eX])] at this;exact aO rfl ⟨c,this⟩
theorem Qf (hn:n<=1000000000):Gives prog 307 #[.slice none 0 0,ZU (n:Int)] w λu a=>ZT w a/\OwnS a 68 4 u 0 []/\ ∀g,u.ownBlock=some g->w.heap.size<=g:=by
 refine gv func307 ntmps307 ?_;refine aB ?_;refine aI rfl (λb=> ?_) (λc=> ?_)
 .exfalso;omega
 refine aB ?_;refine pF rfl rfl underlying39 rfl ct ?_;refine aB ?_;refine aI rfl (λh=> ?_) (λi=> ?_)
 .refine aB ?_;refine pF rfl rfl underlying39 rfl ct ?_;refine aM lL rfl ⟨ct,ct,trivial⟩ (λ_=>by (try dsimp only); omega) ?_;refine aB ?_;rw [show ((n:Int)-((((0:Nat):Int))-((0:Nat):Int)))=(n:Int) by omega];refine Eo rfl rfl AL underlying3 rfl rfl ZJ hn ZL ZL ?_;rintro g j o d k e l;refine aB ?_;refine aM lL rfl ⟨ct,ct,trivial⟩ (λ_=>by (try dsimp only); omega) ?_;refine aB ?_;refine aO rfl ⟨l,k,λq m=>by simp [Value.ownBlock] at m; omega⟩
 .refine aB ?_;refine aO rfl ⟨ZA,OwnS.nil _ _ _,λg e=>by simp [Value.ownBlock] at e⟩
theorem zy {a b:List Ev} (O:SL (sliceT evT) (λk=>k<w.heap.size) w v [a,b]) (ha:a.length<=1000000) (hb:b.length<=1000000) :
  Gives prog 261 #[v] w λu S=>ZT w S/\SE S u (a++b):=by
 obtain ⟨L,m⟩: ∃L,L= [a,b]:=⟨_,rfl⟩;have h2:L.length=2:=by rw [m]; rfl
 have U: ∀ {k r},L[k]?=some r->r.length<=1000000/\(L.take (k+1)).flatten=(L.take k).flatten++r:=λ{k r} h=>⟨by
  have:=ZF h;rw [m] at this;simp at this;rcases this with rfl|rfl<;>assumption,by rw [ZG,h]; simp⟩
 have c: ∀k,((L.take k).flatten).length<=2000000:=λk=>by
  rw [m];rcases k with _|_|k<;>simp<;>omega
 have A:L.flatten=a++b:=by rw [m]; simp
 rw [<-m] at O;clear m;refine gw func261 ntmps261 ?_;refine ze w [0,9,10] 11 L.length (λn:Nat=> [(3,none,ZU (n:Int))]) (λk n W=>n=((L.take k).flatten).length) 0 rfl (λk n W j d Y=> ?_) λn W d Y=> ?_
 .have o:=ZD j;obtain ⟨sv,i,l⟩:=Lx O d o;have B:=U o;have h8:=c k;refine rn ?_;refine cd rfl (λh=>absurd h ZJ) λ_=> ?_;exact qz (n+L[k].length) (by rw [B.2,Y]; simp)
 have h8:=c L.length;refine rn ?_;refine cr rfl (Qf (n:=n) ZJ) λu1 w1 b1 h=> ?_;obtain ⟨C,D⟩:=h;have hz:=d.size;refine rn ?_;refine ze w [25,26] 27 L.length (λz:Value×List (List Value×Ev)=> [(6,none,z.1)]) (λk z W=>RowG evT (λk=>k<w.heap.size) W 68 w.heap.size z.1 z.2/\z.2.map (·.2)=(L.take k).flatten) (u1,[]) ⟨⟨C,(λp E=>by cases E),λg hg=>by have:=D g hg; omega⟩,rfl⟩ (λk z W j d q=> ?_) λz W d q=> ?_
 .obtain ⟨ov,ps⟩:=z;obtain ⟨s,F⟩:=q;dsimp only at s F;have o:=ZD j;obtain ⟨sv,i,l⟩:=Lx O d o;have B:=U o;have h7:=c k;have G:=congrArg List.length F;simp only [List.length_map] at G;obtain ⟨R,Z,rfl,_⟩:=i.form;obtain ⟨H,t,x,I,J⟩:=i.flat ZL;have K:H.length=L[k].length:=by rw [<-t]; simp
  refine rn ?_;refine aT (H.flatMap (·.1)) rfl rfl AL rfl s.1 rfl (by rw [I]; rfl) J (iH Ql x) ZJ ZJ λM w2 o2 y N=>rn ?_;refine qz (M,ps++H) ⟨s.apps (λp E=>evT.wider _ _ _ _ _ (λk j=>⟨j,Nat.lt_of_lt_of_le j d.size,λe=>by have:=s.2.2 k e; omega⟩) (x p E)) (by rw [K]; exact o2) y N d.size,?_⟩ (d.grown y d.size s.2.2);rw [List.map_append,F,t,B.2]
 .rw [List.take_length,A] at q;exact aO rfl ⟨d,by rw [<-q.2]; exact (q.1.sl ZL).wider λk j=>j.2⟩
def VV (K:Knd) (r:List Ev) (W:World) (ev lg:Value):Prop:=match K with
 | .at o f t=>SE W ev (r++ [EN o f t])/\lg= .slice none 0 0
 | .on l t=>SE W ev (r++ [As l t,Bd l t])/\ ∃la lc,lg= .slice (some la) 1 lc/\LegAt W la r.length l.trav
def FormOK (w:World) (k:FuncId) (caps:List Value) (K:Knd):Prop:= ∀(r:List Ev) (rv:Value) (w':World),ZT w w'->SE w' rv r->r.length<=14 ->
 Gives prog k (rv::caps).toArray w' λu w''=>ZT w' w''/\ ∃ev lg,u= .tuple #[ev,lg]/\VV K r w'' ev lg
theorem FormOK.step {w w':World} {k:FuncId} {caps:List Value} {K:Knd} (h:FormOK w k caps K) (hb:ZT w w'):FormOK w' k caps K:=λr a b c=>h r a b (hb.step c)
def Knd.OK:Knd->Prop
 | .at o f t=>fF o/\fF f/\fF t
 | .on l t=>fF l.frm/\fF l.to/\0<=l.trav/\l.trav<=1000000/\0<=t/\t<=1000000
theorem K7 {g1 g2 g3:Nat} (h1:Blk w g1 3 [ZU o]) (k:Blk w g2 3 [ZU f]) (l:Blk w g3 3 [ZU t]) (e:Knd.OK (.at o f t)) :
  FormOK w 260 [.pointer (some ⟨g1,0,none⟩),.pointer (some ⟨g2,0,none⟩),.pointer (some ⟨g3,0,none⟩)] (.at o f t):=by
 intro r m z c g h
 replace h1:=h1.next c
 replace k:=k.next c
 replace l:=l.next c
 refine gw (vs:= [m,.pointer (some ⟨g1,0,none⟩),.pointer (some ⟨g2,0,none⟩),.pointer (some ⟨g3,0,none⟩)]) func260 ntmps260 ?_;refine eD [ZU o,ZU f,ZU t,.slice none 0 0] rfl (rn ?_);refine bs _ Gd rfl λn B i=> ?_;obtain ⟨A,q,rfl,_⟩:=g.form;refine bs _ Nu rfl λC s d=> ?_;have j:=i.below.step d.below;have u:SE s (.slice (some ⟨n,0,none⟩) 1 1) [EN o f t]:=kK [([ZU o,ZU f,ZU t,.slice none 0 0],EN o f t)] (i.blk.next d.below) rfl (λp v=>by
  rw [List.mem_singleton.1 v];exact ⟨_,rfl,e.1,e.2.1,e.2.2,SL.nil _ _ _⟩) ZM
 refine cr rfl (zy (a:=r) (b:= [EN o f t]) (kK (T:=sliceT evT) [([_],r),([_],[EN o f t])] d.blk rfl (by simpa using ⟨⟨_,rfl,dW g j⟩,_,rfl,u⟩) ZM) ZJ ZM) λD E x y=> ?_;exact rD rfl ⟨j.step x,_,_,rfl,y,rfl⟩
end Go.Proofs.YtoleahhfkpkcjaaGreatDoor
namespace Go.PF
open Go.RowKit
section
section
variable {P:Program} {N:Nat} {ds:List Deferred} {ops rest:List Oper} {D:DE} {w:World} {G:Option Bool} {Fin:DE->Prop}
variable {d:Option Tmp} {ty:TypeId} {pos:String} {af:Array Edge} {gu:Option (Nat×Bool)}
variable {x:Operand} {cx:Option Bool}
theorem xX {t:TypeId} (e:TypeId) {sz len:Nat} {parts:Array (Nat×Operand)} (xs:List Operand) {es:List Ent} (ψ:Value->World->Prop) (hm:Ent.mono (.pr ψ)) (x:fD ops D gu=some G) (y:aC N d=true) (hp:parts.toList=number xs) (he:cB P t e sz=true)
  (z:PArgs (Oper.looksAt ops.toArray ⟨d,.buildSlice t len parts,ty,pos,af,gu⟩) N ds D G xs es) (hl:len=xs.length) (l:Nat.ble (xs.length*sz) 16777216=true) (c:Nat.blt 0 xs.length=true)
  (h:aF G-> ∀j k,ZT w k->Sats es j k->(∀v∈j,v.cells.size=sz)/\ ∀g b,Fresh k b g e (j.flatMap (λv=>v.cells.toList))->ψ (.slice (some ⟨g,0,none⟩) len len) b)
  (next:DW P N ds .weak ops w Fin rest (bE D d G (.pr ψ))):DW P N ds .weak ops w Fin (⟨d,.buildSlice t len parts,ty,pos,af,gu⟩::rest) D:=by
 refine pG x y rfl hm (λm a b n o=> ?_) next
 have p:=z (λt q=>bB ?_) a b o m
 .obtain ⟨r,s⟩:=h m _ _ n p;refine ⟨_,_,fK hp (by simpa using hl) he rfl r (by simpa using Nat.le_of_ble_eq_true l) (by simpa using blt_iff.1 c),(ZA).alloc ZC _,?_⟩;have:=s _ _ (gD b e _);rw [hl] at this;show ψ _ _;simpa using this
 .simp only [Op.operands];rw [hp];simp only [number,List.map_map];rw [List.mem_map];obtain ⟨i,u,f⟩:=List.getElem_of_mem q;exact ⟨(.tmp t,i),by rw [List.mem_zipIdx_iff_getElem?]; rw [ZD u,f],rfl⟩
end
end
end Go.PF
namespace Go.Proofs.YtoleahhfkpkcjaaGreatDoor
open Go.Proofs.Tryz
open Go.PF Go.RowKit Go.Ord
attribute [local irreducible] TW CW KW DW
theorem Py {g1 g2:Nat} {l:Li} (h1:Blk w g1 157 (JK l)) (h2:Blk w g2 3 [ZU t]) (hI:Knd.OK (.on l t)) :
  FormOK w 262 [.pointer (some ⟨g1,0,none⟩),.pointer (some ⟨g2,0,none⟩)] (.on l t):=by
 intro r rv w1 g I J;obtain ⟨R,c,rfl,_⟩:=I.form;obtain ⟨N,O,i3,i4,i5,i6⟩:=hI;have i:=h1.next g;have z:=h2.next g;have S:fF (t-l.trav+1):=⟨ZJ,ZJ⟩;have U:fF (t-1):=⟨ZJ,ZJ⟩;have Y:fF (t+1):=⟨ZJ,ZJ⟩;have Z:fF (t+l.trav-1):=⟨ZJ,ZJ⟩;refine gv func262 ntmps262 ?_;refine aB ?_;refine aG rfl (i.fld rfl) ?_;refine aG rfl (z.cell 0) ?_;refine aB ?_;refine aG rfl (i.fld rfl) ?_;refine aB ?_;refine aG rfl (z.cell 0) ?_;refine aB ?_;refine jr [0,1,2] _ [ZU l.frm,ZU (t-l.trav+1),ZU (t-1),.slice none 0 0] rfl rfl rfl (aA rfl ct (aA rfl ct (aA rfl ct aJ))) ZK ?_;refine fw rfl tX rfl is68.q rfl rfl ?_;rintro g3 w3 d;refine aB ?_;refine aG rfl ((i.next d.below).fld rfl) ?_;refine aG rfl ((z.next d.below).cell 0) ?_;refine aB ?_;refine aG rfl ((z.next d.below).cell 0) ?_;refine aB ?_;refine aG rfl ((i.next d.below).fld rfl) ?_;refine aB ?_;refine jr [0,1,2] _ [ZU l.to,ZU (t+1),ZU (t+l.trav-1),.slice none 0 0] rfl rfl rfl (aA rfl ct (aA rfl ct (aA rfl ct aJ))) ZK ?_;refine fw rfl tX rfl is68.q rfl rfl ?_;rintro g4 w4 C;refine aB ?_;have m:=d.below.step C.below;refine aG rfl ((i.next m).fld rfl) ?_
 refine jr [0,1,2] _ [ZU (r.length:Int),ZU ((r.length:Int)+1),ZU l.trav] rfl rfl rfl (aA rfl ct (aA rfl ct (aA rfl ct aJ))) ZK ?_;refine fw rfl KR rfl is255.q rfl rfl ?_;rintro g5 w5 A;refine aB ?_;refine dC [0,1,2,4,5,6,7,8] rfl ?_;refine gV mixed ZK ?_;refine jE ?_;have o:=m.step A.below;have B3:=(d.blk.next C.below).next A.below;have B4:=C.blk.next A.below;have B5:=A.blk;have r5:=dW I o;refine jY rfl (λ_ _ s=>B3.fld s) ?_;refine jY rfl (λ_ _ s=>B4.fld s) ?_;refine kw 68 _ rfl rfl rfl Gd (cO rfl ct (cO rfl ct dR)) rfl rfl rfl rfl rfl ?_;refine xX 39 _ (λu W=>Wi W u [r,[As l t,Bd l t]]) (λ_ _ _ v h=>BP h v) rfl rfl rfl Nu (bC rfl ct (bC rfl ct eO)) rfl rfl rfl (λ_ K w' x D=> ?_) ?_
 .obtain ⟨_,b,rfl,rfl,⟨L,rfl,Bb⟩⟩:=Sats.two D;refine ⟨by simp [Value.cells],λgg a B=> ?_⟩;have e2:SE a (.slice (some ⟨L,0,none⟩) 2 2) [As l t,Bd l t]:=kK [([ZU l.frm,ZU (t-l.trav+1),ZU (t-1),.slice none 0 0],As l t),([ZU l.to,ZU (t+1),ZU (t+l.trav-1),.slice none 0 0],Bd l t)] (Bb.next B.below) rfl (λp y=>by
   simp only [List.mem_cons,List.not_mem_nil,or_false] at y;rcases y with rfl|rfl
   .exact ⟨_,rfl,N,S,U,SL.nil _ _ _⟩
   .exact ⟨_,rfl,O,Y,Z,SL.nil _ _ _⟩) ZM
  have r2:SE a (.slice R r.length c) r:=dW r5 (x.step B.below);exact eB (T:=sliceT evT) (F:=λk=>k<a.heap.size) (w:=a) (e:=39) (n:=2) [([.slice R r.length c],r),([.slice (some ⟨L,0,none⟩) 2 2],[As l t,Bd l t])] (λp y=>by
   simp only [List.mem_cons,List.not_mem_nil,or_false] at y;rcases y with rfl|rfl
   .exact ⟨_,rfl,r2⟩
   .exact ⟨_,rfl,e2⟩) ZL (aU B.blk rfl ZJ) rfl (λq M=>by simp [Value.ownBlock] at M; subst M; exact B.blk.lt) ZM
 refine Ey (.pr (λu W=>SE W u (r++ [As l t,Bd l t]))) (λ_ _ _ v h=>dW h v) rfl rfl Vk rfl ct (bC rfl ct eO) (λ_ w' x K D=> ?_) ?_
 .obtain ⟨u,rfl,hu⟩:=Sats.one D;exact zy hu ZJ ZM
 refine jY rfl (λ_ _ s=>B5.fld s) ?_;refine kw 255 _ rfl rfl rfl Ve (cO rfl ct dR) rfl rfl rfl rfl rfl ?_;refine lS rfl rfl rfl ct (λ_ _ _ v h=>dW h v) ?_;refine lS rfl rfl rfl ct (Lies.mono _ _ _) ?_;refine gJ (qg [4,5] rfl λK w9 E G=>aL ?_);obtain ⟨v4,v5,rfl,h4,h5⟩:=Sats.two G;refine pJ ?_;obtain ⟨gl,rfl,H⟩:=h5;refine rD rfl ⟨o.step E,_,_,rfl,h4,⟨gl,0,none⟩,1,rfl,⟨λj u hj=>H.fld hj⟩⟩
theorem TI {gf gd k:Nat} {K:Knd} (p:Blk w gf 147 [.func (.func k) #[] caps.toArray]) (i:Blk w gd 40 [dv]) (E:SD w dv d) (F:enters prog k=true) (G:FormOK w k caps K) (e:K.OK) (g: ∀r∈rs,r.length<=14) :
  GV w 181 [.pointer (some ⟨gf,0,none⟩),.pointer (some ⟨gd,0,none⟩)] rs (K.b d):=by
 intro r y s H a j
 replace p:=p.next a
 replace i:=i.next a
 refine gw (vs:= [s,.pointer (some ⟨gf,0,none⟩),.pointer (some ⟨gd,0,none⟩)]) func181 ntmps181 ?_;refine Xo F rfl (G r s _ a (j.wider λq z=>Nat.lt_of_lt_of_le z a.size) (g r y)) λI J m h=> ?_;obtain ⟨A,B,rfl,u⟩:=h;have c:=fI E (a.step m)
 replace i:=i.next m
 clear p;refine rn ?_;refine cr rfl (k:=82) (vs:= [dv,A,B]) (R:=λx _=> ∃v,x= .tuple #[v,.bool (K.b d r)]) (by
  cases K with
  | «at» o f t =>
   obtain ⟨n,rfl⟩:=u
   exact Dr c n
  | on l t =>
   obtain ⟨n,L,M,rfl,C⟩:=u;exact TA c n C rfl rfl ⟨e.2.2.1,e.2.2.2.1⟩) λN O D h=> ?_
 obtain ⟨v,rfl⟩:=h;refine rn ?_;exact aO rfl ⟨m.step D,rfl⟩
theorem VK {k:FuncId} {K:Knd} (h:SD w dv d) (l:Wi w sv rs) (m:enters prog k=true) (n:FormOK w k caps K) (e:K.OK) (a: ∀r∈rs,r.length<=14) :
  Gives prog 92 #[dv,sv,.func (.func k) #[] caps.toArray] w λx i=>ZT w i/\x= .bool (yC d rs K):=by
 refine gw func92 ntmps92 ?_;refine nw (vx:=dv) (cs:= [dv]) (by rw [SL.cs1 h]; rfl) λo p g=> ?_;refine nw rfl λq s c=> ?_;have b:=g.below.step c.below;refine cv rfl (Ls (BP l b) Vv (TI c.blk (g.blk.next c.below) (fI h b) m (n.step b) e a)) λt j=> ?_;exact aO rfl ⟨b.step j,rfl⟩
def FormAt (b:Nat) (W:World) (v:Value) (K:Knd):Prop:=match K with
 | .at o f t=> ∃g1 g2 g3,v= .func (.func 260) #[] [.pointer (some ⟨g1,0,none⟩),.pointer (some ⟨g2,0,none⟩),.pointer (some ⟨g3,0,none⟩)].toArray/\Blk W g1 3 [.int .i64 o]/\Blk W g2 3 [.int .i64 f]/\Blk W g3 3 [.int .i64 t]/\b<=g1/\b<=g2/\b<=g3
 | .on l t=> ∃g1 g2,v= .func (.func 262) #[] [.pointer (some ⟨g1,0,none⟩),.pointer (some ⟨g2,0,none⟩)].toArray/\Blk W g1 157 (JK l)/\Blk W g2 3 [.int .i64 t]/\b<=g1/\b<=g2
theorem FormAt.ok {W:World} {K:Knd} (h:FormAt b W v K) (e:K.OK): ∃k a,v= .func (.func k) #[] a.toArray/\enters prog k=true/\FormOK W k a K:=by
 cases K with
 | «at» o f t =>
  obtain ⟨g,i,m,rfl,c,d,j,_⟩:=h
  exact ⟨_,_,rfl,Vl,K7 c d j e⟩
 | on l t =>
  obtain ⟨g,i,rfl,c,d,_⟩:=h;exact ⟨_,_,rfl,Vj,Py c d e⟩
theorem FormAt.ext {b n:Nat} {W W':World} {v:Value} {K:Knd} (h:FormAt b W v K) (a:ExtF n W W'):FormAt b W' v K:=by
 cases K with
 | «at» o f t =>
  obtain ⟨c,d,j,rfl,e,g,k,i⟩:=h
  exact ⟨c,d,j,rfl,e.ext a,g.ext a,k.ext a,i⟩
 | on l t =>
  obtain ⟨c,d,rfl,e,g,i⟩:=h;exact ⟨c,d,rfl,e.ext a,g.ext a,i⟩
theorem O3:Gives prog 178 #[ZU o,ZU f,ZU t] w λu d=>ZT w d/\FormAt w.heap.size d u (.at o f t):=by
 refine gw func178 ntmps178 ?_;refine nw rfl λe i c=> ?_;refine nw rfl λg j a=> ?_;refine nw rfl λh k b=> ?_;have l:=c.at_;have m:=a.at_;have n:=b.at_;have p:=c.size;have q:=a.size;exact aO rfl ⟨c.below.step (a.below.step b.below),e,g,h,rfl,c.blk.next (a.below.step b.below),a.blk.next b.below,b.blk,ZJ,ZJ,ZJ⟩
theorem Se {l:Li}:Gives prog 179 #[.agg (JK l).toArray,ZU t] w λu c=>ZT w c/\FormAt w.heap.size c u (.on l t):=by
 refine gw func179 ntmps179 ?_;refine nw rfl λd g a=> ?_;refine nw rfl λe h b=> ?_;have i:=a.at_;have j:=b.at_;have k:=a.size;exact aO rfl ⟨a.below.step b.below,d,e,rfl,a.blk.next b.below,b.blk,ZJ,ZJ⟩
theorem L8 {v:NV}:Gives prog 91 #[.agg v.cells.toArray,ZU t] w λu e=>ZT w e/\ ∃a b,u= .func (.func 177) #[] [.pointer (some ⟨a,0,none⟩),.pointer (some ⟨b,0,none⟩)].toArray/\Blk e a 29 v.cells/\Blk e b 3 [ZU t]/\w.heap.size<=a/\w.heap.size<=b:=by
 refine gw func91 ntmps91 ?_;refine nw rfl λa g c=> ?_;refine nw rfl λb h d=> ?_;have i:=c.at_;have j:=d.at_;have k:=c.size;exact aO rfl ⟨c.below.step d.below,a,b,rfl,c.blk.next d.below,d.blk,ZJ,ZJ⟩
abbrev Uh:=Value×Br×Knd
def UJ (N:Net) (t:Int) (pre:List Uh) (x:Uh) (_:Nat->Prop) (W:World):Prop:=pre.map (·.2)=(qL N t).take pre.length/\(qL N t)[pre.length]?=some x.2/\ ∃b,FormAt b W x.1 x.2.2
theorem yL {α:Type} {l:List α} {i:Nat} {x:α} (h:l[i]?=some x):l.take (i+1)=l.take i++ [x]:=by rw [ZG,h]; rfl
theorem Cu {v:NV} {g1 g2:Nat} (hN:NetIn F w v N) (hF: ∀k,F k->k<w.heap.size) (a2:Blk w g1 29 v.cells) (a3:Blk w g2 3 [ZU t]) (aj:N.offs.length<=1000/\N.lines.length<=1000) :
  zS prog 177 [.pointer (some ⟨g1,0,none⟩),.pointer (some ⟨g2,0,none⟩)] (λx:Uh=> [.agg (Ac x.2.1).toArray,x.1]) (UJ N t) (λxs=>xs.map (·.2)=qL N t) (λk=>k=g1\/k=g2\/F k) w:=by
 intro yl J Jx W M a0 ac ae hM a1 hJ af hy h0;have E:=NetIn.form hN;obtain ⟨vc,vn,vo,vf,vl,vk⟩:=v;obtain ⟨_,_,_,⟨A4,c4,e4⟩,⟨A5,c5,e5⟩,_⟩:=id E;dsimp only at e4 e5;subst e4 e5;have e: ∀k,(k=g1\/k=g2\/F k)->k<w.heap.size:=λk a=>by
  rcases a with rfl|rfl|a
  .exact a2.lt
  .exact a3.lt
  .exact hF k a
 have A: ∀g:World,(∀k,(k=g1\/k=g2\/F k)->g.heap[k]?=w.heap[k]?)->Blk g g1 29 (NV.cells ⟨vc,vn,vo,.slice A4 N.offs.length c4,.slice A5 N.lines.length c5,vk⟩)/\Blk g g2 3 [ZU t]/\SL KO F g (.slice A5 N.lines.length c5) N.lines:=λg h =>
  ⟨(h g1 (.inl rfl)).trans a2,(h g2 (.inr (.inl rfl))).trans a3,hN.l.mono (Kept.of_blocks λk a _=>h k (.inr (.inr a)))⟩
 have p: ∀k,(k=g1\/k=g2\/F k)->W.heap[k]?=w.heap[k]?:=λk a=>a0 k a (e k a);obtain ⟨m1,m2,m3⟩:=A W p;have a4:=Ct N t;refine gv func177 ntmps177 ?_;refine aB ?_;refine aG rfl (m1.fld rfl) ?_;refine aB ?_;refine dA [0,1,2,9] (λx:List Uh×(Nat->Prop)=> [(10,none,ZU (x.1.length:Int))])
  (λx g=>J x.1 x.2 g/\x.1.length<=N.offs.length/\x.1.map (·.2)=(qL N t).take x.1.length/\W.heap.size<=g.heap.size/\(∀k,x.2 k->k<g.heap.size)/\ ∀k,(k=g1\/k=g2\/F k)->g.heap[k]?=w.heap[k]?/\ ¬x.2 k) (λx=>N.offs.length-x.1.length) ([],M) ⟨h0,ZB,rfl,ZC,a1,λk a=>⟨p k a,(hM k a).1⟩⟩ ?_
 rintro ⟨b,G⟩ W1 ⟨B,r,d,D,n,c⟩;dsimp only at B r d n c;refine aB ?_;refine aI rfl (λH=> ?_) (λs=> ?_)
 .dsimp only at H;have o:=L5 (N:=N) (t:=t) (i:=b.length) ZJ;obtain ⟨n1,n2,n3⟩:=A W1 (λk a=>(c k a).1);refine aB ?_;refine jr [0,1] _ [ZU (b.length:Int),ZU (-1)] rfl rfl rfl (aA rfl ct (aA rfl ct aJ)) ZK ?_;refine aB ?_;refine aG rfl (n2.cell 0) ?_;refine aG rfl (n2.cell 0) ?_;refine aN rfl (O3) ?_;rintro fv w2 ⟨m,I⟩;have K:J b G w2:=hJ _ _ _ _ B (.of_below m);refine kE rfl rfl rfl (aA rfl ct (aA rfl ct aJ)) (hy b (fv,((b.length:Int),-1),.at b.length t t) G w2 K ⟨d,o,_,I⟩ (λk a=>by have:=n k a; have:=m.size; omega) (by have:=m.size; omega)) ?_;rintro yb W3 C;have L: ∀k,(k=g1\/k=g2\/F k)->W3.heap[k]?=w.heap[k]?:=λk a=>(C.kept k (by have:=e k a; have:=m.size; omega) (c k a).2 (hM k a).2).trans ((m.block k (by have:=e k a; omega)).trans (c k a).1);refine aB ?_;refine aK rfl (λO=> ?_) (λy=> ?_)
  .refine aB ?_;refine Cb results177 (.inr ?_);obtain ⟨R,hx⟩:=C.no (by simpa using O);exact ⟨_,R,hx⟩
  .refine aB ?_;obtain ⟨R,S,z⟩:=C.yes (by simpa using y);refine cK (b++ [(fv,((b.length:Int),-1),.at b.length t t)],R) ⟨S,ZO,?_,by have:=C.size; have:=m.size; omega,λk a=>(z k a).2,λk a=>⟨L k a,λU=> ?_⟩⟩ (hm:=by simp; omega) (hp:= ?_)
   .dsimp only;rw [List.map_append,d,List.length_append,List.length_cons,List.length_nil,Nat.zero_add,yL o];rfl
   .rcases (z k U).1 with h|h
    .exact (c k a).2 h
    .have:=e k a; have:=m.size; omega
   .simp only [List.length_append,List.length_cons,List.length_nil,Nat.zero_add,Int.natCast_add];rfl
 have a5:b.length=N.offs.length:=by
  dsimp only at s;omega
 obtain ⟨n1,n2,n3⟩:=A W1 (λk a=>(c k a).1);refine aB ?_;refine aG rfl (n1.fld rfl) ?_;refine aB ?_;refine dA [0,1,2,24,25] (λx:List Uh×Nat×(Nat->Prop)=> [(26,none,ZU (x.2.1:Int))])
  (λx g=>J x.1 x.2.2 g/\x.2.1<=N.lines.length/\x.1.length=N.offs.length+x.2.1/\x.1.map (·.2)=(qL N t).take x.1.length/\W.heap.size<=g.heap.size/\(∀k,x.2.2 k->k<g.heap.size)/\ ∀k,(k=g1\/k=g2\/F k)->g.heap[k]?=w.heap[k]?/\ ¬x.2.2 k) (λx=>N.lines.length-x.2.1) (b,0,G) ⟨B,ZB,a5,d,D,n,c⟩ ?_
 rintro ⟨b,i,G⟩ W1 ⟨B,a6,r,d,D,n,c⟩;dsimp only at B a6 r d n c;refine aB ?_;refine aI rfl (λH=> ?_) (λs=> ?_)
 .dsimp only at H;obtain ⟨l,hl,ag⟩:=eP (l:=N.lines) (k:=i) ZJ;have o:=L6 (N:=N) (t:=t) hl;rw [<-r] at o;obtain ⟨n1,n2,n3⟩:=A W1 (λk a=>(c k a).1);obtain ⟨ad,rfl⟩:=n3.addr ZJ;obtain ⟨ah,cs,e9,ai,Y,a7⟩:=n3.at hl;cases e9;obtain ⟨rfl,_⟩:=Y;refine aB ?_;refine fP rfl (λj u B=>a7 j u B) ?_;refine gq rfl rfl KS ?_;rintro g3 w3 f3;refine aB ?_;refine gI rfl rfl rfl f3.blk is157.q rfl rfl rfl ?_;rintro w4 a8 Z ab;refine aB ?_;have b4:ZT W1 w4:=f3.below.grown Z f3.below.size (λq hq=>by cases hq; have:=f3.at_; omega);refine jr [0,1] _ [ZU (-1),ZU (i:Int)] rfl rfl rfl (aA rfl ct (aA rfl ct aJ)) ZK ?_;refine fP rfl (λ_ _ hv=>a8.fld hv) ?_;refine aG rfl ((n2.next b4).cell 0) ?_;refine aN rfl (Se) ?_;rintro fv w2 ⟨a9,I⟩;have m:=b4.step a9;have K:J b G w2:=hJ _ _ _ _ B (.of_below m);refine kE rfl rfl rfl (aA rfl ct (aA rfl ct aJ)) (hy b (fv,(-1,(i:Int)),.on l t) G w2 K ⟨d,o,_,I⟩ (λk a=>by have:=n k a; have:=m.size; omega) (by have:=m.size; omega)) ?_;rintro yb W3 C;have L: ∀k,(k=g1\/k=g2\/F k)->W3.heap[k]?=w.heap[k]?:=λk a=>(C.kept k (by have:=e k a; have:=m.size; omega) (c k a).2 (hM k a).2).trans ((m.block k (by have:=e k a; omega)).trans (c k a).1);refine aB ?_
  refine dC [0,1,2,5,6,24,25,26,38] rfl ?_;refine aK rfl (λO=> ?_) (λy=> ?_)
  .refine aB ?_;refine Cb results177 (.inr ?_);obtain ⟨R,hx⟩:=C.no (by simpa using O);exact ⟨_,R,hx⟩
  .refine aB ?_;obtain ⟨R,S,z⟩:=C.yes (by simpa using y);refine cK (b++ [(fv,(-1,(i:Int)),.on l t)],i+1,R) ⟨S,by dsimp only; omega,ZO,?_,by have:=C.size; have:=m.size; omega,λk a=>(z k a).2,λk a=>⟨L k a,λU=> ?_⟩⟩ (hm:=by dsimp only; omega)
   .dsimp only;rw [List.map_append,d,List.length_append,List.length_cons,List.length_nil,Nat.zero_add,yL o];rfl
   .rcases (z k U).1 with h|h
    .exact (c k a).2 h
    .have:=e k a; have:=m.size; omega
 have aa:i=N.lines.length:=by
  dsimp only at s;omega
 refine aB ?_;refine oU results177 (.inl ⟨b,G,?_,B⟩);dsimp only;rw [d,r,aa,<-a4,List.take_length]
theorem KZ {f' t':Int} (h:WfE d (r++ [EN o f t])):WfE d (r++ [EN o f' t']) :=
 ⟨h.wd,by have:=h.few; simpa using this,λe a=>by
  rcases ZH a with a|a
  .exact h.each e (List.mem_append_left _ a)
  .rw [List.mem_singleton] at a;subst a;have:=h.each (EN o f t) ZM;exact ⟨this.o1,this.o2⟩⟩
def Yw (d:bG) (r:List Ev) (o:Int):Prop:=WfE d (r++ [EN o 0 0])
theorem at_iff:(Knd.at o f t).b d r=true↔Yw d r o/\ ∃τ,f<=τ/\τ<=t/\PV d r o τ:=by
 show dec (jX d (r++ [EN o f t]))=true↔_;rw [dec_iff];unfold jX;rw [LZ];exact ⟨λh=>⟨KZ h.1,h.2⟩,λh=>⟨KZ h.1,h.2⟩⟩
theorem D9 {a b:Bool} (h:a=true↔b=true):a=b:=by cases a<;>cases b<;>simp_all
theorem WfE.sub {l':List Ev} (h:WfE d l) (hs:l'.Sublist l):WfE d l':=⟨h.wd,Nat.le_trans hs.length_le h.few,λe a=>h.each e (hs.subset a)⟩
theorem WfE.perm {l':List Ev} (h:WfE d l) (hp:l.Perm l'):WfE d l':=⟨h.wd,by rw [<-hp.length_eq]; exact h.few,λe a=>h.each e (hp.mem_iff.2 a)⟩
structure SpOK (N:Net) (s:Br):Prop where
 is:(s.2= -1/\0<=s.1/\s.1<N.offs.length)\/(s.1= -1/\0<=s.2/\s.2<N.lines.length)
def Yx (a b:Br):Prop:=(b.2= -1/\a.2= -1/\a.1<b.1)\/(b.1= -1/\0<=b.2/\a.2<b.2)
theorem HV (h:PossOK N d l ws.length t):ll N d l ws t=Ab N d (eX l ws) t:=by
 unfold ll;rw [if_pos (aD h)]
theorem on_iff {l:Li}:(Knd.on l t).b d r=true↔WfE d (r++ [As l t,Bd l t])/\PossJ d r (As l t) (Bd l t) l.trav:=by
 show dec _=true↔_;rw [dec_iff];exact Iff.rfl
theorem CV (h:SoundOK keys11 N) {l:Li} (hl:l∈N.lines):fF l.frm/\fF l.to/\0<=l.trav/\l.trav<=1000000:=by
 have a:=h.cons.lines.good l hl;have b:=h.cons.offs.few;have c:=a.f1;have d:=a.f2;have e:=a.t1;have f:=a.t2;have g:=a.r1;have i:=a.r2;exact ⟨⟨ZJ,ZJ⟩,⟨ZJ,ZJ⟩,ZJ,ZJ⟩
theorem PO (h:SoundOK keys11 N) (j:0<=t) (h1:t<=1000000): ∀p∈qL N t,p.2.OK/\fF p.1.1/\fF p.1.2:=λp a=>by
 have k:=h.cons.offs.few;have l:=h.cons.lines.few;rcases ZH a with a|a
 .obtain ⟨i,b,rfl⟩:=List.mem_map.1 a;have:=List.mem_range.1 b;have c:fF (i:Int):=⟨ZJ,ZJ⟩;exact ⟨⟨c,⟨ZJ,ZJ⟩,⟨ZJ,ZJ⟩⟩,c,⟨by show (-9223372036854775808:Int)<= -1; omega,by show (-1:Int)<=9223372036854775807; omega⟩⟩
 .obtain ⟨i,b,rfl⟩:=List.mem_mapIdx.1 a;obtain ⟨d,e,f,g⟩:=CV h (List.getElem_mem b);exact ⟨⟨d,e,f,g,j,h1⟩,⟨by show (-9223372036854775808:Int)<= -1; omega,by show (-1:Int)<=9223372036854775807; omega⟩,⟨by show -9223372036854775808<=(i:Int); omega,by show (i:Int)<=_; omega⟩⟩
theorem Jj {nw:Nat} (b:FitW d l nw) (ws:List (List Int)): ∀r∈eX l ws,r.length<=14:=λr a=>by
 obtain ⟨S,_,rfl⟩:=List.mem_map.1 a;exact Nat.le_trans (ui l S).length_le b.few
theorem wK {v:NV} {wv:Value} (ht:Tabs w) (hN:iA w v N) (hd:SD w dv d) (hl:SE w lv l) (hS:SD w wv ws) (d5: ∀e∈l,e.needs.length<=1000000) :
  Gives prog 37 #[.agg v.cells.toArray,dv,lv,wv,ZU t] w λx w'=>ZT w w'/\SL sptT (λk=>w.heap.size<=k/\k<w'.heap.size) w' x (ll N d l ws t):=by
 have an:=NetIn.form hN;obtain ⟨A,ao,rfl,d6⟩:=hd.form;obtain ⟨B,d7,rfl,c7⟩:=hl.form;obtain ⟨X,d8,rfl,_⟩:=hS.form;have hv: ∃A4 c4,v.f= .slice A4 N.offs.length c4:=an.f;obtain ⟨vc,vn,vo,F,vl,vk⟩:=v;obtain ⟨A4,c4,e4⟩:=hv;dsimp only at e4;subst e4;refine Tv func37 ntmps37 ?_;refine aB ?_;refine bS rfl rfl rfl rfl ?_;rintro g5 w1 f1;refine bS rfl rfl rfl rfl ?_;rintro g6 w2 f2;refine aB ?_;have b2:=f1.below.step f2.below;have be:=f1.blk.next f2.below;have c9:=f2.blk;refine fP rfl (λ_ _ hv=>be.fld hv) ?_;refine aN rfl (Io (ht.below b2) (bA hN b2)) ?_;rintro y3 w3 ⟨c3,C3,n3,k3,rfl,bf⟩;have b3:=b2.step c3;have bg:=be.next c3;have ai:=c9.next c3;refine aB ?_;refine aG rfl (ai.cell 0) ?_;refine aB ?_;refine il (cap:= []) rfl rfl Xj rfl ct (aA rfl id (aA rfl id (aA rfl id aJ))) (λ_=>JX (fI hd b3) (dW hl b3)) ?_;rintro w4 ap;refine aB ?_;have b4:=b3.step ap;have aj:=bg.next ap;have S:=ai.next ap;refine aG rfl (S.cell 0) ?_;refine aB ?_;refine aG rfl (aj.fld rfl) ?_;refine aB ?_;refine dC [0,1,2,3,4,5,6,10,33] rfl ?_;have ca: ∀ {p:Prop},(p->PossOK N d l ws.length t)->True:=λ_=>trivial;refine aK rfl (λak=> ?_) (λy=> ?_)
 .refine aB ?_;refine LG results37 rfl ⟨b4,?_⟩;have U: ¬PossOK N d l ws.length t:=λh=>by
   have e0:n3=0:=bf.2 h.sound;have e1:=h.same;rw [aD h.fit] at ak;simp [e0,e1] at ak
  unfold ll;rw [aH U];exact SL.nil _ _ _
 have hg:n3=0/\FitW d l ws.length/\d.length=N.offs.length:=by
  by_cases E:FitW d l ws.length
  .rw [aD E] at y;simp at y;exact ⟨ZJ,E,ZJ⟩
  .rw [aH E] at y;simp at y
 obtain ⟨e0,E,aq⟩:=hg;have H:=bf.1 e0;refine aB ?_;refine aK rfl (λcb=> ?_) (λcc=> ?_)
 .refine aB ?_;refine LG results37 rfl ⟨b4,?_⟩;have U: ¬PossOK N d l ws.length t:=λh=>by
   have e0:=h.t0;have e1:=h.t1;simp at cb;omega
  unfold ll;rw [aH U];exact SL.nil _ _ _
 have I:0<=t/\t<=1000000:=by simp at cc; omega
 have cd:PossOK N d l ws.length t:=⟨H,E,aq,I.1,I.2⟩;have ce:=PO H I.1 I.2;have d9:=H.cons.offs.few;have da:=H.cons.lines.few;have dh:=E.worlds;have di:=E.few;refine aB ?_;refine gq rfl rfl Wq ?_;rintro a w5 f5;refine aB ?_;have b5:=b4.step f5.below;refine aN rfl (Jk (dW hl b5) (fI hS b5) ZJ d5 ZJ) ?_;rintro rv w6 ⟨c6,bh⟩;obtain ⟨R6,J,rfl,_⟩:=bh.form;have b6:=b5.step c6;refine lM rfl Us rfl is141.q rfl ?_;rintro ae w7 f7;refine aB ?_;refine Ov [0,1,2,3,4,5,6,10,11,12] rfl ?_;have b7:=b6.step f7.below;have bi:=aj.next (f5.below.step (c6.step f7.below));refine fP rfl (λ_ _ hv=>bi.fld hv) ?_;refine aB ?_;refine aN rfl (L8) ?_;rintro y8 w8 ⟨c8,gN,gT,rfl,bj,bk,dj,dk⟩;have b8:=b7.step c8;refine aB ?_;have s5:=f5.below.size;have s4:=b4.size;have s6:=c6.size;have s7:=f7.below.size;have s8:=c8.size;have q5:=f5.at_;have dl:=f5.size;have q7:=f7.at_;have dm:=f7.size;have bl:Blk w8 g6 40 [.slice A d.length ao]:=S.next (f5.below.step (c6.step (f7.below.step c8)));have bm:Blk w8 a 44 [.slice none 0 0]:=f5.blk.next (c6.step (f7.below.step c8));have bn:Blk w8 ae 141 [.slice R6 (eX l ws).length J]:=f7.blk.next c8;have q6:g6<w4.heap.size:=S.lt
 have dn:w.heap.size<=g6:=by have:=f2.at_; have:=f1.below.size; omega
 have cf:SL (sliceT evT) (λk=>w5.heap.size<=k/\k<w6.heap.size) w8 (.slice R6 (eX l ws).length J) (eX l ws):=bh.below (f7.below.step c8);have cg:NetIn (λk=>k<w.heap.size) w8 ⟨vc,vn,vo,.slice A4 N.offs.length c4,vl,vk⟩ N:=NetIn.below hN b8;have ch:=Cu cg (λk Y=>ZJ) bj bk ⟨ZJ,ZJ⟩;refine qi rfl Vw ch rfl (λ_=>rfl)
  (λz M W=>ZT w W/\w8.heap.size<=W.heap.size/\Blk W g6 40 [.slice A d.length ao]/\Blk W ae 141 [.slice R6 (eX l ws).length J]/\SL (sliceT evT) (λk=>w5.heap.size<=k/\k<w6.heap.size) W (.slice R6 (eX l ws).length J) (eX l ws)/\ ∃F Z,Blk W a 44 [F]/\RowN sptT W 87 w8.heap.size F Z/\Z.map (·.2)=((z.map (·.2)).filter (λp=>yC d (eX l ws) p.2)).map (·.1)/\M=λk=>k=a\/F.ownBlock=some k)
  (λc z M W=>False) (λk=>k=a) ?_ ?_ ?_ (λ_ _ _ _ _ h _=>h) ?_ ?_ ?_ ?_
 .rintro k rfl;refine ⟨ZJ,?_⟩;rintro (rfl|rfl|h)
  .omega
  .omega
  .omega
 .rintro k (rfl|rfl|h)
  .exact bj.lt
  .exact bk.lt
  .omega
 .rintro z M W1 W2 ⟨a1,a2,a3,a4,aR,F,Z,a5,a6,a7,a8⟩ hx;exact ⟨(hx.less ZJ).below a1 ZC,Nat.le_trans a2 hx.size,a3.ext hx,a4.ext hx,aR.ext hx,F,Z,a5.ext hx,a6.ext hx,a7,a8⟩
 .exact ⟨b8,ZC,bl,bn,cf,.slice none 0 0,[],bm,RowN.nil _ _ _ _,rfl,by funext k; simp [Value.ownBlock]⟩
 .rintro D L z ⟨fv,s,K⟩ M W hD hL ⟨a1,a2,a3,a4,aR,F,Z,a5,a6,a7,rfl⟩ ⟨ci,ar,bF,bo⟩ db au af a0;dsimp only at ci ar bo;have dc:Z.length<=2000:=by
   have e1:Z.length=(Z.map (·.2)).length:=ZM;rw [e1,a7,List.length_map];have e2:=List.length_filter_le (λp=>yC d (eX l ws) p.2) (z.map (·.2));have e3:z.length<(qL N t).length:=(ZE ar).1;rw [Ct] at e3;rw [List.length_map] at e2;omega
  obtain ⟨av,bp,bq⟩:=ce _ (ZF ar);dsimp only at av bp bq;refine aB ?_;refine fw rfl Uk rfl is87.q rfl rfl ?_;rintro dp w9 f9;refine aB ?_;refine ni (a0.kept (f9.below.block L a0.lt)) λW2 aw dd cj G=> ?_;have dq:=f9.at_;have de:=f9.size;have u:ExtF 0 W W2:=(ExtF.of_below f9.below).trans (aw.less ZB);have br:ZT w W2:=(aw.less ZJ).below (a1.step f9.below) ZC;have ax:=a3.ext u;have ay:=a4.ext u;have az:=aR.ext u;have ck:=a5.ext u;have cm:=a6.ext u;have bs:=f9.blk.ext aw;have dr:L<W.heap.size:=a0.lt;have bt: ∀k,k<W.heap.size->k≠L->W2.heap[k]?=W.heap[k]?:=λk h1 h2=>(cj k h2).trans (f9.below.block k h1);obtain ⟨kf,df,rfl,cn,co⟩:=(bo.ext u).ok av;refine aB ?_;refine aG rfl (ax.cell 0) ?_;refine aG rfl (ay.cell 0) ?_;refine aB ?_;refine aN rfl (VK (fI hd br) (az.wider λq hq=>ZJ) cn co av (Jj E ws)) ?_;rintro y3 W3 ⟨b,rfl⟩;refine aB ?_;have cp:L<W2.heap.size:=G.lt;have al:W3.heap[L]?=W2.heap[L]?:=b.block L cp;have s3:=b.size;have a9:=br.step b;have aa:=ck.next b;have ab:=cm.step b;have b0:=bs.next b;have o: ∀q,F.ownBlock=some q->w8.heap.size<=q/\q<W.heap.size:=λq hq=>⟨a6.2.2 q hq,a6.1.lt hq⟩;have bu:F.ownBlock≠some L:=λe=>au (.inr e);have cq:F.ownBlock≠some D:=λe=>af (.inr e)
  have bv:L≠a:=λe=>au (.inl e);have cr:D≠a:=λe=>af (.inl e);have bw: ∀(x:Uh),((z++ [x]).map (·.2)).filter (λp=>yC d (eX l ws) p.2)=(z.map (·.2)).filter (λp=>yC d (eX l ws) p.2)++if yC d (eX l ws) x.2.2 then [x.2] else []:=λx=>by
   rw [List.map_append,List.filter_append];cases hq:yC d (eX l ws) x.2.2<;>simp [List.filter,hq]
  refine aK rfl (λbx=> ?_) (λU=> ?_)
  .refine dK ?_;refine aG rfl (aa.cell 0) ?_;refine fP rfl (λ_ _ hv=>b0.fld hv) ?_;refine bI 87 _ rfl rfl rfl TD (aA rfl ct aJ) rfl rfl rfl rfl rfl ?_;rintro cs cu n;have cv:=ab.1.below n.below;refine aT (Ac s) rfl rfl WY rfl cv rfl rfl (λj v hj=>⟨⟨cs,0,none⟩,rfl,n.blk.fld hj⟩) (λv hv=>by simp [Ac] at hv; rcases hv with rfl|rfl<;>rfl) ZJ ZJ ?_;rintro r C b1 m am;have ds:=n.below.size;have dt:=m.size;have b9:Blk C a 44 [F]:=Blk.keptO (aa.next n.below) m (λe=>by have:=o _ e; omega);obtain ⟨A8,c8,cw,_⟩:=b1.form;have cx:r.oneCell'=true:=by rw [cw]; rfl
   refine fu rfl is44.q rfl rfl (b9.cell 0) (b9.frozen 0) cx ?_;refine aB ?_;have cy:RowN sptT C 87 w8.heap.size r (Z++ [(Ac s,s)]):=RowN.app (ab.step n.below) b1 m am ⟨rfl,bp,bq⟩ ZJ;have cz:=cy.setCell (g:=a) (i:=0) ZJ r;have ac: ∀q,r.ownBlock=some q->F.ownBlock=some q\/q=cu.heap.size:=λq hq=>by
    rcases am with h|h
    .exact .inl (by rw [<-h]; exact hq)
    .rw [h] at hq; cases hq; exact .inr rfl
   have ba:C.heap[L]?=W2.heap[L]?:=(m.block L ZJ (λe=>bu e.symm)).trans ((n.below.block L ZJ).trans al);have ag: ∀k,k<W.heap.size-> ¬(k=a\/F.ownBlock=some k)->k≠L->C.heap[k]?=W.heap[k]?:=λk h1 h2 h3 =>
    (m.block k ZJ (λe=>h2 (.inr e.symm))).trans ((n.below.block k ZJ).trans ((b.block k ZJ).trans (bt k h1 h3)))
   have bz:ZT w C:=(a9.step n.below).grown m (a9.step n.below).size (λq hq=>by have:=o q hq; omega);have d0:Blk C g6 40 [.slice A d.length ao]:=Blk.keptO ((ax.next b).next n.below) m (λe=>by have:=o _ e; omega);have c0:Blk C ae 141 [.slice R6 (eX l ws).length J]:=Blk.keptO ((ay.next b).next n.below) m (λe=>by have:=o _ e; omega);have c1:SL (sliceT evT) (λk=>w5.heap.size<=k/\k<w6.heap.size) (C.setCell ⟨a,0,none⟩ r) (.slice R6 (eX l ws).length J) (eX l ws):=((az.below b).below n.below).mono (Kept.of_blocks λk Y d1=>(Below.heap_setCell _ _ _ _ (λe=>by have e:k=a:=e; omega)).trans (m.block k d1 (λe=>by have:=o k e.symm; omega)));refine my (G.kept ((Below.heap_setCell _ _ _ _ (by show L≠a; exact bv)).trans ba)) λW9 O c2 d2 bb=> ?_;have du:W9.heap.size=C.heap.size:=by rw [c2]; simp
   refine ⟨ZJ,λk h1 h2 h3=>(d2 k h3).trans ((Below.heap_setCell _ _ _ _ (λe=>h2 (.inl e))).trans (ag k h1 h2 h3)),λ_=>⟨λk=>k=a\/r.ownBlock=some k,⟨⟨(O.less ZJ).below (bz.setCell (by show w.heap.size<=a; omega) _) ZC,ZJ,(d0.far (by show g6≠a; omega) r).ext O,(c0.far (by show ae≠a; omega) r).ext O,c1.ext O,r,_,(b9.set 0 r).ext O,cz.ext O,?_,rfl⟩,?_,?_,bb⟩,λk Y=> ?_⟩,λh=>by cases h⟩
   .rw [bw,List.map_append,List.map_append,a7];simp [bx]
   .rintro (h|h)
    .exact bv h
    .rcases ac L h with h|h
     .exact bu h
     .omega
   .rintro (h|h)
    .exact cr h
    .rcases ac D h with h|h
     .exact cq h
     .omega
   .rcases Y with rfl|Y
    .exact ⟨.inl (.inl rfl),ZJ⟩
    .rcases ac k Y with h|h
     .exact ⟨.inl (.inr h),by have:=o k h; omega⟩
     .refine ⟨.inr ZJ,?_⟩;have:=b1.lt Y;omega
  .refine aB ?_;refine my (G.kept al) λW8 R dg d3 bc=> ?_;refine ⟨ZJ,λk h1 h2 h3=>(d3 k h3).trans ((b.block k ZJ).trans (bt k h1 h3)),λ_=>⟨λk=>k=a\/F.ownBlock=some k,⟨⟨(R.less ZJ).below a9 ZC,ZJ,(ax.next b).ext R,(ay.next b).ext R,(az.below b).ext R,F,Z,aa.ext R,ab.ext R,?_,rfl⟩,au,af,bc⟩,λk Y=> ?_⟩,λh=>by cases h⟩
   .rw [bw,List.map_append,a7];simp [U]
   .refine ⟨.inl Y,?_⟩;rcases Y with rfl|Y
    .omega
    .have:=o k Y; omega
 .rintro D xs M W hD bd ⟨a1,a2,a3,a4,aR,F,Z,a5,a6,a7,rfl⟩ af ad;have ah:xs.map (·.2)=qL N t:=bd;have dw:D<W.heap.size:=(Array.getElem?_eq_some_iff.1 ad).1;have c5:ExtF w8.heap.size W (W.putObj D (.deferred none)):=ExtF.putObj ad rfl hD;have d4:ZT w (W.putObj D (.deferred none)):=jy a1 ZJ;refine fB (aL ?_);refine aB ?_;refine aG rfl (a5.cell 0) ?_;refine aB ?_;refine LH results37 rfl ad ⟨d4,?_⟩;rw [HV cd];unfold Ab;rw [<-ah,<-a7];exact ((a6.ext c5).sl (by show 0<2; omega)).wider λk h=>⟨by have:=h.1; omega,h.2⟩
 .rintro D c z M W hD h;exact h.elim
end Go.Proofs.YtoleahhfkpkcjaaGreatDoor
namespace Go.Proofs.YtoleahhfkpkcjaaGreatDoor
open Go.Proofs.Tryz
end Go.Proofs.YtoleahhfkpkcjaaGreatDoor
namespace Go.PF
open Go.RowKit
section
open Go
theorem results_tmp3 {a b c:Tmp} (h:fn.results= #[.tmp a,.tmp b,.tmp c]) (tmps:Array Value) (P:Program) (w:World):(results fn tmps).run P w= .ok (.tuple #[tmps.getD a undef,tmps.getD b undef,tmps.getD c undef]) w:=by
 simp [results,h]
theorem WB {N:Nat} {E:Env} {s t y:Nat} {u x:Value} (h:(fn.results,look E s,look E t,look E y)=(#[.tmp s,.tmp t,.tmp y],some (none,v),some (none,u),some (none,x))) (d:R (.tuple #[v,u,x]) w):KW N [] (bodyPost P fn (λe c=> ∃v,e= .returned v/\R v c) .ret) E w:=by
 simp only [Prod.mk.injEq] at h;exact λa b=>bodyPost_ret (results_tmp3 h.1 a.tmps P w) b.defers ⟨_,rfl,by rw [(b.slots s none v h.2.1).1 trivial,(b.slots t none u h.2.2.1).1 trivial,(b.slots y none x h.2.2.2).1 trivial]; exact d⟩
end
end Go.PF
namespace Go.Proofs.YtoleahhfkpkcjaaGreatDoor
open Go.Proofs.Tryz
open Go.PF Go.RowKit Go.Ord
attribute [local irreducible] TW CW KW DW
noncomputable def TrS.qE (S:TrS) (s:ByteArray):Int:=if dec S.Right=true then (S.ans s).err else 1
noncomputable def TrS.qV (S:TrS) (s:ByteArray):List Ev:=if S.qE s=0 then (S.ans s).evs else []
noncomputable def TrS.qW (S:TrS) (s:ByteArray):List (List Int):=if S.qE s=0 then (S.ans s).ws else []
noncomputable def TrS.qP (S:TrS) (s:ByteArray) (t:Int):List Br:=if S.qE s=0 then ll S.N (dV S.N) (S.ans s).evs (S.ans s).ws t else []
noncomputable def TrS.xE (S:TrS) (s:ByteArray):Int:=if dec S.Right=true then jC (dV S.N) (S.ans s).evs else 1
def recAt (l:List Rc) (n:Int):Rc:=l.getD n.toNat ⟨0,0,0,0,⟨#[]⟩,[]⟩
noncomputable def TrS.xR (S:TrS) (s:ByteArray):List Rc:=if S.xE s=0 then (iU (dV S.N) (S.ans s).evs).map (recAt S.recs) else []
def Gr (X:Nat->Prop) (w w':World) (k:Nat):Prop:=X k\/w.heap.size<=k/\k<w'.heap.size
theorem TrO.tr {gm:Nat} {nv:NV} (h:TrO (λk=>I k\/w.heap.size<=k/\k<w'.heap.size) w' p gm lv nv sv dv m ps S) (j:w.heap.size<=w'.heap.size) (b:M p) (c:M gm) (d: ∀g,lv.ownBlock=some g->M g) (e: ∀k,I k->F k) (f: ∀k,M k->F k) (i: ∀k,F k->k<w.heap.size):Tr M (Gr F w w') w' p S :=
 ⟨_,gm,lv,nv,sv,dv,m,ps,h,b,c,d,λk a=>a.imp (e k) id,λk a=> .inl (f k a),λk a=>a.elim (λh=>by have:=i k h; omega) λh=>h.2⟩
theorem yT {l:List Int} (h: ∀n∈l,0<=n/\n<(b:Int)):dS (λn=>n) l=l:=by
 refine (List.map_congr_left λn a=> ?_).trans (List.map_id l);have:=h n a;show ((n.toNat:Nat):Int)=n;omega
theorem LP {a:Ans} (h:a.Fine b):a.ren (λn=>n)=a:=by
 obtain ⟨c,d,i⟩:=a;unfold Ans.ren
 congr 1
 .refine (List.map_congr_left λe f=> ?_).trans (List.map_id c);show iR (λn=>n) e=e;unfold iR;rw [yT (h.n e f).2]
 .exact (List.map_congr_left λS g=>yT (h.s S g).2).trans (List.map_id d)
theorem TrO.more {w1 w2:World} {gm:Nat} {nv:NV} (h:TrO (λk=>I k\/w.heap.size<=k/\k<w1.heap.size) w1 p gm lv nv sv dv m ps S) (hb:ZT w1 w2):TrO (λk=>I k\/w.heap.size<=k/\k<w2.heap.size) w2 p gm lv nv sv dv m ps S :=
 (h.below hb).wider (λk a=>a.imp id λa=>⟨a.1,Nat.lt_of_lt_of_le a.2 hb.size⟩) λk a=>by
  have b:=hb.size;have c:=h.blk.lt;have d:=h.map.lt;rcases ZI k w1.heap.size with q|q
  .have:=h.hI k (a.imp id λa=>⟨a.1,q⟩);exact ⟨ZJ,this.2⟩
  .refine ⟨?_,ZJ,ZJ,λe=>by have:=h.own.lt e; omega⟩;rcases a with a|a
   .have:=h.hI k (.inl a);omega
   .exact a.2
theorem Nq (ht:TabI w) (hT:Tr M F w p S) :
  Gives prog 13 #[.pointer (some ⟨p,0,none⟩),.string s] w λu d=>Chg M w d/\Tr M (Gr F w d) d p S/\ ∃H J,u= .tuple #[H,J,ZU (S.qE s)]/\SL evT (λk=>w.heap.size<=k/\k<d.heap.size) d H (S.qV s)/\SL (sliceT aS) (λk=>w.heap.size<=k/\k<d.heap.size) d J (S.qW s):=by
 obtain ⟨I,gm,lv,nv,sv,dv,m,ps,h,W,E,Z,iF,mF,lt⟩:=hT;have hB:=h.blk;have hR:=h.ok.right;have K:S.qE s=(S.ans s).err:=if_pos (aD hR);have a0:=h.map.lt;refine gw func13 ntmps13 ?_;refine aM (kv underlying34) rfl ⟨ct,ct,trivial⟩ (λ_=>trivial) ?_;refine rn ?_;refine cF rfl ?_;refine aN rfl (xF (s:=s) ht h) ?_;rintro u w1 ⟨L,cs,m1,rfl,h1,G⟩;obtain ⟨H,J,rfl,x,y⟩:=G;obtain ⟨X,xc,rfl,_⟩:=x.form;obtain ⟨Y,yc,rfl,_⟩:=y.form;refine rn ?_;refine Go.PF.nv qw rfl λg7 w7 l=> ?_;have z1:=L.size;have z7:=l.size;have q7:=l.at_;refine cd rfl (λN=> ?_) λO=> ?_
 .refine dr λR r=> ?_;have z:=l.below.step r;have z8:=r.size;have t: ¬S.qE s=0:=by rw [K]; exact N
  refine WB rfl ⟨(Chg.of_but L (λg e=>by cases e; exact E)).step z,(h1.more z).tr ZJ W E Z iF mF lt,_,_,by rw [K],?_,?_⟩
  .unfold TrS.qV; rw [if_neg t]; exact SL.nil _ _ _
  .unfold TrS.qW; rw [if_neg t]; exact SL.nil _ _ _
 have e0:(S.ans s).err=0:=Classical.byContradiction O;have c:=xG (s:=s) h.ok.few;refine cr rfl (CQ (cap:= []) (φ:=λn=>n) (a:=S.ans s) ⟨_,_,rfl,x.below l.below,y.below l.below⟩ c ⟨ZK,λn d _ _=>R5⟩ (λn hn=>by have:=c.b; omega)) λu R r e=> ?_;obtain ⟨cs,rfl,G⟩:=e;rw [LP c] at G;obtain ⟨a1,a2,rfl,i,j⟩:=G;obtain ⟨X8,a3,rfl,_⟩:=i.form;obtain ⟨Y8,a4,rfl,_⟩:=j.form;refine sb rfl (l.blk.next r) (λw9 a5 A a6=> ?_);refine dr λB o=> ?_;have z8:=r.size;have a7:=o.size;have C:ZT w1 B:=(But.below (l.below.step r) A ZJ).step o;have D:Kept (λk=>w7.heap.size<=k/\k<R.heap.size) R B:=Kept.of_blocks λk hk U=>(o.block k ZJ).trans (A.block k U λe=>by cases e; omega);have t:S.qE s=0:=K.trans e0;refine WB rfl ⟨(Chg.of_but L (λg e=>by cases e; exact E)).step C,(h1.more C).tr ZJ W E Z iF mF lt,_,_,by rw [t],?_,?_⟩
 .unfold TrS.qV; rw [if_pos t]; exact (i.mono D).wider λk hk=>ZJ
 .unfold TrS.qW; rw [if_pos t]; exact (j.mono D).wider λk hk=>ZJ
theorem Tabs.gb (h:Tabs w) (hm:MapL sK w g m) (d:w.grownBy w' (some g)):Tabs w':=⟨λi s a=>GB.cell d (h.key i s a) λe=>by
 cases e;obtain ⟨f,c,b,_⟩:=hm.is;have:=h.key i s a;simp [World.cell?,b] at this⟩
theorem OZ (ht:TabI w) (b:Tabs w) (hT:Tr M F w p S) :
  Gives prog 15 #[.pointer (some ⟨p,0,none⟩),.string s,ZU t] w λu j=>Chg M w j/\Tr M (Gr F w j) j p S/\ ∃v,u= .tuple #[v,ZU (S.qE s)]/\SL sptT (λk=>w.heap.size<=k/\k<j.heap.size) j v (S.qP s t):=by
 obtain ⟨I,gm,lv,nv,sv,dv,m,ps,h,J,x,K,L,O,R⟩:=hT;have hR:=h.ok.right;have D:S.qE s=(S.ans s).err:=if_pos (aD hR);have a1:=h.map.lt;have hB:=h.blk;obtain ⟨⟨U,W,Z⟩,⟨A2,c2,e2⟩,⟨A3,c3,e3⟩,⟨A4,c4,e4⟩,⟨A5,c5,e5⟩,⟨A6,c6,e6⟩⟩:=NetIn.form h.net;obtain ⟨vc,vn,vo,vf,vl,vk⟩:=nv;dsimp only at Z e2 e3 e4 e5 e6;subst Z e2 e3 e4 e5 e6;refine gw func15 ntmps15 ?_;refine aM (kv underlying34) rfl ⟨ct,ct,trivial⟩ (λ_=>trivial) ?_;refine rn ?_;refine cF rfl ?_;refine aN rfl (xF (s:=s) ht h) ?_;rintro u y ⟨z,cs,m1,rfl,i,hA⟩;obtain ⟨ev,wv,rfl,l,n⟩:=hA;obtain ⟨X,xc,rfl,_⟩:=l.form;obtain ⟨Y,yc,rfl,_⟩:=n.form;refine rn ?_;refine Go.PF.nv qw rfl λg7 w7 B=> ?_;have z1:=z.size;have z7:=B.size;have q7:=B.at_;refine cd rfl (λE=> ?_) λG=> ?_
 .refine dr λw8 o=> ?_;have a:=B.below.step o;have z8:=o.size;have C: ¬S.qE s=0:=by rw [D]; exact E
  refine rD rfl ⟨(Chg.of_but z (λg e=>by cases e; exact x)).step a,(i.more a).tr ZJ J x K L O R,_,by rw [D],?_⟩;unfold TrS.qP; rw [if_neg C]; exact SL.nil _ _ _
 have e0:(S.ans s).err=0:=Classical.byContradiction G;have C:S.qE s=0:=D.trans e0;have H:=i.blk;have d:=b.gb h.map z;have a0:=Blk.part H 1 [.slice U S.N.cals.length W,.slice A2 S.N.names.length c2,.slice A3 S.N.ops.length c3,.slice A4 S.N.offs.length c4,.slice A5 S.N.lines.length c5,.slice A6 S.N.classes.length c6] rfl;have c:=λk b=>(i.hI k b).1;refine dl 15 λw8 o=> ?_;have a:Wp (ZT y w8):=⟨B.below.step o⟩;have z8:=o.size;refine cr rfl (wK (v:=⟨.slice U S.N.cals.length W,.slice A2 S.N.names.length c2,.slice A3 S.N.ops.length c3,.slice A4 S.N.offs.length c4,.slice A5 S.N.lines.length c5,.slice A6 S.N.classes.length c6⟩) (t:=t) (d.below a.q) ((NetIn.below i.net a.q).wider λk b=>by have:=c k b; omega) ((i.dst.below a.q).wider λk b=>by have:=c k b; omega) ((l.below a.q).wider λk b=>by have:=c k b; omega) ((n.below a.q).wider λk b=>by have:=c k b; omega) λe he=>by have:=jL e he; omega) λu w9 b9 e=> ?_;have r:=a.q.step b9;have z9:=b9.size;refine rD rfl ⟨(Chg.of_but z (λg e=>by cases e; exact x)).step r,(i.more r).tr ZJ J x K L O R,_,by rw [C],?_⟩;unfold TrS.qP; rw [if_pos C]; exact e.wider λk b=>⟨by have:=a.q.size; omega,b.2⟩
theorem F6 {S:List Int} (h:jk d l=some S): ∀n∈S,n∈aV l:=λn a=>(CL (List.mem_of_find?_eq_some h)).subset a
theorem G6: ∀n∈iU d l,n∈aV l:=λn a=>by
 unfold iU at a
 split at a
 .cases b:jk d l with
  | none=>rw [b] at a; cases a
  | some S=>rw [b] at a; exact F6 b n a
 .cases a
theorem KX:(iU d l).length<=14:=by
 unfold iU
 split
 .rename_i a
  cases b:jk d l with
  | none=>decide
  | some S=>exact Nat.le_trans (CL (List.mem_of_find?_eq_some b)).length_le a.2
 .decide
theorem J4 (ht:TabI w) (hT:Tr M F w p S) :
  Gives prog 17 #[.pointer (some ⟨p,0,none⟩),.string s] w λu w'=>Chg M w w'/\Tr M (Gr F w w') w' p S/\ ∃v,u= .tuple #[v,ZU (S.xE s)]/\SL rcT (λk=>w.heap.size<=k/\k<w'.heap.size) w' v (S.xR s):=by
 obtain ⟨I,gm,lv,nv,sv,dv,m,ps,h,mp,mg,ml,iF,mF,lt⟩:=hT;have hR:=h.ok.right;have eE:S.xE s=jC (dV S.N) (S.ans s).evs:=if_pos (aD hR);have hgl:=h.map.lt;have hB:=h.blk;obtain ⟨A,cap,rfl,_⟩:=h.dst.form;obtain ⟨L,lcap,rfl,_⟩:=h.sr.form;refine gw func17 ntmps17 ?_;refine aM (kv underlying34) rfl ⟨ct,ct,trivial⟩ (λ_=>trivial) ?_;refine rn ?_;refine cF rfl ?_;refine dP mixed λW3 hW3=> ?_;refine jT (some gm) 29 9 ZK ZK rfl rfl hW3 ?_;refine fO rfl rfl rfl ct ?_;refine iZ rfl rfl rfl ct ?_;refine bP rfl rfl if93_0.q rfl ct ?_;refine bP rfl rfl if91_4.q rfl ct ?_;refine gU rfl rfl io40.q rfl ct (λ_=>⟨hB.fld rfl,λe=>h.pm (by cases e; rfl)⟩) ?_;refine fO rfl rfl rfl ct ?_;refine fO rfl rfl rfl ct ?_;refine vB (cap:= []) (λu Y=> ∃cs m',u= .agg (List.toArray cs)/\TrO (λk=>I k\/w.heap.size<=k/\k<Y.heap.size) Y p gm (.slice L S.recs.length lcap) nv sv (.slice A (dV S.N).length cap) m' ps S/\RepA (λk=>I k\/w.heap.size<=k/\k<Y.heap.size) Y cs (S.ans s)) (λu w1 w2 hb ⟨cs,m',e,h1,hA⟩=>⟨cs,m',e,h1.more hb,(hA.mono (Kept.of_below hb)).wider λk hk=>hk.imp id λhk=>⟨hk.1,Nat.lt_of_lt_of_le hk.2 hb.size⟩⟩) rfl rfl rfl ZK rfl ct (bC rfl ct (bC rfl ct eO)) (λ_ w' hg hlk vs hs=> ?_) ?_
 .obtain ⟨v1,v2,rfl,e1,e2⟩:=Sats.two hs;cases e1;cases e2;have hz:=hg.size;have h':TrO I w' p gm (.slice L S.recs.length lcap) nv sv (.slice A (dV S.N).length cap) m ps S:=h.kept hz λk hk _=>by
   by_cases e:k=gm
   .subst e; exact hlk k rfl hk
   .exact hg.block k hk λe'=>by cases e'; exact e rfl
  refine (xF (s:=s) (ht.but hg h.map) h').mono λu w'' ⟨q1,cs,m',e,h1,hA⟩=> ?_;have hw: ∀k,I k\/w'.heap.size<=k/\k<w''.heap.size->I k\/w.heap.size<=k/\k<w''.heap.size:=λk hk=>hk.imp id λhk=>ZJ;have hz':=q1.size;have hp:=h.blk.lt;refine ⟨q1,cs,m',e,h1.wider hw λk hk=> ?_,hA.wider hw⟩;rcases hk with hk|hk
  .exact h1.hI k (.inl hk)
  .exact ⟨hk.2,ZJ,ZJ,λe=>by have:=h.own.lt e; omega⟩
 refine KJ (λv Y=>SL evT (λk=>k<Y.heap.size/\k≠gm) Y v (S.ans s).evs) rfl rfl rfl ct (λv w1 w2 hg h=>(h.mono (Kept.of_blocks λk hk hlt=>hg.block k hlt λe=>by cases e; exact hk.2 rfl)).wider λk hk=>⟨Nat.lt_of_lt_of_le hk.1 hg.size,hk.2⟩) (λu Y ⟨cs,m',e,h1,hA⟩=> ?_) ?_
 .obtain ⟨ev,wv,rfl,hev,hwv⟩:=hA;obtain ⟨X,xc,rfl,_⟩:=hev.form;obtain ⟨Z,yc,rfl,_⟩:=hwv.form;exact ⟨_,.slice X (S.ans s).evs.length xc,e,ZK,hev.wider λk hk=>by have:=h1.hI k hk; exact ⟨this.1,this.2.2.1⟩⟩
 refine uE (qh [0,1,26] _ rfl [29,30] rfl λvs w8 hg8 hs8=>gy ?_);obtain ⟨v29,v30,rfl,s29,hev⟩:=Sats.two hs8;obtain ⟨cs,m1,rfl,h1,hA⟩:=s29
 replace hev:SL evT (λk=>k<w8.heap.size/\k≠gm) w8 v30 (S.ans s).evs:=hev
 obtain ⟨X,xc,rfl,_⟩:=hev.form;refine eu ZK ZK rfl ?_;refine cr rfl (EK (h1.dst.wider λk hk=>(h1.hI k hk).1) (hev.wider λk hk=>hk.1) λe he=>by have:=jL e he; omega) λu w9 b9 e=> ?_;obtain ⟨v,rfl,hset⟩:=e;obtain ⟨B,bcap,rfl,_⟩:=hset.form;refine iP .weak 15 ZK ZK rfl rfl ZA ?_;refine rd ?_;refine dz λw10 b10=> ?_;have zw:=hg8.size;have b810:Wp (ZT w8 w10):=⟨b9.step b10⟩;have z10:=b810.q.size;refine cd rfl (λhne=> ?_) λheq=> ?_
 .refine rD rfl ⟨(Chg.of_but hg8 (λg e=>by cases e; exact mg)).step b810.q,(h1.more b810.q).tr ZJ mp mg ml iF mF lt,_,by rw [eE]; rfl,?_⟩;have en: ¬S.xE s=0:=by rw [eE]; exact hne
  unfold TrS.xR; rw [if_neg en]; exact SL.nil _ _ _
 have e0:jC (dV S.N) (S.ans s).evs=0:=Classical.byContradiction heq;have en:S.xE s=0:=eE.trans e0;obtain ⟨set,hst⟩: ∃set,set=iU (dV S.N) (S.ans s).evs:=⟨_,rfl⟩;have hxR:S.xR s=set.map (recAt S.recs):=by unfold TrS.xR; rw [if_pos en,hst]
 have hin: ∀n∈set,0<=n/\n<(S.recs.length:Int):=λn hn=>by
  obtain ⟨e,he,hn'⟩:=mem_recsS.1 (G6 n (hst ▸ hn));exact ⟨vO e he n hn',Gb e he n hn'⟩
 have hsl:set.length<=14:=hst ▸ KX;have hset10:=(hset.step fV b10);rw [<-hst] at hset10;have h10:=h1.below b810.q;have hB10:=h10.blk;have hR10:=h10.sr;rw [hxR,en];refine dA (K:= [(0,none,.pointer (some ⟨p,0,none⟩)),(37,none,.slice B set.length bcap),(38,none,ZU (set.length:Int))]) [0,37,38] (λx:Nat×Value×List (List Value×Rc)=> [(39,none,ZU (x.1:Int)),(8,none,x.2.1)])
  (λx W=>x.1<=set.length/\ZT w10 W/\RowB rcT W 57 w10.heap.size x.2.1 x.2.2/\x.2.2.map (·.2)=(set.take x.1).map (recAt S.recs)) (λx=>set.length-x.1) (0,.slice none 0 0,[]) ⟨ZB,ZA,RowB.nil _ _ _ _,rfl⟩ ?_ (hK:=by rw [hst]; rfl)
 rintro ⟨i,rv,qs⟩ W ⟨hi,hW,hR,hqs⟩;dsimp only at hi hR hqs;have hlen:qs.length=i:=by
  have:=congrArg List.length hqs;simp at this; omega
 refine rn ?_;refine cd rfl (λhlt=> ?_) λhge=> ?_
 .have hil:i<set.length:=by dsimp only at hlt; omega
  obtain ⟨ad,rfl⟩:=hset10.addr ZJ;obtain ⟨h0,h9⟩:=hin _ (List.getElem_mem hil);obtain ⟨n,hn⟩: ∃n:Nat,set[i]=(n:Int):=⟨set[i].toNat,ZJ⟩;have hx:set[i]?=some (n:Int):=by rw [<-hn]; exact ZD hil
  rw [hn] at h9;obtain ⟨bd,rfl⟩:=hR10.addr ZJ;have hz:S.recs[n]?=some S.recs[n]:=ZD ZJ;obtain ⟨zv,hzc,hzo⟩:=SR.get (hR10.below hW) hz;have hzs:=pK (h.ok.val _ (List.getElem_mem (show n<S.recs.length by omega))).1;obtain ⟨Z,zcap,rfl,_⟩:=hzo.ct.form;rw [show set[(i,rv,qs).1]'hil=(n:Int) from hn];refine rn ?_;refine cr rfl (uy hzo ZJ) λu w6 b6 e=> ?_;obtain ⟨v',rfl,hv⟩:=e;obtain ⟨Y,vc,rfl,_⟩:=hv.ct.form;have z5:=hW.size;have hro: ∀k,rv.ownBlock=some k->k<W.heap.size:=λk hk=>hR.1.lt hk;refine ra (T:=rcT) (a:=S.recs[n]) Dk Gf rfl (hR.step b6) ⟨_,rfl,hv.i1,hv.i2,hv.i3,hv.i4,hv.lb,hv.ct.wider λk hk=>⟨ZJ,ZJ,λe=>by have:=hro k e; omega⟩⟩ rfl ZJ (by have:=b6.size; omega) λg7 rv' w7 hR7 hg7 hn7 h7=> ?_;have b7:ZT w10 w7:=Below.grown (hW.step b6) hg7 (by have:=b6.size; omega) (λk hk=>hR.2.2 k hk);refine cK (i+1,rv',qs++ [(iq S.recs[n] (.slice Y S.recs[n].cont.length vc),S.recs[n])]) ⟨hil,b7,hR7,?_⟩;show (qs++ [_]).map _=(set.take (i+1)).map _;rw [List.map_append,hqs,ZG,hx,List.map_append]
  congr 1
  show [S.recs[n]]= [recAt S.recs n];unfold recAt;rw [List.getD_eq_getElem?_getD,show ((n:Int)).toNat=n from rfl,hz];rfl
 have hil:i=set.length:=by dsimp only at hge; omega
 subst hil;have hs:=hR.sl ZL;rw [hqs,List.take_length] at hs;have z5:=hW.size;exact rD rfl ⟨(Chg.of_but hg8 (λg e=>by cases e; exact mg)).step (b810.q.step hW),(h1.more (b810.q.step hW)).tr ZJ mp mg ml iF mF lt,_,rfl,hs.wider λk hk=>⟨ZJ,hk.2⟩⟩
section
theorem TrBad.next {M F:Nat->Prop} {w w':World} {p:Nat} {S:TrS} (h:TrBad M F w p S) (hb:ZT w w'):TrBad M (Gr F w w') w' p S:=by
 obtain ⟨b,c,⟨d,e,f⟩,g,i,j⟩:=h;have l:=hb.size;exact ⟨b,c,⟨d,e.next hb,f⟩,g,λk a=> .inl (i k a),λk a=>a.elim (λh=>by have:=j k h; omega) λh=>h.2⟩
theorem NU (h: ¬S.Right) (s:ByteArray):S.qE s=1/\S.qV s= []/\S.qW s= []/\(∀t,S.qP s t= [])/\S.xE s=1/\S.xR s= []:=by
 have a:S.qE s=1:=by unfold TrS.qE; rw [aH h]; rfl
 have b:S.xE s=1:=by unfold TrS.xE; rw [aH h]; rfl
 refine ⟨a,?_,?_,λt=> ?_,b,?_⟩
 .unfold TrS.qV; rw [a]; rfl
 .unfold TrS.qW; rw [a]; rfl
 .unfold TrS.qP; rw [a]; rfl
 .unfold TrS.xR; rw [b]; rfl
section
variable {M F:Nat->Prop} {w:World} {p:Nat} {S:TrS} {s:ByteArray} {t:Int}
theorem Nr (b:TrBad M F w p S) :
  Gives prog 13 #[.pointer (some ⟨p,0,none⟩),.string s] w λu a=>ZT w a/\u= .tuple #[.slice none 0 0,.slice none 0 0,ZU 1]:=by
 obtain ⟨c,d,⟨e,g,h⟩,i,j,k⟩:=b;refine gw func13 ntmps13 ?_;refine aM (kv underlying34) rfl ⟨ct,ct,trivial⟩ (λ_=>trivial) ?_;refine rn ?_;refine cT rfl ?_;exact WB rfl ⟨bK,rfl⟩
theorem O0 (b:TrBad M F w p S) :
  Gives prog 15 #[.pointer (some ⟨p,0,none⟩),.string s,ZU t] w λu a=>ZT w a/\u= .tuple #[.slice none 0 0,ZU 1]:=by
 obtain ⟨c,d,⟨e,g,h⟩,i,j,k⟩:=b;refine gw func15 ntmps15 ?_;refine aM (kv underlying34) rfl ⟨ct,ct,trivial⟩ (λ_=>trivial) ?_;refine rn ?_;refine cT rfl ?_;exact rD rfl ⟨bK,rfl⟩
theorem J5 (b:TrBad M F w p S) :
  Gives prog 17 #[.pointer (some ⟨p,0,none⟩),.string s] w λu a=>ZT w a/\u= .tuple #[.slice none 0 0,ZU 1]:=by
 obtain ⟨c,d,⟨e,g,h⟩,i,j,k⟩:=b;refine gw func17 ntmps17 ?_;refine aM (kv underlying34) rfl ⟨ct,ct,trivial⟩ (λ_=>trivial) ?_;refine rn ?_;refine cT rfl ?_;exact rD rfl ⟨bK,rfl⟩
theorem VQ {x:Rc} (c:TrBad M F w p S) (d:RcOK G w xv x) :
  Gives prog 25 #[.pointer (some ⟨p,0,none⟩),.agg (iq x xv).toArray] w λu b=>ZT w b/\u= ZU 1:=by
 obtain ⟨e,g,⟨h,i,j⟩,k,l,m⟩:=c;have n: ¬aF (some (!true)):=by simp [aF]
 refine gw func25 ntmps25 ?_;refine nw rfl λo q r=> ?_;refine aM (kv underlying34) rfl ⟨ct,ct,trivial⟩ (λ_=>trivial) ?_;refine rn ?_;refine cT rfl ?_;exact aO rfl ⟨bK,rfl⟩
theorem Rx {x:Rc} (s:TrA M F w p S) (f:RcOK G w xv x) (t: ∀k,G k->k<w.heap.size/\ ¬M k) :
  Gives prog 25 #[.pointer (some ⟨p,0,none⟩),.agg (iq x xv).toArray] w λu d=>Chg M w d/\u= ZU (S.addE x)/\TrA (Gr M w d) (Gr F w d) d p (S.add x):=by
 rcases s with h|h
 .exact (VP h f t).mono λu d ⟨a,b,c⟩=>⟨a,b,.inl c⟩
 .have e:S.addE x=1:=by unfold TrS.addE; rw [if_neg λq=>h.1 q.1]
  have g:S.add x=S:=by unfold TrS.add; rw [e,if_neg ZL]
  rw [e,g];exact (VQ h f).mono λu d ⟨a,b⟩=>by
   obtain ⟨i,j,l,m,v,n⟩:=h.next a;exact ⟨.of_below a,b,.inr ⟨i,j,l,.inl m,λk o=>o.imp (λr=>h.2.2.2.2.1 k r) id,n⟩⟩
theorem yX (f:TrA M F w p S) :
  Gives prog 23 #[.pointer (some ⟨p,0,none⟩)] w λu a=>ZT w a/\SL rcT (λk=>w.heap.size<=k/\k<a.heap.size) a u S.recs:=by
 rcases f with ⟨I,g,i,j,l,n,m,o,h,_⟩|⟨q,b,⟨s,c,t,d⟩,_⟩
 .exact yV (h.blk.fld rfl) h.sr (λ_ h=>h) h.ok.few λr e=>by have:=pK (h.ok.val r e).1; omega
 .rw [b];exact yV (I:=λ_=>False) (c.fld (by simpa using d)) (SL.nil _ _ _) (λ_ h=>h.elim) ZL ZM
theorem Dz (l:TabI w) (m:TrA M F w p S) :
  Gives prog 13 #[.pointer (some ⟨p,0,none⟩),.string s] w λu d=>Chg M w d/\TrA M (Gr F w d) d p S/\ ∃e f,u= .tuple #[e,f,ZU (S.qE s)]/\SL evT (λk=>w.heap.size<=k/\k<d.heap.size) d e (S.qV s)/\SL (sliceT aS) (λk=>w.heap.size<=k/\k<d.heap.size) d f (S.qW s):=by
 rcases m with h|h
 .exact (Nq l h).mono λu d ⟨a,b,c⟩=>⟨a,.inl b,c⟩
 .obtain ⟨g,i,j,_⟩:=NU h.1 s;rw [g,i,j];exact (Nr h).mono λu d ⟨a,b⟩=>⟨.of_below a,.inr (h.next a),_,_,b,SL.nil _ _ _,SL.nil _ _ _⟩
theorem G7 (g:TabI w) (i:Tabs w) (j:TrA M F w p S) :
  Gives prog 15 #[.pointer (some ⟨p,0,none⟩),.string s,ZU t] w λu d=>Chg M w d/\TrA M (Gr F w d) d p S/\ ∃v,u= .tuple #[v,ZU (S.qE s)]/\SL sptT (λk=>w.heap.size<=k/\k<d.heap.size) d v (S.qP s t):=by
 rcases j with h|h
 .exact (OZ g i h).mono λu d ⟨a,b,c⟩=>⟨a,.inl b,c⟩
 .obtain ⟨e,_,_,f,_⟩:=NU h.1 s;rw [e,f];exact (O0 h).mono λu d ⟨a,b⟩=>⟨.of_below a,.inr (h.next a),_,b,SL.nil _ _ _⟩
theorem zu (g:TabI w) (i:TrA M F w p S) :
  Gives prog 17 #[.pointer (some ⟨p,0,none⟩),.string s] w λu d=>Chg M w d/\TrA M (Gr F w d) d p S/\ ∃v,u= .tuple #[v,ZU (S.xE s)]/\SL rcT (λk=>w.heap.size<=k/\k<d.heap.size) d v (S.xR s):=by
 rcases i with h|h
 .exact (J4 g h).mono λu d ⟨a,b,c⟩=>⟨a,.inl b,c⟩
 .obtain ⟨_,_,_,_,e,f⟩:=NU h.1 s;rw [e,f];exact (J5 h).mono λu d ⟨a,b⟩=>⟨.of_below a,.inr (h.next a),_,b,SL.nil _ _ _⟩
end
theorem TrA.kept {M F:Nat->Prop} {w w':World} {p:Nat} {S:TrS} (h:TrA M F w p S) (hs:w.heap.size<=w'.heap.size) (b: ∀k,F k->w'.heap[k]?=w.heap[k]?):TrA M F w' p S:=by
 rcases h with ⟨I,j,l,n,o,r,m,s,h,c,f,g,i,a,d⟩|⟨t,u,⟨v,x,y⟩,c,a,d⟩
 .refine .inl ⟨I,j,l,n,o,r,m,s,h.kept hs λk _ e=>b k ?_,c,f,g,i,a,λk b=>by have:=d k b; omega⟩;rcases e with q|rfl|rfl|q
  .exact i k q
  .exact a _ c
  .exact a _ f
  .exact a _ (g k q)
 .exact .inr ⟨t,u,⟨v,(b p (a p c)).trans x,y⟩,c,a,λk b=>by have:=d k b; omega⟩
theorem TrA.facts (h:TrA M F w p S):(∀k,M k->F k)/\(∀k,F k->k<w.heap.size)/\M p:=by
 rcases h with ⟨I,d,e,f,g,i,m,j,h,a,l,n,o,b,c⟩|⟨q,r,_,a,b,c⟩
 .exact ⟨b,c,a⟩
 .exact ⟨b,c,a⟩
end
end Go.Proofs.YtoleahhfkpkcjaaGreatDoor
namespace Go.PF
open Go.RowKit
section
open Go
theorem WA {N:Nat} {E:Env} {s y:Nat} {t t1:TypeId} [Sr P t n] (h:(fn.results,look E s,look E y)=(#[.tmp s,.cell y t],some (none,v),some (none,.pointer (some ⟨g,0,none⟩)))) (hB:Blk w g t1 cs) (hR:R (.tuple #[v,.agg cs.toArray]) w) (hn:cs.length=n:=by rfl) :
  KW N [] (bodyPost P fn (λe w'=> ∃v,e= .returned v/\R v w') .ret) E w:=λa ha=>by
 simp only [Prod.mk.injEq] at h;obtain ⟨fs,hu⟩:=Sr.u (P:=P) (t:=t);refine bodyPost_ret ?_ ha.defers ⟨_,rfl,hR⟩;have e1:=(ha.slots s none _ h.2.1).1 trivial;have e2:=(ha.slots y none _ h.2.2).1 trivial;simp only [Array.getD_eq_getD_getElem?] at e1 e2;simp [results,h.1,e1,e2,asAddr,je hu (hn ▸ Sr.s) (λj v hj=>hB.fld hj)]
end
end Go.PF
namespace Go.Proofs.YtoleahhfkpkcjaaGreatDoor
open Go.Proofs.Tryz
open Go.PF Go.RowKit Go.Ord
attribute [local irreducible] TW CW KW DW
theorem TrA.wider {M' F':Nat->Prop} (h:TrA M F w p S) (b: ∀k,M k->M' k) (z: ∀k,F k->F' k) (a: ∀k,M' k->F' k) (hl: ∀k,F' k->k<w.heap.size):TrA M' F' w p S:=by
 rcases h with ⟨I,d,e,f,i,j,m,l,h,c,n,o,q,r,s⟩|⟨t,u,v,c,r,s⟩
 .exact .inl ⟨I,d,e,f,i,j,m,l,h,b _ c,b _ n,λg x=>b _ (o g x),λk y=>z k (q k y),a,hl⟩
 .exact .inr ⟨t,u,v,b _ c,a,hl⟩
theorem TrA.later (h:TrA M F w p S) (hb:ZT w w'):TrA M F w' p S:=h.kept hb.size λk a=>hb.block k (h.facts.2.1 k a)
theorem Nk {F0:Nat->Prop} {nv:NV} {rv:Value} {L:List Sc} {most:Int} {r:List Rc} (ht:Tabs w) (R:NetIn F0 w nv N) (d: ∀k,F0 k->k<w.heap.size) (S:SS w sv L) (E:SR w rv r) (hm:fF most) (hf:FewN N) (hn:r.length<=300) :
  Gives prog 26 #[.agg nv.cells.toArray,sv,ZU most,rv] w λu h=>ZT w h/\ ∃p b,u= .tuple #[.pointer (some ⟨p,0,none⟩),.agg (x9 nv sv most b).toArray]/\TrA (λk=>w.heap.size<=k/\k<h.heap.size) (λk=>F0 k\/w.heap.size<=k/\k<h.heap.size) h p (TrS.adds ⟨N,L,most,[]⟩ r)/\RTr (λk=>k<h.heap.size) h nv sv b (TrS.adds ⟨N,L,most,[]⟩ r):=by
 obtain ⟨⟨U,Y,Z⟩,⟨A2,l,e2⟩,⟨A3,c3,e3⟩,⟨A4,c4,e4⟩,⟨A5,c5,e5⟩,⟨A6,c6,e6⟩⟩:=NetIn.form R;obtain ⟨vc,vn,vo,vf,vl,vk⟩:=nv;dsimp only at Z e2 e3 e4 e5 e6;subst Z e2 e3 e4 e5 e6;obtain ⟨A,a1,rfl,_⟩:=S.form;obtain ⟨B,a0,rfl,_⟩:=E.form;refine gw func26 ntmps26 ?_;refine nw rfl λg4 w4 G=> ?_;refine na IR λg9 m C=> ?_;have j:ZT w m:=G.below.step C.below;have z9:=j.size;refine aN rfl (Mv (F0:=F0) (ht.below j) (R.below j) (λk a=>by have:=d k a; omega) ((S.below j).wider λk a=>ZJ) hm) ?_;rintro _ w1 ⟨b1,p,rfl,n⟩;have z1:=b1.size;refine rn ?_;obtain ⟨o,q⟩: ∃o:TrS,o=⟨N,L,most,[]⟩:=⟨_,rfl⟩;rw [<-q] at n ⊢;refine dA [1,2,3,4,9,10] (λi:Nat=> [(11,none,ZU (i:Int))]) (λi W=>i<=r.length/\ZT m W/\TrA (λk=>m.heap.size<=k/\k<W.heap.size) (λk=>F0 k\/m.heap.size<=k/\k<W.heap.size) W p (o.adds (r.take i))) (λi=>r.length-i) 0 ⟨ZB,b1,n⟩ ?_;rintro i W ⟨hi,s,H⟩;have zW:=s.size;refine rn ?_;refine cd rfl (λt=> ?_) λa2=> ?_
 .have c:i<r.length:=ZJ;obtain ⟨ad,rfl⟩:=E.addr ZJ;have hz:r[i]?=some r[i]:=ZD c;obtain ⟨xv,a3,I⟩:=SR.get (E.below (j.step s)) hz;refine rn ?_;refine aN rfl (Rx H I λk a=>⟨ZJ,ZJ⟩) ?_;rintro _ W2 ⟨l,rfl,J⟩;have z2:=l.size;refine rn ?_;refine cK (i+1) ⟨c,s.trans (l.below (λk a=>a.1) zW),?_⟩;have e:o.adds (r.take (i+1))=(o.adds (r.take i)).add r[i]:=by rw [<-List.take_append_getElem c,Ee]; rfl
  rw [e];refine J.wider (λk a=> ?_) (λk a=> ?_) (λk a=> .inr a) λk a=> ?_
  .rcases a with a|a
   .exact ⟨a.1,ZJ⟩
   .exact ⟨ZJ,a.2⟩
  .rcases a with (a|a)|a
   .exact .inl a
   .exact .inr ⟨a.1,ZJ⟩
   .exact .inr ⟨ZJ,a.2⟩
  .rcases a with a|a
   .have:=d k a;omega
   .exact a.2
 .have c:i=r.length:=ZJ;rw [c,List.take_length] at H;refine rn ?_;have x:=j.step s;refine cr rfl (R8 (F:=λk=>k<w.heap.size) ((R.below x).wider d) (S.below x) (E.below x) (λk a=>by have:=x.size; omega) hf hn) λu K D e=> ?_;obtain ⟨b,rfl,y⟩:=e;rw [<-q] at y;have z:b.oneCell'=true:=by
   obtain ⟨_,_,rfl,_⟩:=y.recs.form;rfl
  refine rn ?_;have z2:=D.size;refine sb rfl (C.blk.next (s.step D)) (λw3 M g a4=> ?_) (h1:=by simp [x9,Value.oneCell']; exact z);have z4:=G.size;have y4:=G.at_;have y9:=C.at_;have a5:=C.size;have a:Kept (λk=>k<w.heap.size\/W.heap.size<=k/\k<K.heap.size) K w3:=Kept.of_blocks λk a t=>g.block k t λe=>by
   cases e;omega
  have O: ∀k,(k<w.heap.size\/W.heap.size<=k/\k<K.heap.size)->k<w3.heap.size:=λk a=>ZJ;refine WA rfl M ⟨But.below (x.step D) g ZJ,p,b,rfl,?_,(jI y.net a).wider O,(y.scn.mono a).wider O,(y.recs.mono a).wider O,λk a=>a⟩;refine ((H.later D).kept ZJ λk a=> ?_).wider (λk a=>⟨ZJ,ZJ⟩) (λk a=> ?_) (λk a=> .inr a) λk a=> ?_
  .rcases a with a|a
   .have:=d k a;exact g.block k ZJ λe=>by cases e; omega
   .exact g.block k ZJ λe=>by cases e; omega
  .exact a.imp id λa=>⟨ZJ,ZJ⟩
  .rcases a with a|a
   .have:=d k a;omega
   .exact a.2
def ku (n:UInt8):ByteArray:=⟨#[n]⟩
def UN:Of:=⟨ku 97,0,0,2,1,10,[]⟩
def UM:Of:=⟨ku 98,0,0,2,1,10,[]⟩
def liX:Li:=⟨ku 108,0,1,480,120,1⟩
def liY:Li:=⟨ku 109,1,0,600,60,1⟩
def N1:Net:=⟨[⟨0,[true,true,true,true,true,false,false],[]⟩],[ku 99],[ku 112],[UN,UM],[liX,liY],[⟨ku 107,1020,720⟩]⟩
theorem MK: ∀k∈keys11,2<=k.size:=by
 intro k hk;have h:(keys11.all λk=>decide (2<=k.size))=true:=ZK;exact of_decide_eq_true (List.all_eq_true.1 h k hk)
theorem CE {n:UInt8} (h1:97<=n.toNat) (h2:n.toNat<=122):NameOK keys11 (ku n):=by
 have hsz:(ku n).size=1:=rfl;have h0:gH (ku n) 0=n.toNat:=rfl;refine ⟨by rw [hsz]; omega,by rw [hsz]; omega,by rw [h0]; exact ⟨h1,h2⟩,λi hi=> ?_,λhk=> ?_⟩
 .have:i=0:=ZJ;subst this;exact .inl ⟨h1,h2⟩
 .have:=MK _ hk;omega
theorem NM {a b:UInt8} (h:a≠b):ku a≠ku b:=λe=>h (by have:=congrArg (λx:ByteArray=>x.data.getD 0 0) e; exact this)
theorem PS {o:Of} (h:o.op=0/\o.cal=0/\o.pock=2/\o.pass=1/\o.mins=10/\o.codes= []):OfOK N1 o:=by
 obtain ⟨h1,h2,h3,h4,h5,h6⟩:=h;have n1:N1.ops.length=1:=rfl;have n2:N1.cals.length=1:=rfl;exact ⟨ZJ,ZJ,ZJ,ZJ,by rw [h6]; simp,(λc hc=>by rw [h6] at hc; cases hc),ZJ,ZJ,ZJ,ZJ,ZJ,ZJ⟩
theorem Ll:SoundOK keys11 N1:=by
 refine ⟨⟨rfl,⟨ZL,λs hs=> ?_,by simp [N1],λc hc=> ?_⟩,⟨ZL,λs hs=> ?_,by simp [N1],λ_ _=>trivial⟩,⟨ZL,λs hs=> ?_,?_,λo ho=> ?_⟩,⟨ZL,λs hs=> ?_,?_,λl hl=> ?_⟩,⟨ZL,λs hs=> ?_,by simp [N1],λc hc=> ?_⟩⟩,λa b ha hb=> ?_⟩
 .rw [List.mem_singleton.1 hs]; exact CE ZL ZL
 .rw [List.mem_singleton.1 hc];exact ⟨ZL,ZL,rfl,ZL,λi x y hx=>by simp at hx⟩
 .rw [List.mem_singleton.1 hs]; exact CE ZL ZL
 .have hs:s∈ [ku 97,ku 98]:=hs;simp only [List.mem_cons,List.not_mem_nil,or_false] at hs;rcases hs with rfl|rfl<;>exact CE ZL ZL
 .show [ku 97,ku 98].Nodup;simp only [List.nodup_cons,List.mem_singleton,List.not_mem_nil,not_false_eq_true,List.nodup_nil,and_true];exact NM ZL
 .have ho:o∈ [UN,UM]:=ho;simp only [List.mem_cons,List.not_mem_nil,or_false] at ho;rcases ho with rfl|rfl<;>exact PS ⟨ZL,rfl,rfl,rfl,rfl,rfl⟩
 .have hs:s∈ [ku 108,ku 109]:=hs;simp only [List.mem_cons,List.not_mem_nil,or_false] at hs;rcases hs with rfl|rfl<;>exact CE ZL ZL
 .show [ku 108,ku 109].Nodup;simp only [List.nodup_cons,List.mem_singleton,List.not_mem_nil,not_false_eq_true,List.nodup_nil,and_true];exact NM ZL
 .have hl:l∈ [liX,liY]:=hl;simp only [List.mem_cons,List.not_mem_nil,or_false] at hl;rcases hl with rfl|rfl<;>exact ⟨ZL,ZL,ZL,ZL,ZL,ZL,ZL,ZL,ZL,ZL,ZL⟩
 .rw [List.mem_singleton.1 hs]; exact CE ZL ZL
 .rw [List.mem_singleton.1 hc]; exact ⟨ZL,ZL,ZL,ZL⟩
 .have two: ∀i,i<N1.offs.length->i=0\/i=1:=λi hi=>by have:N1.offs.length=2:=rfl; omega
  have hx:(0,1,120)∈dZ N1:=by show (0,1,120)∈ [(0,1,(120:Int)),(1,0,60)]; simp
  have hy:(1,0,60)∈dZ N1:=by show (1,0,60)∈ [(0,1,(120:Int)),(1,0,60)]; simp
  rcases two a ha with rfl|rfl<;>rcases two b hb with rfl|rfl
  .exact .refl _
  .exact ReachL.one hx
  .exact ReachL.one hy
  .exact .refl _
def d1:bG:= [[0,120],[60,0]]
theorem sG {α β:Type} {f:α->β->α} {x:α}: ∀ {l:List β},(∀y∈l,f x y=x)->l.foldl f x=x
 | [],_=>rfl
 | y::l,h=>by rw [List.foldl_cons,h y ZM]; exact sG λz hz=>h z (by simp [hz])
def M1:dL:=(init12.set 1 120).set 12 60
theorem SG:iw init12 [(0,1,120),(1,0,60)]=M1:=by
 have h1:eF init12 0 1 120=init12.set 1 120:=by
  unfold eF;rw [if_pos (.inl ZL)]
 have h2:eF (init12.set 1 120) 1 0 60=M1:=by
  rfl
 show eF (eF init12 0 1 120) 1 0 60=M1;rw [h1,h2]
theorem JW:((List.range 12).all λo=>(List.range 12).all λa=>(List.range 12).all λb=> !(decide (g12 M1 a o≠ -1)&&decide (g12 M1 o b≠ -1))|| !(decide (g12 M1 a b= -1)||decide (g12 M1 a o+g12 M1 o b<g12 M1 a b)))=true:=by decide +kernel
theorem O4 {o a:Nat} (ho:o<12) (ha:a<12) (hb:b<12):ol o a M1 b=M1:=by
 have h:=List.all_eq_true.1 (List.all_eq_true.1 (List.all_eq_true.1 JW o (List.mem_range.2 ho)) a (List.mem_range.2 ha)) b (List.mem_range.2 hb);unfold ol
 split
 .rename_i hc;unfold eF;rw [if_neg];intro hn;rw [decide_eq_true hc.1,decide_eq_true hc.2] at h;simp at h;rcases hn with hn|hn
  .exact h.1 hn
  .omega
 .rfl
theorem Qz:iM M1 12=M1:=by
 refine sG λo ho=> ?_;refine sG λa ha=> ?_;exact sG λb hb=>O4 (List.mem_range.1 ho) (List.mem_range.1 ha) (List.mem_range.1 hb)
theorem TG:mU (eH [(0,1,120),(1,0,60)]) 2= [[0,120],[60,0]]:=by
 unfold eH;rw [SG,Qz];decide +kernel
theorem VH:mU (eH (dZ N1)) 2=d1:=TG
theorem NA:dV N1=d1:=VH
def L1:List Sc:= [⟨0,0,5⟩,⟨0,1,5⟩]
def LY (a b t:Int):Rc:=⟨a,b,1,t,ku 65,[]⟩
def T1 (recs:List Rc):TrS:=⟨N1,L1,0,recs⟩
theorem Fg {recs:List Rc}:(T1 recs).Right:=⟨Ll,by show 2<=24; omega,Int.le_refl 0,by show (0:Int)<=3; omega⟩
end Go.Proofs.YtoleahhfkpkcjaaGreatDoor
