/- Texts of this claim,joined. -/
import Derived.Test.YtoleahhfkpkcjaaGreatDoorQR
set_option linter.unusedSimpArgs false
set_option linter.unusedVariables false
set_option maxRecDepth 100000
set_option maxHeartbeats 4000000
namespace Go.Proofs.YtoleahhfkpkcjaaGreatDoor
open Go.Proofs.Tryz
open Go.PF Go.RowKit Go.Ord
theorem PQ {r r':List Rc} (h:r.Sublist r'): ∃φ,Emb φ r r':=by
 induction h with
 | slnil=>exact ⟨id,λ_ _ h=>h,λ_=>rfl⟩
 | cons a _ b =>
  obtain ⟨φ,h⟩:=b
  exact ⟨λi=>φ i+1,λi j q=>Nat.succ_lt_succ (h.mono i j q),h.at_⟩
 | cons_cons a _ b =>
  obtain ⟨φ,h⟩:=b;refine ⟨λi=>if i=0 then 0 else φ (i-1)+1,λi j q=> ?_,λi=> ?_⟩
  .rw [if_neg (show j≠0 by omega)]
   split
   .omega
   .exact Nat.succ_lt_succ (h.mono _ _ ZJ)
  .cases i with
   | zero=>rfl
   | succ i=>exact h.at_ i
theorem xI {R:List Rc} (h:R.Nodup) {i j:Nat} {x:Rc} (c:R[i]?=some x) (hj:R[j]?=some x):i=j:=by
 obtain ⟨a,rfl⟩:=ZE c;obtain ⟨b,e⟩:=ZE hj;rcases Nat.lt_trichotomy i j with q|q|q
 .exact absurd e.symm (List.pairwise_iff_getElem.1 h i j a b q)
 .exact q
 .exact absurd e (List.pairwise_iff_getElem.1 h j i b a q)
theorem xg {R:List Rc} (h:l8 R):R.Nodup:=h.imp λ{a b} q e=>by
 subst e;unfold xN at q;rw [cmpR_eq.2 rfl] at q;cases q
theorem MI {l:List Sc} {R Rs:List Rc} {s:ByteArray} {U:List Int} (hn:R.Nodup) (hs:Rs.Sublist R) (p: ∀(i:Nat) (x:Rc),R[i]?=some x->((i:Int)∈U↔x ∉ Rs)) (r:(bX l R s).length<=7): ∃φ:Nat->Nat,(∀i j,i<j->φ i<φ j)/\(bX l Rs s).map (eQ φ)=bL (bX l R s) U:=by
 obtain ⟨φ,h⟩:=PQ hs;refine ⟨φ,h.mono,?_⟩;have m:bX l R s=canon (nV l R s):=by
  unfold bX at r ⊢;rw [List.length_take] at r;exact List.take_of_length_le ZJ
 have t: ∀e:Ev,(!gone U e)=true↔ ∀n∈e.needs,n ∉ U:=λe=>by
  unfold gone;simp
 have u: ∀x,x∈(canon (nV l Rs s)).map (eQ φ)↔x∈bL (canon (nV l R s)) U:=λx=>by
  rw [bL,List.mem_filter,mem_canon,mem_folL,List.mem_map,t];constructor
  .rintro ⟨e,d,rfl⟩;obtain ⟨b,f⟩:=(wL h).2 ⟨e,mem_folL.1 (mem_canon.1 d),rfl⟩;refine ⟨b,λn a v=> ?_⟩;obtain ⟨i,rfl⟩:=f n a;obtain ⟨j,x,e,c,_⟩:=b.facts.2.1 _ a;have w:φ i=j:=ZJ;rw [<-w] at c;exact (p _ x c).1 v (ZF ((h.at_ i).symm.trans c))
  .rintro ⟨b,f⟩;obtain ⟨e,d,rfl⟩:=(wL h).1 ⟨b,λn a=>by
    obtain ⟨j,x,rfl,c,_⟩:=b.facts.2.1 n a;have k:=Classical.not_not.1 λq=>f _ a ((p _ _ c).2 q);obtain ⟨i,y⟩:=List.mem_iff_getElem?.1 k;exact ⟨i,by rw [xI hn ((h.at_ i).trans y) c]⟩⟩
   exact ⟨e,mem_canon.2 (mem_folL.2 d),rfl⟩
 have o:(canon (nV l Rs s)).map (eQ φ)=bL (canon (nV l R s)) U:=wE (Im h.mono (iL _) λe d=>(mem_folL.1 (mem_canon.1 d)).pos) (List.Pairwise.sublist List.filter_sublist (iL _)) u;have g:(canon (nV l Rs s)).length<=14:=by
  have b:=congrArg List.length o;rw [List.length_map] at b;have f:=(mV (canon (nV l R s)) U).length_le;rw [<-m] at b f;omega
 rw [m];unfold bX;rw [List.take_of_length_le g];exact o
theorem SF {d:bD} {l:List Ev} (b:WfP d l) (a:(aQ l).length<=14):(Poss d l->bU d l 0=0)/\(¬Poss d l->bU d l 0=280):=by
 have c: ∀L:List Int,bZ L 0= [[]]:=λL=>by cases L<;>rfl
 have e:bL l []=l:=by
  unfold bL gone;simp
 have f:bA d l 0=if dec (Poss d l)=true then [[]] else []:=by
  unfold bA;rw [if_pos ⟨aC b,ZL,ZL,a⟩];have:min (0:Int).toNat (aQ l).length=0:=ZM;rw [this,c];simp only [List.filter_cons,List.filter_nil,e]
 unfold bU;rw [if_pos ⟨aC b,ZL,ZL⟩,if_pos a,f];constructor
 .intro h;rw [aC h];simp
 .intro h;rw [aG h];simp
theorem Rj (L:List Int):(oH L).Pairwise λa b=>a.length<=b.length:=by
 unfold oH;rw [List.pairwise_flatMap];refine ⟨λk _=>List.pairwise_iff_forall_sublist.2 λ{a b} h=> ?_,List.pairwise_lt_range.imp λ{i j} e a c b d=>by rw [(mem_setsS.1 c).2,(mem_setsS.1 d).2]; omega⟩;have c:=h.subset (show a∈ [a,b] by simp);have d:=h.subset (show b∈ [a,b] by simp);rw [(mem_setsS.1 c).2,(mem_setsS.1 d).2];exact ZC
theorem Eh {d:bD} {l:List Ev} {a:List Int} (h:fI d l=some a):Poss d (bL l a)/\ ∀S,S.Sublist (aQ l)->S.length<a.length-> ¬Poss d (bL l S):=by
 unfold fI at h;rw [List.find?_eq_some_iff_append] at h;obtain ⟨i,k,m,e,j⟩:=h;refine ⟨dec_iff.1 i,λS f n c=> ?_⟩;have g:S∈oH (aQ l):=by
  exact List.mem_flatMap.2 ⟨S.length,List.mem_range.2 (by have:=f.length_le; omega),mem_setsS.2 ⟨f,rfl⟩⟩
 have b:=Rj (aQ l);rw [e] at g b;rcases ZH g with h|h
 .have:=j S h;rw [aC c] at this;cases this
 .rcases List.mem_cons.1 h with rfl|h
  .omega
  .have:=(List.pairwise_cons.1 (List.pairwise_append.1 b).2.1).1 S h;omega
theorem mX {R:List Rc} {i:Nat} {x:Rc} (h:R[i]?=some x):recAt R (i:Int)=x:=by
 unfold recAt;rw [Int.toNat_natCast,List.getD_eq_getElem?_getD,h];rfl
theorem Ns {T T2:TrS} {s:ByteArray} {B:List Int} (C:T.Right) (g:l8 T.recs) (R:(bX T.L T.recs s).length<=7) (S:(aQ (bX T.L T.recs s)).length<=7) (k:WfP (eU T.N) (bX T.L T.recs s)) (W: ∀n∈B,∃(i:Nat) (x:Rc),n=(i:Int)/\T.recs[i]?=some x)
  (D:T2.N=T.N) (E:T2.L=T.L) (v:T2.most=0) (F:T2.recs=T.recs.filter λy=>dec (y ∉ B.map (recAt T.recs))):(Poss (eU T.N) (bL (bX T.L T.recs s) B)->T2.qE s=0)/\(¬Poss (eU T.N) (bL (bX T.L T.recs s) B)->T2.qE s=280):=by
 have w:=xg g;obtain ⟨φ,G,c⟩:=MI (Rs:=T2.recs) (U:=B) w (by rw [F]; exact List.filter_sublist) (λi x b=>by
  have m:=ZF b;rw [F,List.mem_filter,dec_iff,show¬(x∈T.recs/\x ∉ B.map (recAt T.recs))↔x∈B.map (recAt T.recs) from ⟨λh=>Classical.not_not.1 λq=>h ⟨m,q⟩,λh q=>q.2 h⟩];constructor
  .exact λo=>List.mem_map.2 ⟨_,o,mX b⟩
  .intro o;obtain ⟨n,d,e⟩:=List.mem_map.1 o;obtain ⟨j,y,rfl,z⟩:=W n d;rw [mX z] at e;subst e;rw [xI w b z];exact d) R
 have a:=mV (bX T.L T.recs s) B;have r:=(wU (φ:=φ) nX).1 (by rw [c]; exact ⟨k.wd,by have:=k.few; have:=a.length_le; omega,λe h=>k.each e (a.subset h),λe h=>k.pos e (a.subset h)⟩);have f:(aQ (bX T.L T2.recs s)).length<=14:=by
  have A:=mW G (l:=bX T.L T2.recs s) nX;rw [c] at A;have H:=congrArg List.length A;rw [lH] at H;have I:=mh (iM _) ((iM _).sublist List.filter_sublist) λx=>by
   rw [List.mem_filter,dec_iff];refine ⟨λb=>⟨?_,b⟩,λb=>b.2⟩;obtain ⟨e,c,b⟩:=mem_recsS.1 b;exact mem_recsS.2 ⟨e,a.subset c,b⟩
  have J:=(List.filter_sublist (p:=λy=>dec (y∈aQ (bL (bX T.L T.recs s) B))) (l:=aQ (bX T.L T.recs s))).length_le;rw [<-I] at J;omega
 have t:T2.Right:=⟨D ▸ C.snd,E ▸ C.few,by rw [v]; decide,by rw [v]; decide⟩;have K:T2.qE s=bU (eU T.N) (bX T.L T2.recs s) 0:=by
  unfold TrS.qE TrS.ans;rw [if_pos (aC t),D,E,v]
 obtain ⟨M,O⟩:=SF r f;rw [K];refine ⟨λu=>M ?_,λu=>O λh=>u ?_⟩
 .rw [<-sQ (φ:=φ),c]; exact u
 .rw [<-c,sQ]; exact h
theorem Oa {T T2:TrS} {s:ByteArray} (b:l8 T.recs) (t:T.xE s=0) (h7:(bX T.L T.recs s).length<=7) (F:(aQ (bX T.L T.recs s)).length<=7)
  (u:T2.N=T.N) (v:T2.L=T.L) (K:T2.most=0) (Y:T2.recs=T.recs.filter λy=>dec (y ∉ T.xR s)) (Z:l8 T2.recs) (hl:T.recs.length<=30) (G: ∀y∈T.recs,T.Fit y):T2.qE s=0/\ ∀x∈T.xR s,(T2.add x).qE s=280:=by
 have w:T.Right:=by
  refine Classical.not_not.1 λh=> ?_;unfold TrS.xE at t;rw [aG h] at t;cases t
 have m:jy (eU T.N) (bX T.L T.recs s)=0:=by
  unfold TrS.xE at t;rw [if_pos (aC w)] at t;exact t
 have H:WfP (eU T.N) (bX T.L T.recs s):=by
  refine Classical.not_not.1 λh=> ?_;unfold jy at m;rw [aG h] at m;cases m
 obtain ⟨a,M⟩: ∃a,fI (eU T.N) (bX T.L T.recs s)=some a:=by
  unfold jy at m;rw [if_pos (aC H),if_pos ZJ] at m
  cases h:fI (eU T.N) (bX T.L T.recs s) with
  | none=>rw [h] at m; cases m
  | some a=>exact ⟨a,rfl⟩
 have o:T.xR s=a.map (recAt T.recs):=by
  have hS:iV (eU T.N) (bX T.L T.recs s)=a:=by
   unfold iV;rw [if_pos ⟨aC H,ZJ⟩,M];rfl
  unfold TrS.xR;rw [if_pos t];show (iV (eU T.N) (bX T.L T.recs s)).map _=_;rw [hS]
 have f:=tq (List.mem_of_find?_eq_some M);have c: ∀n∈a,∃(i:Nat) (x:Rc),n=(i:Int)/\T.recs[i]?=some x:=λn A=>by
  obtain ⟨e,he,O⟩:=mem_recsS.1 (f.subset A);obtain ⟨i,x,u,v,_⟩:=(mem_folL.1 (mem_canon.1 (List.mem_of_mem_take he))).facts.2.1 n O;exact ⟨i,x,u,v⟩
 obtain ⟨hp,C⟩:=Eh M;refine ⟨(Ns w b h7 F H c u v K (by rw [Y,o])).1 hp,λx D=> ?_⟩;rw [o] at D;obtain ⟨n0,E,rfl⟩:=List.mem_map.1 D;obtain ⟨I,J,rfl,d⟩:=c n0 E;rw [mX d];have g:=ZF d;have R:T2.Right:=⟨u ▸ w.snd,v ▸ w.few,by rw [K]; decide,by rw [K]; decide⟩;have S:T2.Fit J:=by
  have:=G J g;unfold TrS.Fit at this ⊢;rw [u,v];exact this
 have U:T2.recs.length<400:=by
  have:=(List.filter_sublist (p:=λy=>dec (y ∉ T.xR s)) (l:=T.recs)).length_le;rw [<-Y] at this;omega
 obtain ⟨s1,s2,s3⟩:=uf T2 J;have W:(a.filter λn=>decide (n≠(I:Int))).length<a.length:=by
  have k:=(List.filter_sublist (p:=λn=>decide (n≠(I:Int))) (l:=a)).length_le;refine Nat.lt_of_le_of_ne k λe=> ?_;have:=(List.filter_eq_self.1 (List.filter_sublist.eq_of_length e)) _ E;simp at this
 refine (Ns w b h7 F H (λn A=>c n (List.mem_filter.1 A).1) (s1.trans u) (s2.trans v) (s3.trans K) ?_).2 (C _ (List.filter_sublist.trans f) W);refine sD ?_ (b.sublist List.filter_sublist) λy=> ?_
 .have:=(gq T2 Z [J]).2.1;exact this
 .rw [Jb U,Y,List.mem_filter,List.mem_filter,dec_iff,dec_iff,o];have A:=xg b;constructor
  .rintro (⟨k,q⟩|⟨rfl,_⟩)
   .exact ⟨k,λh=>q (List.map_subset _ (List.filter_sublist.subset) h)⟩
   .refine ⟨g,λh=> ?_⟩;obtain ⟨n,k,q⟩:=List.mem_map.1 h;obtain ⟨j,z,rfl,r⟩:=c n (List.mem_filter.1 k).1;rw [mX r] at q;subst q;have:=xI A r d;subst this;simp at k
  .rintro ⟨k,q⟩;by_cases h:y∈a.map (recAt T.recs)
   .obtain ⟨n,h3,rfl⟩:=List.mem_map.1 h;obtain ⟨j,z,rfl,r⟩:=c n h3;rw [mX r] at q ⊢;by_cases hj:j=I
    .subst hj;rw [d] at r;cases r;exact .inr ⟨rfl,R,S⟩
    .refine absurd (List.mem_map.2 ⟨(j:Int),List.mem_filter.2 ⟨h3,ZO⟩,mX r⟩) q
   .exact .inl ⟨k,h⟩
attribute [local irreducible] TW CW KW DW
theorem BH {w:World} {nv:NV} {N:Net} {sv rv:Value} {L:List Sc} {r:List Rc} {s:ByteArray} {wh:Int} (hN:ig w nv N) (hL:SS w sv L) (hr:SR w rv r) (bw:0<=wh) (bx:wh<=255) (ht:Tabs w) (hi:TabI w) :
  Gives prog 7 #[.agg nv.cells.toArray,sv,rv,.string s,.int .u8 wh] w (ZS w (.bool true)):=by
 refine gw func7 ntmps7 ?_;refine nw rfl λg7 w7 f7=> ?_;refine cv rfl (BB (ht.below f7.below) (hi.below f7.below)) λw1 b1=> ?_;have x:=f7.below.step b1;have B7:=f7.blk.next b1;refine cr rfl (uN (aS hN x) (hL.step dJ x) (hr.step dM x) λk a=>a) λu w5 b5 e=> ?_;obtain ⟨b,rfl,hb⟩:=e;have E:=x.step b5;have B7:=B7.next b5;have a7:=aS hN E;have a8:=hL.step dJ E;have an:=hr.step dM E;have a9:=ht.below E;have aa:=hi.below E;clear b1 b5 x f7;refine rn ?_;refine iE rfl (λao=> ?_) λao=> ?_
 .exact aO rfl ⟨E,rfl⟩
 obtain ⟨hf,_,_,be,bf⟩:=hb (by cases b<;>simp_all);refine rn ?_;refine cr rfl (pp (F0:=λk=>k<w5.heap.size) a9 a7 (λk a=>a) a8 an ⟨ZL,ZL⟩ hf.few ZJ) λu w6 b6 e=> ?_;obtain ⟨pa,ra,rfl,t,Ra⟩:=e;refine rn ?_;refine na wT λbi bj m=> ?_;refine sb rfl m.blk (λw8 ap F bk=> ?_) (h1:=Ra.one) (imp:=λ_ _ _ _ h=>h.q);have bl:=m.at_;have z6:=b6.size;have bm:=m.size;have b8:ZT w5 w8:=But.below (b6.step m.below) F ZJ;obtain ⟨S,hS⟩: ∃S:TrS,S=TrS.adds ⟨N,L,0,[]⟩ r:=⟨_,rfl⟩;rw [<-hS] at t Ra;have t:=t.kept (w':=w8) ZJ λk a=>(F.block k (by have:=t.facts.2.1 k a; omega) λe=>by have:=t.facts.2.1 k a; cases e; omega).trans (m.below.block k (t.facts.2.1 k a));have Ra:=Ra.below (But.below m.below F ZJ);obtain ⟨⟨a1,a2,a3⟩,a4,a5⟩:=gq ⟨N,L,0,[]⟩ .nil r;rw [<-hS] at a1 a2 a3 a4 a5;clear m b6;refine rn ?_;have Z:=lG (lab:=s) Ra;rw [a3] at Z;refine cr rfl Z λu w9 b9 e=> ?_;obtain ⟨c1,rfl,aq⟩:=e;have t:=t.later b9;have G:=b8.step b9;clear ap Ra b9 b8 F Z;refine rn ?_;refine iE rfl (λh=> ?_) λh=> ?_
 .exact aO rfl ⟨E.step G,rfl⟩
 obtain ⟨_,_,_,_,_,_,h7,ar⟩:=aq (by cases c1<;>simp_all);have au:=G.size;refine rn ?_;refine aM rfl (jZ (s:=s) (aa.below G) t) ?_;rintro _ g ⟨ab,t,uv,rfl,hu⟩;have c:=G.trans (ab.below (B:=w5.heap.size) (λk a=>a.1) au);clear ab;refine rn ?_;refine cd rfl (λh=> ?_) λh=> ?_
 .exact aO rfl ⟨E.step c,rfl⟩
 have av:S.xE s=0:=by simpa using h
 clear h;obtain ⟨U,hU⟩: ∃U,U=S.xR s:=⟨_,rfl⟩;rw [<-hU] at hu;have bn:=c.size;refine rn ?_;refine cr rfl (Dt (F0:=λk=>k<w5.heap.size) (v:=nv) (a9.below c) (NetIn.below a7 c) (λk a=>ZJ) (a8.step dJ c) ⟨ZL,ZL⟩) λu ac H e=> ?_;obtain ⟨pb,rfl,Tb⟩:=e;have bo:=H.size;refine rn ?_;refine cr rfl (jl (t.later H)) λu I J hl=> ?_;have bp:=J.size;have Tb:=Tb.later J;have aw:ZT g I:=H.step J;clear t J H;have ae: ∀y∈S.recs,TrS.Right ⟨N,L,0,[]⟩/\TrS.Fit ⟨N,L,0,[]⟩ y:=λy hy=>by
  rw [hS,mY ZO] at hy;simp at hy;exact hy.2
 obtain ⟨R,hR⟩: ∃R,R=S.recs:=⟨_,rfl⟩;rw [<-hR] at hl;obtain ⟨A,ax,rfl,_⟩:=hl.form;obtain ⟨A',bg,rfl,_⟩:=hu.form;have bh:=hl.len.2.2;have ay:=hu.len.2.2;refine rn ?_;refine zR g [3,4,11,14,16,17] 18 R.length (λ_:Unit=> []) (λi _ W=> ∃Mb Fb,TrA Mb Fb W pb (TrS.adds ⟨N,L,0,[]⟩ ((R.take i).filter λy=>dec (y ∉ U)))/\(∀k,Mb k->g.heap.size<=k/\ ¬(ac.heap.size<=k/\k<I.heap.size))/\SL rcT (λk=>ac.heap.size<=k/\k<I.heap.size) W (.slice A R.length ax) R/\I.heap.size<=W.heap.size) () ⟨_,_,Tb,λk a=>⟨ZJ,ZJ⟩,hl,ZC⟩ (λi _ W hi hW hJ=> ?_) λ_ W hW hJ=> ?_
 .obtain ⟨Mb,Fb,z,d,K,az⟩:=hJ;have hz:=ZD hi;obtain ⟨ad,rfl⟩:=K.addr ZJ;obtain ⟨xv,b3,b4⟩:=SR.get K hz;have af:=hu.below hW;refine rn ?_;refine zR W [3,4,11,14,16,17,18] 20 U.length (λb:Bool=> [(19,none,.bool b)]) (λk b _=>b=dec (R[i]∈U.take k)) false (by rw [aG ZM]) (λk b W' a n o=> ?_) λb W' n o=> ?_
  .have b7:=ZD a;have e1:dec (R[i]∈U.take (k+1))=(dec (R[i]∈U.take k)||dec (U[k]=R[i])):=by
    rw [<-Ov,<-List.take_append_getElem a];exact bH (by rw [List.mem_append,List.mem_singleton,eq_comm])
   rw [<-o] at e1;obtain ⟨ba,rfl⟩:=af.addr ZJ;obtain ⟨yv,bb,a0⟩:=SR.get (af.below n) b7;have ag:=b3
   cases b with
   | true =>
    have hG: ¬aF (some !true):=by simp [aF]
    refine rn ?_;refine dx ?_;refine dz λW2 b2=> ?_;refine oI true ?_
    rw [e1]; rfl
   | false =>
    refine rn ?_;refine dx ?_;refine dc (cap:= []) ZK rfl (λ_ w' hb=>kL (a0.below hb) ((b4.below n).below hb)) ?_;refine eP ?_;refine rd ?_;refine dz λW2 b2=> ?_;refine oI _ ?_;rw [IZ,e1]
  .rw [List.take_length] at o;have C:=K.below n;have O:=z.later n;have ah:=hW.step n;have bq:=n.size;have e2:(R.take (i+1)).filter (λy=>dec (y ∉ U))=(R.take i).filter (λy=>dec (y ∉ U))++if dec (R[i] ∉ U)=true then [R[i]] else []:=by
    rw [<-List.take_append_getElem hi,List.filter_append,List.filter_cons,List.filter_nil]
   cases b with
   | true =>
    refine rn ?_;refine cF rfl ?_;refine oI () ?_;rw [aG (λh=>h (dec_iff.1 o.symm)),if_neg ZL,List.append_nil] at e2
    exact ⟨Mb,Fb,by rw [e2]; exact O,d,C,ZJ⟩
   | false =>
    obtain ⟨br,ag,ai⟩:=SR.get C hz;refine rn ?_;refine cT rfl ?_;refine aM rfl (vQ O ai λq hq=>⟨ZJ,λh=>(d q h).2 hq⟩) ?_;rintro _ W1 ⟨c1,rfl,T1⟩;have z1:=c1.size;have bs:=ah.trans (c1.below (B:=g.heap.size) (λk a=>(d k a).1) ah.size);rw [aC (λh=>by rw [aC h] at o; cases o),if_pos rfl] at e2;refine rn ?_;refine oI () ?_;refine ⟨Gr Mb W' W1,Gr Fb W' W1,?_,λk a=> ?_,c1.sl C λk a q=>(d k q).2 a,ZJ⟩
    .rw [e2,tZ];exact T1
    .rcases a with h|h
     .exact d k h
     .exact ⟨ZJ,ZJ⟩
 .obtain ⟨Mb,Fb,z,d,K,az⟩:=hJ;rw [List.take_length] at z;obtain ⟨S2,aj⟩: ∃S2,S2=TrS.adds ⟨N,L,0,[]⟩ (R.filter λy=>dec (y ∉ U)):=⟨_,rfl⟩;obtain ⟨⟨d1,d2,d3⟩,d4,d5⟩:=gq ⟨N,L,0,[]⟩ .nil (R.filter λy=>dec (y ∉ U));rw [<-aj] at z d1 d2 d3 d4 d5;have bc:R.length<=30:=by rw [hR]; simp at a5; omega
  have ak:S2.recs=R.filter λy=>dec (y ∉ U):=sD d4 (List.Pairwise.sublist List.filter_sublist (hR ▸ a4)) λy=>by
   have:=(List.filter_sublist (p:=λy=>dec (y ∉ U)) (l:=R)).length_le;rw [aj,mY ZO];exact ⟨λh=>h.elim (λh=>by cases h) (·.1),λh=> .inr ⟨h,ae y (hR ▸ (List.mem_filter.1 h).1)⟩⟩
  obtain ⟨q0,q1⟩:=Oa (T:=S) (T2:=S2) a4 av h7 ar (d1.trans a1.symm) (d2.trans a2.symm) d3 (by rw [ak,hR,hU]) d4 (hR ▸ bc) λy hy=>by
   have:=(ae y hy).2;unfold TrS.Fit at this ⊢;rw [a1,a2];exact this
  rw [<-hU] at q1;have Y:=aa.below c;have D:=lN (s:=s) (Y.below hW) z;rw [q0] at D;refine rn ?_;refine aM rfl D ?_;rintro _ W2 ⟨c2,T2,ev,wv,rfl,_,_⟩;have M:=hW.trans (c2.below (B:=g.heap.size) (λk a=>(d k a).1) hW.size);have z2:=c2.size;refine rn ?_;refine cd rfl (λh=> ?_) λ_=> ?_
  .exact absurd rfl h
  have al:=hu.below M;refine rn ?_;refine cd rfl (λh=> ?_) λbt=> ?_
  .exact aO rfl ⟨E.step (c.step M),rfl⟩
  obtain ⟨j,hj,ej⟩: ∃j:Nat,j<U.length/\wh%(U.length:Int)=(j:Int):=by
   have h1:=Int.emod_nonneg wh (b:=(U.length:Int)) ZJ;have h2:=Int.emod_lt_of_pos wh (b:=(U.length:Int)) ZJ;exact ⟨(wh%(U.length:Int)).toNat,ZJ,ZJ⟩
  obtain ⟨ba,rfl⟩:=al.addr ZJ;obtain ⟨yv,bb,a0⟩:=SR.get al (ZD hj);refine rn ?_;rw [eu ⟨ZJ,ZJ⟩];refine aP EX rfl ⟨ct,ct,trivial⟩ (λ_=>⟨ZJ,ZJ,ZJ⟩) ?_;rw [ej];refine rn ?_;refine aM rfl (vQ T2 a0 λq hq=>⟨ZJ,λh=>by have:=(d q h).1; omega⟩) ?_;rintro _ W3 ⟨c3,rfl,T3⟩;have z3:=c3.size;have a6:=M.trans (c3.below (B:=g.heap.size) (λk a=>(d k a).1) M.size);have D:=lN (s:=s) (Y.below a6) T3;rw [q1 _ (List.getElem_mem hj)] at D;refine rn ?_;refine aM rfl D ?_;rintro _ W4 ⟨am,_,bu,bv,rfl,_,_⟩;have z4:=am.size;have bd:=a6.trans (am.below (B:=g.heap.size) (λk a=>a.elim (λh=>(d k h).1) λh=>ZJ) a6.size);refine rn ?_;exact aO rfl ⟨E.step (c.step bd),rfl⟩
end Go.Proofs.YtoleahhfkpkcjaaGreatDoor
