/- Texts of this claim,joined. -/
import Derived.Test.YtoleahhfkpkcjaaGreatDoorQR
set_option linter.unusedSimpArgs false
set_option linter.unusedVariables false
set_option maxRecDepth 100000
set_option maxHeartbeats 4000000
namespace Go.Proofs.YtoleahhfkpkcjaaGreatDoor
open Go.Proofs.Tryz
open Go.PF Go.RowKit Go.Ord
attribute [local irreducible] TW CW KW DW
theorem uF {r:List Rc} {x:Rc} {A:List ByteArray} (c: ∀a∈A,∀y∈r,a∈y.cont->y.label∈A) (h1: ∀a∈A,x.label≠a/\a ∉ x.cont): ∀(n:Nat) (a:ByteArray),a∈A-> ¬Tch r x n a
 | 0,a,b=>λh=>h.elim (λe=>(h1 a b).1 e.symm) (h1 a b).2
 | n+1,a,b=>λh=>h.elim (uF c h1 n a b) λ⟨m,d,f,g⟩=>uF c h1 n _ (c a b m d g) f
theorem AV {r r':List Rc} {x:Rc} (h: ∀y∈r,y∈r'): ∀(n:Nat) (a:ByteArray),Tch r x n a->Tch r' x n a
 | 0,_,q=>q
 | n+1,a,q=>q.imp (AV h n a) λ⟨m,b,c,d⟩=>⟨m,h m b,AV h n _ c,d⟩
def UL (e:Ev):Int×Int×Int×Nat:=(e.office,e.low,e.high,e.needs.length)
theorem Ll {S:TrS} {x:Rc} {s:ByteArray} (r: ¬Tch S.recs x 3 s):(S.add x).qE s=S.qE s/\(∀t,(S.add x).qP s t=S.qP s t)/\(S.add x).xE s=S.xE s/\(S.add x).xR s=S.xR s/\((S.add x).qV s).map UL=(S.qV s).map UL:=by
 by_cases a:S.add x=S
 .rw [a];exact ⟨rfl,λ_=>rfl,rfl,rfl,rfl⟩
 have i:S.add x=S.put x:=by
  unfold TrS.add at a ⊢
  split at a
  .rename_i h;rw [if_pos h]
  .exact absurd rfl a
 have j:=λh=>a (by rw [i,MQ h]);rw [i];have k:dec (S.put x).Right=dec S.Right:=bH (by rw [mU,mU]; rfl);have e:=B6 j r;obtain ⟨p,d⟩: ∃p,p=lJ S.recs x:=⟨_,rfl⟩;have f:=d ▸ (jh S.recs x).le;have b:(S.put x).recs=jq S.recs p x:=by rw [d]; exact sP j
 rw [<-d] at e;have c: ∀e∈(S.ans s).evs,∀n∈e.needs,0<=n:=nX;have o: ∀W∈(S.ans s).ws,∀n∈W,0<=n:=λW q n l=>xB c n ((zx q).1.subset l);have g:(S.put x).qE s=S.qE s:=by
  unfold TrS.qE;rw [k,e];rfl
 have m:(S.put x).xE s=S.xE s:=by
  unfold TrS.xE;rw [k,e];show (if dec S.Right=true then jy (eU S.N) ((S.ans s).evs.map (eQ (sh p))) else 1)=_;rw [(Cx (sI p) c).2]
 refine ⟨g,λt=> ?_,m,?_,?_⟩
 .unfold TrS.qP;rw [g,e];show (if S.qE s=0 then lI S.N (eU S.N) ((S.ans s).evs.map (eQ (sh p))) ((S.ans s).ws.map (dI (sh p))) t else [])=_;rw [wu (sI p) c o]
 .unfold TrS.xR;rw [m,e,b];show (if S.xE s=0 then (iV (eU S.N) ((S.ans s).evs.map (eQ (sh p)))).map (recAt (jq S.recs p x)) else [])=_;rw [(Cx (sI p) c).1]
  split
  .unfold dI;rw [List.map_map];refine List.map_congr_left λn l=> ?_;have:=(wN (x:=x) f).at_ n.toNat;show recAt (jq S.recs p x) ((sh p n.toNat:Nat):Int)=recAt S.recs n;unfold recAt;rw [Int.toNat_natCast,List.getD_eq_getElem?_getD,List.getD_eq_getElem?_getD,this]
  .rfl
 .unfold TrS.qV;rw [g,e];show (if S.qE s=0 then (S.ans s).evs.map (eQ (sh p)) else []).map UL=_
  split
  .rw [List.map_map];refine List.map_congr_left λe _=> ?_;show (e.office,e.low,e.high,(dI (sh p) e.needs).length)=_;rw [lH];rfl
  .rfl
structure Abv (r:List Rc) (s:ByteArray) (A:List ByteArray) (i:Nat):Prop where
 nd:A.Nodup
 sub: ∀a∈A,a∈s::r.map (·.label)
 has:s∈A
 cl: ∀j a,j<i->A[j]?=some a-> ∀y∈r,a∈y.cont->y.label∈A
theorem Abv.len {r:List Rc} {s:ByteArray} {A:List ByteArray} {i:Nat} (h:Abv r s A i):A.length<=r.length+1:=by
 have:=dR h.nd h.sub;simpa using this
theorem Abv.more {r:List Rc} {s:ByteArray} {A:List ByteArray} {i:Nat} (h:Abv r s A i) (m:i<=A.length) {y:Rc} (l:y∈r) (hn:y.label ∉ A):Abv r s (A++ [y.label]) i where
 nd:=List.nodup_append.2 ⟨h.nd,ZM,λa c b d=>by rw [List.mem_singleton.1 d]; exact λe=>hn (e ▸ c)⟩
 sub:=λa c=>(ZH c).elim (h.sub a) λh=>by rw [List.mem_singleton.1 h]; exact List.mem_cons_of_mem _ (List.mem_map.2 ⟨y,l,rfl⟩)
 has:=List.mem_append_left _ h.has
 cl:=λj a f c z g k=>by
  rw [List.getElem?_append_left ZJ] at c;exact List.mem_append_left _ (h.cl j a f c z g k)
theorem Rn {w:World} {rv:Value} {r:List Rc} {s:ByteArray} (hr:SR w rv r) (hn:r.length<=1000) (hs:s.size<=9223372036854775807) :
  Gives prog 28 #[.string s,rv] w λu C=>ZT w C/\ ∃A,SL eB (λk=>w.heap.size<=k/\k<C.heap.size) C u A/\s∈A/\(∀a∈A,∀y∈r,a∈y.cont->y.label∈A)/\A.length<=r.length+1:=by
 obtain ⟨R,a3,rfl,_⟩:=hr.form;refine gw func28 ntmps28 ?_;refine bs [.string s] wB rfl λg w1 f1=> ?_;have a0:Go.PF.RowG eB (λk=>w.heap.size<=k) w1 9 w.heap.size (.slice (some ⟨g,0,none⟩) 1 1) [([.string s],s)]:=⟨aV f1.blk rfl ZL,λp hp=>by rw [List.mem_singleton.1 hp]; exact ⟨rfl,hs⟩,λq hq=>by simp [Value.ownBlock] at hq; have:=f1.at_; omega⟩;refine dC [0,1] (λx:Nat×Value=> [(6,none,ZU (x.1:Int)),(5,none,x.2)]) (λx W=>ZT w W/\ ∃z:List (List Value×ByteArray),x.1<=z.length/\Go.PF.RowG eB (λk=>w.heap.size<=k) W 9 w.heap.size x.2 z/\Abv r s (z.map (·.2)) x.1) (λx=>r.length+1-x.1) (0,.slice (some ⟨g,0,none⟩) 1 1) ⟨f1.below,_,ZB,a0,⟨ZM,ZM,ZM,λj a N=>ZJ⟩⟩ ?_;rintro ⟨i,v⟩ W ⟨bW,z,hi,hR,O⟩;dsimp only at hi hR O;have S:=hR.sl ZL;have D:=O.len;rw [List.length_map] at D;obtain ⟨X,xc,e,_⟩:=S.form;rw [List.length_map] at e;subst e;refine rn ?_;refine cd rfl (λa4=> ?_) λa5=> ?_;rotate_left 1
 .have F:i=z.length:=ZJ;exact aO rfl ⟨bW,z.map (·.2),S.wider λk H=>⟨H.1.elim id id,H.2⟩,O.has,λa ha y E t=>by
   obtain ⟨j,N,e⟩:=List.getElem_of_mem ha;exact O.cl j a (by rw [F]; simpa using N) (by rw [<-e]; exact ZD N) y E t,by simpa using D⟩
 have F:i<z.length:=ZJ;obtain ⟨a,ha⟩: ∃a,(z.map (·.2))[i]?=some a:=⟨_,ZD (by simpa using F)⟩;refine zR w [0,1,6] 7 r.length (λv:Value=> [(5,none,v)]) (λk v W'=> ∃c:List (List Value×ByteArray),Go.PF.RowG eB (λk=>w.heap.size<=k) W' 9 w.heap.size v c/\Abv r s (c.map (·.2)) i/\(c.map (·.2))[i]?=some a/\ ∀j y,j<k->r[j]?=some y->a∈y.cont->y.label∈c.map (·.2)) (.slice X z.length xc) ⟨z,hR,O,ha,λj y h=>ZJ⟩ (λk v W' H I hJ=> ?_) λv W' I hJ=> ?_
 .obtain ⟨c,n,d,l,J⟩:=hJ;have U:=I;have m:=n.sl ZL;have K:=d.len;rw [List.length_map] at K;obtain ⟨Y,yc,e,_⟩:=m.form;rw [List.length_map] at e;subst e;have a6:i<c.length:=by have:=(ZE l).1; simpa using this
  obtain ⟨ad,rfl⟩:=hr.addr ZJ;have hz:=ZD H;obtain ⟨xv,a7,B⟩:=SR.get (hr.step dM U) hz;refine rn ?_;obtain ⟨ay,rfl⟩: ∃ay,Y=some ay:=m.addr (by rw [List.length_map]; omega);have a1:=ZF hz;have L: ∀(A:List ByteArray),(∀b∈c.map (·.2),b∈A)->(a∈r[k].cont->r[k].label∈A)-> ∀j y,j<k+1->r[j]?=some y->a∈y.cont->y.label∈A:=λA h1 h2 j y N E t=>by
   rcases ZI j k with h|h
   .exact h1 _ (J j y h E t)
   .obtain rfl:j=k:=ZJ;rw [hz] at E;cases E;exact h2 t
  by_cases t:a∈r[k].cont
  .by_cases Z:r[k].label∈c.map (·.2)
   .refine dx ?_;refine dc (cap:= []) ZK rfl (λ_ C o=>aC t ▸ zY (B.ct.below o)) ?_;refine eP ?_;refine rd ?_;refine dc (cap:= []) ZK rfl (λ_ C o=>aC Z ▸ zY (m.below o)) ?_;refine eP ?_;refine rd ?_;refine dz λW2 M=> ?_;refine cF rfl ?_;exact oI _ ⟨c,n.step M,d,l,L _ (λ_ h=>h) λ_=>Z⟩
   .refine dx ?_;refine dc (cap:= []) ZK rfl (λ_ C o=>aC t ▸ zY (B.ct.below o)) ?_;refine eP ?_;refine rd ?_;refine dc (cap:= []) ZK rfl (λ_ C o=>aG Z ▸ zY (m.below o)) ?_;refine eP ?_;refine rd ?_;refine dz λW2 M=> ?_;have a8:=U.step M;have hm:=d.more (by rw [List.length_map]; omega) a1 Z;refine cT rfl ?_;refine gg (T:=eB) (G:=λk=>w.heap.size<=k) (w0:=w) (a:=r[k].label) BF wB rfl (n.step M) ⟨rfl,B.lb⟩ λg a9 W3 a2 b3=> ?_;exact oI _ ⟨_,a2,by rw [List.map_append]; exact hm,by rw [List.map_append,List.getElem?_append_left (by rw [List.length_map]; omega)]; exact l,L _ (λb h=>by rw [List.map_append]; exact List.mem_append_left _ h) λ_=>ZM⟩
  .refine dx ?_;refine dc (cap:= []) ZK rfl (λ_ C o=>aG t ▸ zY (B.ct.below o)) ?_;have hG: ¬aF (some false):=by simp [aF]
   refine rd ?_;refine dz λW2 M=> ?_;refine cF rfl ?_;exact oI _ ⟨c,n.step M,d,l,L _ (λ_ h=>h) λh=>absurd h t⟩
 .obtain ⟨c,n,d,l,J⟩:=hJ;refine rn ?_;refine dB (i+1,v) ⟨I,c,by have:=(ZE l).1; rw [List.length_map] at this; exact this,n,⟨d.nd,d.sub,d.has,λj b N o y E t=> ?_⟩⟩;rcases ZI j i with h|h
  .exact d.cl j b h o y E t
  .obtain rfl:j=i:=ZJ;rw [l] at o;cases o;obtain ⟨k,H,e⟩:=List.getElem_of_mem E;exact J k y H (by rw [<-e]; exact ZD H) t
theorem Gm {w:World} {nv:NV} {N:Net} {sv rv xv:Value} {L:List Sc} {most t:Int} {r:List Rc} {x:Rc} {s:ByteArray} {F:Nat->Prop} (hN:ig w nv N) (hL:SS w sv L) (hr:SR w rv r) (hm:fE most) (hx:RcOK F w xv x) (bx:s.size<=9223372036854775807) (ht:Tabs w) (hi:TabI w) :
  Gives prog 5 #[.agg nv.cells.toArray,sv,ZU most,rv,.agg (iY x xv).toArray,.string s,ZU t] w (ZS w (.bool true)):=by
 refine gw func5 ntmps5 ?_;refine nw rfl λg7 w7 f7=> ?_;refine nw rfl λce ae af=> ?_;have o:=f7.below.step af.below;refine cv rfl (BB (ht.below o) (hi.below o)) λw1 b1=> ?_;have C:=o.step b1;have Y:=aS hN C;have Z:=hL.step dJ C;have a0:=hr.step dM C;have ag:RcOK (λk=>k<w1.heap.size) w1 xv x:=⟨hx.i1,hx.i2,hx.i3,hx.i4,hx.lb,(hx.ct.below C).now jA⟩;have B7:=f7.blk.next (af.below.step b1);have ah:=af.blk.next b1;refine dl 3 λw2 H=> ?_;refine cr rfl (uN (aS Y H) (Z.step dJ H) (a0.step dM H) λk d=>d) λu w3 b3 e=> ?_;obtain ⟨b,rfl,hb⟩:=e
 cases b with
 | false =>
  have hG: ¬aF (some !true):=by simp [aF]
  refine rn ?_;refine WH 16 ZA ?_;refine UM λw4 b4=> ?_;refine cT rfl ?_
  exact aO rfl ⟨C.step (H.step (b3.step b4)),rfl⟩
 | true =>
  refine rn ?_;obtain ⟨hf,_,_,ca,cb⟩:=hb rfl;have ai:=a0.step dM (H.step b3);have aj:=ag.step (H.step b3);obtain ⟨X,bc,rfl,_⟩:=aj.ct.form;obtain ⟨A,cf,rfl,_⟩:=ai.form;have bd:=ah.next (H.step b3);obtain ⟨be,p1,ak,n1,a1⟩:=ai.flat (T:=rcT) ZL;refine il .own 14 ZK ZK rfl rfl ZA ?_;refine eP ?_;refine rd ?_;refine iK 57 rfl rfl zi ?_;refine eP ?_;refine rd ?_;refine iO (m:=r.length) (A:=A) (be.flatMap (·.1)) rfl rfl xZ rfl ZK rfl id a1 n1 (Gg ak) ZJ ZJ ?_;refine eP ?_;refine rd ?_;refine gD 57 [.tmp 47] rfl rfl rfl zi (bO rfl id dE) rfl rfl rfl rfl rfl ?_;refine eP ?_;refine kC (iY x (.slice X x.cont.length bc)) rfl rfl xZ rfl ZK rfl ct (λu hu=> ?_) ZJ ZJ rfl ?_
  .simp [iY] at hu;rcases hu with rfl|rfl|rfl|rfl|rfl|rfl<;>rfl
  refine eP ?_;refine Yp [49] [0,1,2,3,4,5,6,7,11,15,40,41,42,43] rfl λvs w4 b4 hs=> ?_;obtain ⟨y,rfl,hO⟩:=Sats.one hs;have hy:=IB b4 ak p1 aj hO ZJ;have v:=H.step (b3.step b4);refine bC ?_;refine aL rfl rfl ?_;refine cr rfl (uN (aS Y v) (Z.step dJ v) hy λk d=>d) λu z b5 e=> ?_;obtain ⟨c,rfl,_⟩:=e;refine rn ?_;have g:=v.step b5;have cg:=B7.next g;have cc:=ah.next g;have bf:=aS Y g;have bz:=Z.step dJ g;have bg:=a0.step dM g;have bh:=ag.step g;have b0:=C.step g;have al:=ht.below b0;have E:=hi.below b0;clear hs H b3 b4 b5 v g bd B7 ah ai aj hy hO Y Z a0 ag ak a1 n1 p1 be C;refine iE rfl (λc0=> ?_) λc0=> ?_
  .exact aO rfl ⟨b0,rfl⟩
  refine rn ?_;refine cr rfl (Rn bg ZJ bx) λu w6 b6 e=> ?_;obtain ⟨A6,am,bi,bj,c2⟩:=e;obtain ⟨X6,c6,rfl,_⟩:=am.form;refine rn ?_;refine zT [0,1,2,3,5,6,7,11,15,16] 17 A6.length (λi _=> ∀j a,j<i->A6[j]?=some a->x.label≠a/\a ∉ x.cont) (λj a h=>ZJ) (λi W hi hW hJ=> ?_) λW hW hJ=> ?_
  .have ha:=ZD hi
   generalize A6[i]=a at ha
   obtain ⟨ad,rfl⟩:=am.addr ZJ;have U:=b6.step hW;have c3:=bh.ct.below U;refine rn ?_;refine dx ?_;refine dc (cap:= []) ZK rfl (λ_ w' hb=>zY (s:=a) (c3.below hb)) ?_;refine dz λW2 H=> ?_;refine iE rfl (λh=> ?_) λh=> ?_
   .exact aO rfl ⟨b0.step (U.step H),rfl⟩
   refine rn ?_;refine nS ?_;intro j b hj hb;rcases ZI j i with q|q
   .exact hJ j b q hb
   obtain rfl:j=i:=ZJ;rw [ha] at hb;cases hb;simp only [Bool.or_eq_false_iff] at h;exact ⟨λe=>by rw [e] at h; simp at h,λe=>by rw [aC e] at h; simp at h⟩
  .have U:=b6.step hW;have ab: ∀n,¬Tch r x n s:=λn=>uF bj (λa ha=>by
    obtain ⟨j,hj,e⟩:=List.getElem_of_mem ha;exact hJ j a hj (by rw [<-e]; exact ZD hj)) n s bi
   have ch:=aS bf U;have zW:=U.size;clear hJ am bj bi c2;refine cr rfl (pp (F0:=λk=>k<z.heap.size) (al.below U) (NetIn.below bf U) (λk d=>ZJ) (bz.step dJ U) (bg.step dM U) hm hf.few ZJ) λu w7 b7 e=> ?_;obtain ⟨p,ra,rfl,T,Ra⟩:=e;refine rn ?_;refine na wT λci w8 f8=> ?_;refine sb rfl f8.blk (λw9 cj an ck=> ?_) (h1:=Ra.one) (imp:=λ_ _ _ _ h=>h.q);have y8:=f8.at_;have z7:=b7.size;have z8:=f8.size;obtain ⟨S,hS⟩: ∃S:TrS,S=TrS.adds ⟨N,L,most,[]⟩ r:=⟨_,rfl⟩;rw [<-hS] at T Ra;have b9:ZT z w9:=But.below ((U.step b7).step f8.below) an ZJ;have T:=T.kept (w':=w9) ZJ λk d=>(an.block k (by have:=T.facts.2.1 k d; omega) λe=>by have:=T.facts.2.1 k d; cases e; omega).trans (f8.below.block k (T.facts.2.1 k d));have Ra:=Ra.below (But.below f8.below an ZJ);have c4:S.most=most:=by rw [hS]; exact (gq ⟨N,L,most,[]⟩ .nil r).1.2.2
   have bk: ∀y∈S.recs,y∈r:=λy hy=>by
    rw [hS,mY ZO] at hy;exact hy.elim (λh=>by cases h) λh=>h.1
   have hO:=Ll (S:=S) (x:=x) (s:=s) λh=>ab 3 (AV bk 3 s h);clear f8 b7 ab;refine rn ?_;have bl:=lG (lab:=s) Ra;rw [c4] at bl;refine cr rfl bl λu cm ao e=> ?_;obtain ⟨c1,rfl,_⟩:=e;have T:=T.later ao;have B:=b9.step ao;have cn:=B.size;have co:=ao.size;refine rn ?_;refine iE rfl (λ_=> ?_) λ_=> ?_
   .exact aO rfl ⟨b0.step B,rfl⟩
   refine rn ?_;refine aM rfl (lN (s:=s) (E.below B) T) ?_;rintro _ ae ⟨ap,bm,ev,wv,rfl,I,_⟩;have o:ZT z ae:=B.trans (ap.below (λk d=>ZJ) B.size);have cp:=ap.size;refine rn ?_;refine aM rfl (pV (s:=s) (t:=t) (E.below o) (al.below o) bm) ?_;rintro _ bn ⟨a3,bo,pv,rfl,J⟩;have aq:ZT z bn:=o.trans (a3.below (λk d=>ZJ) o.size);have cq:=a3.size;refine rn ?_;refine aM rfl (jZ (s:=s) (E.below aq) bo) ?_;rintro _ ar ⟨a4,bp,xl,rfl,K⟩;have au:ZT z ar:=aq.trans (a4.below (λk d=>ZJ) aq.size);have cs:=a4.size;refine rn ?_;refine aM rfl (vQ bp (bh.below au) λk d=>⟨ZJ,ZJ⟩) ?_;rintro _ bq ⟨a5,rfl,br⟩;have v:ZT z bq:=au.trans (a5.below (λk d=>ZJ) au.size);have cu:=a5.size;refine rn ?_;refine aM rfl (lN (s:=s) (E.below v) br) ?_;rintro _ bs ⟨a6,bt,cw,cx,rfl,M,_⟩;have g:ZT z bs:=v.trans (a6.below (λk d=>by simp only [Gr] at d; omega) v.size);have cy:=a6.size;refine rn ?_;refine aM rfl (pV (s:=s) (t:=t) (E.below g) (al.below g) bt) ?_;rintro _ bu ⟨a7,bv,cz,rfl,D⟩;have av:ZT z bu:=g.trans (a7.below (λk d=>by simp only [Gr] at d; omega) g.size);have d0:=a7.size;refine rn ?_;refine aM rfl (jZ (s:=s) (E.below av) bv) ?_;rintro _ G ⟨a8,c5,d1,rfl,ac⟩
   have c7:ZT z G:=av.trans (a8.below (λk d=>by simp only [Gr] at d; omega) av.size);have d2:=a8.size;obtain ⟨R,O⟩: ∃R:Nat->Prop,∀k,R k↔(W.heap.size<=k/\k<w7.heap.size\/ar.heap.size<=k/\k<bq.heap.size):=⟨_,λ_=>Iff.rfl⟩;have aw:Chg R bu G:=a8.wider λk d=>(O k).2 (by simp only [Gr] at d; omega);have ax:Chg R bs G:=(a7.wider λk d=>(O k).2 (by simp only [Gr] at d; omega)).trans aw λ_ h=> .inl h;have ay:Chg R ar G:=((a5.wider λk d=>(O k).2 ZJ).trans (a6.wider λk d=>(O k).2 (by simp only [Gr] at d; omega)) λ_ h=> .inl h).trans ax λ_ h=> .inl h;have az:Chg R bn G:=(a4.wider λk d=>(O k).2 ZJ).trans ay λ_ h=> .inl h;have bw:Chg R ae G:=(a3.wider λk d=>(O k).2 ZJ).trans az λ_ h=> .inl h;have I:=bw.sl I λk d q=>by rw [O] at q; omega
   have J:=az.sl J λk d q=>by rw [O] at q; omega
   have K:=ay.sl K λk d q=>by rw [O] at q; omega
   have M:=ax.sl M λk d q=>by rw [O] at q; omega
   have D:=aw.sl D λk d q=>by rw [O] at q; omega
   obtain ⟨o1,o2,o3,o4,o5⟩:=hO;rw [o1] at *;rw [o2] at D;rw [o3] at *;rw [o4] at ac;clear bw az ay ax aw ap a3 a4 a5 a6 a7 a8 bm bo bp br bt bv c5;refine rn ?_;rw [decide_eq_false (p:=S.qE s≠S.qE s) ZM,decide_eq_false (p:=S.xE s≠S.xE s) ZM];refine bC ?_;refine aL rfl rfl ?_;refine cv rfl (decide_eq_true (p:=S.qP s t=S.qP s t) rfl ▸ wF J D) λd3 b8=> ?_;refine rn ?_;refine bC ?_;refine aL rfl rfl ?_;refine cv rfl (aC (p:=S.xR s=S.xR s) rfl ▸ oV (K.below b8) (ac.below b8)) λd4 c8=> ?_;have ba:=b8.step c8;have a9:=I.below ba;have bb:=M.below ba;have c9:((S.add x).qV s).length=(S.qV s).length:=by
    have:=congrArg List.length o5;simpa using this
   refine iE rfl (λh=> ?_) λ_=> ?_
   .simp [c9] at h
   obtain ⟨Y1,d5,rfl,_⟩:=a9.form;have cd:=a9.len.2.2;obtain ⟨Y2,d6,rfl,_⟩:=bb.form;refine rn ?_;refine zT [15,20,27] 34 (S.qV s).length (λ_ _=>True) trivial (λi W2 hi aa _=> ?_) λW2 aa _=> ?_
   .obtain ⟨a1,rfl⟩:=a9.addr ZJ;obtain ⟨a2,rfl⟩:=bb.addr ZJ;have h1:=ZD hi;have h2:((S.add x).qV s)[i]?=some (((S.add x).qV s)[i]'(by omega)):=ZD _;have d:UL ((S.qV s)[i])=UL (((S.add x).qV s)[i]'(by omega)):=by
     have:=congrArg (λl=>l[i]?) o5;simp only [List.getElem?_map,h1,h2,Option.map_some,Option.some.injEq] at this;exact this.symm
    generalize (S.qV s)[i]=f1 at h1 d
    generalize ((S.add x).qV s)[i]'(by omega)=f2 at h2 d
    simp only [UL,Prod.mk.injEq] at d;obtain ⟨k1,k2,k3,k4⟩:=d;obtain ⟨n1,d7,_,_,_,d8⟩:=SE.get (a9.below aa) h1;obtain ⟨n2,d9,_,_,_,da⟩:=SE.get (bb.below aa) h2;refine dr λW3 b3=> ?_;refine iE rfl (λh=> ?_) λ_=> ?_
    .simp [k1,k2,k3,k4] at h
    refine rn ?_;refine nS ?_;trivial
   .exact aO rfl ⟨b0.step ((c7.step ba).step aa),rfl⟩
end Go.Proofs.YtoleahhfkpkcjaaGreatDoor
