/- Texts of this claim,joined. -/
import Derived.Test.YtoleahhfkpkcjaaGreatDoorQO
set_option linter.unusedSimpArgs false
set_option linter.unusedVariables false
set_option maxRecDepth 100000
set_option maxHeartbeats 4000000
variable {F G:Nat->Prop} {w:Go.World} {v sv rv u:Go.Value} {φ:Go.Value->Go.World->Prop} {S:Go.Proofs.YtoleahhfkpkcjaaGreatDoor.TrS} {cs:List Go.Value} {r:List Go.Ord.Rc} {lab:ByteArray} {l:List Go.Ord.Sc} {q:Prop} {t:Go.TypeId} {N:Go.Ord.Net} {x:Go.Ord.Rc} {i s g:Nat}
namespace Go.Proofs.YtoleahhfkpkcjaaGreatDoor
open Go.Proofs.Tryz
open Go.PF Go.RowKit Go.Ord
attribute [local irreducible] TW CW KW DW
theorem LX {v:NV} (hN:iA w v N) (hf:FewN N):Gives prog 69 #[.agg v.cells.toArray] w λu w'=>ZT w w'/\ ∃n,nk u n/\(n=0↔SoundOK keys11 N):=by
 have s: ∀ {u:Value} {W:World} {b:Nat} {m:List (List Value×Unit)},RowB KP W 163 b u m->nk u m.length:=λh=>by simpa using (h.sl ZL).isl
 refine gw func69 ntmps69 ?_;refine nw rfl λg1 z f1=> ?_;refine cr rfl (Dv (bA hN f1.below) hf) λu C b2 h=> ?_;obtain ⟨m,e,hn,l⟩:=h;have hu:=s e;refine rn ?_;refine cd rfl (λa0=> ?_) λE=> ?_
 .exact aO rfl ⟨bK,_,hu,λh=>ZJ,λh=>l.2 h.cons⟩
 have d:ConsOK keys11 N:=l.1 ZJ;obtain ⟨hL,a1,a2⟩:=d.ln;have a4:ZT z C:=b2;refine cr rfl (PI (bA (bA hN f1.below) b2) hf d) λdv F b3 hd=> ?_;obtain ⟨D,G⟩: ∃D,D=(List.range N.offs.length).map λa=>oL (dZ N) N.offs.length a:=⟨_,rfl⟩;rw [<-G] at hd;have a5:D.length=N.offs.length:=by rw [G]; simp
 refine rn ?_;refine ze z [4] 5 D.length (λv:Value=> [(3,none,v)])
  (λb v W=>F.heap.size<=W.heap.size/\SL (sliceT aS) (λk=>C.heap.size<=k/\k<F.heap.size) W dv D/\FR z.heap.size b (∀i j,j<b->i<N.offs.length->ReachL (dZ N) i j) v W/\ ∀g,v.ownBlock=some g->g<C.heap.size\/F.heap.size<=g) u
  ⟨ZC,hd,⟨m,e.step b3,ZJ,λ_ i j h=>absurd h (Nat.not_lt_zero j),λ_=>ZJ⟩,λg H=> .inl (e.1.lt H)⟩ (λb v W hb hW o=> ?_) λv W hW o=> ?_
 .obtain ⟨hz,p,hF,I⟩:=o;refine ze W [3,4,5] 7 D.length (λc:Bool=> [(6,none,.bool c)]) (λi c J=>J=W/\(c=false↔ ∀j,j<i->ReachL (dZ N) j b)) false ⟨rfl,λ_ i h=>absurd h (Nat.not_lt_zero i),λ_=>rfl⟩ (λa c J A K o=> ?_) λc J K o=> ?_
  .obtain ⟨rfl,B⟩:=o;have t:a<N.offs.length:=ZJ;have L:D[a]?=some (oL (dZ N) N.offs.length a):=by rw [G,List.getElem?_map,List.getElem?_range t]; rfl
   have M:=Hr hL t;obtain ⟨cs,O,rv,rfl,a3⟩:=SL.el p ZA L;have R:=O 0 rv rfl;rw [add_zero'] at R;have hx:=ZD (show b<(oL (dZ N) N.offs.length a).length by omega);have x:=M.2.2 b ZJ;have S:gB (oL (dZ N) N.offs.length a) b=(oL (dZ N) N.offs.length a)[b]'(by omega):=by unfold gB; rw [List.getD_eq_getElem?_getD,hx]; rfl
   rw [S] at x;refine rn ?_;refine qz _ ⟨rfl,?_⟩;rw [Bool.or_eq_false_iff,B,decide_eq_false_iff_not,x,Classical.not_not];exact ⟨λh j r=>(Nat.lt_succ_iff_lt_or_eq.1 r).elim (h.1 j) λq=>q ▸ h.2,λh=>⟨λj r=>h j ZJ,h a ZJ⟩⟩
  .obtain ⟨rfl,B⟩:=o;obtain ⟨m,e,hn,l⟩:=hF;have h1:(∀i j,j<b+1->i<N.offs.length->ReachL (dZ N) i j)↔(∀i j,j<b->i<N.offs.length->ReachL (dZ N) i j)/\ ∀j,j<D.length->ReachL (dZ N) j b:=⟨λh=>⟨λi j r=>h i j ZJ,λj r=>h j b ZJ ZJ⟩,λh i j r l=>(Nat.lt_succ_iff_lt_or_eq.1 r).elim (λq=>h.1 i j q l) λq=>q ▸ h.2 i ZJ⟩;refine iG rfl (λy=> ?_) λU=> ?_
   .refine eD [ZU 3,ZU (b:Int),ZU 111] rfl ?_;refine WC (T:=KP) (a:=()) AJ DD rfl e ⟨rfl,rfl⟩ λg Y w' Z b' gb on=> ?_;have:=b3.size;exact qz Y ⟨Nat.le_trans hz gb.size,p.mono (Kept.of_blocks λk hk _=>gb.block k ZJ λq=>by have:=I k q.symm; omega),FR.put Z ZJ (λh=>(Bool.eq_false_iff.1 (B.2 (h1.1 h).2)) y),λg H=>(on g H).elim (I g) λh=> .inr ZJ⟩
   .exact qz v ⟨hz,p,⟨m,e,ZJ,l.trans (Iff.trans ⟨λh=>⟨h,B.1 U⟩,λh=>h.1⟩ h1.symm)⟩,I⟩
 .obtain ⟨_,_,⟨m,e,_,l⟩,_⟩:=o;exact aO rfl ⟨bK,_,s e,l.trans ⟨λh=>⟨d,λa b A hb=>h a b ZJ A⟩,λh a b hb A=>h.all a b A ZJ⟩⟩
theorem BX {v:NV} (d:iA w v N) (e:FewN N):Gives prog 31 #[.agg v.cells.toArray] w λu a=>ZT w a/\u= .bool (dec (SoundOK keys11 N)):=by
 refine gw func31 ntmps31 ?_;refine nw rfl λg i b=> ?_;refine cr rfl (LX (bA d b.below) e) λu j k h=> ?_;obtain ⟨n,l,c⟩:=h;refine rn ?_;exact rB rfl (by rw [<-c]; simp)
def x9 (nv:NV) (sv:Value) (m:Int) (rv:Value):List Value:= [nv.c,nv.n,nv.o,nv.f,nv.l,nv.k,sv,ZU m,rv]
structure RTr (F:Nat->Prop) (w:World) (nv:NV) (sv rv:Value) (S:TrS):Prop where
 net:NetIn F w nv S.N
 scn:SL yh F w sv S.L
 recs:SL rcT F w rv S.recs
 lt: ∀k,F k->k<w.heap.size
theorem RTr.below {F:Nat->Prop} {w w':World} {nv:NV} {sv rv:Value} {S:TrS} (h:RTr F w nv sv rv S) (hb:ZT w w'):RTr F w' nv sv rv S:=⟨h.net.below hb,h.scn.below hb,h.recs.below hb,λk a=>by have:=h.lt k a; have:=hb.size; omega⟩
theorem right_iff:S.Right↔SoundOK keys11 S.N/\S.L.length<=24/\0<=S.most/\S.most<=3:=⟨λh=>⟨h.snd,h.few,h.m0,h.m3⟩,λh=>⟨h.1,h.2.1,h.2.2.1,h.2.2.2⟩⟩
theorem AV {p:Prop}:dec (p/\q)=(dec p&&dec q):=by
 by_cases a:p
 .by_cases b:q
  .rw [aD a,aD b,aD ⟨a,b⟩]; rfl
  .rw [aD a,aH b,aH λh=>b h.2]; rfl
 .rw [aH a,aH λh=>a h.1]; rfl
theorem nP {p:Prop} [Decidable p]:dec p=decide p:=by
 unfold dec;simp
theorem wH {nv:NV} (h:RTr F w nv sv rv S) (G:FewN S.N) :
  Gives prog 50 #[.agg (x9 nv sv S.most rv).toArray] w λu D=>ZT w D/\u= .bool (dec S.Right):=by
 obtain ⟨⟨b,c,d⟩,⟨e,g,i⟩,⟨j,k,l⟩,⟨m,n,o⟩,⟨q,r,s⟩,⟨t,x,y⟩⟩:=NetIn.form h.net;obtain ⟨H,I,J,K,M,O⟩:=nv;subst d i l o s y;obtain ⟨A,E,rfl,_⟩:=h.scn.form;refine gw func50 ntmps50 ?_;refine nw rfl λR U a=> ?_;have C:=Blk.part a.blk 0 [.slice b S.N.cals.length c,.slice e S.N.names.length g,.slice j S.N.ops.length k,.slice m S.N.offs.length n,.slice q S.N.lines.length r,.slice t S.N.classes.length x] rfl;refine rn ?_;refine cv rfl (BX (v:=⟨.slice b S.N.cals.length c,.slice e S.N.names.length g,.slice j S.N.ops.length k,.slice m S.N.offs.length n,.slice q S.N.lines.length r,.slice t S.N.classes.length x⟩) ((h.net.below a.below).wider (h.below a.below).lt) G) λW Y=> ?_;refine aO rfl ⟨bK,?_⟩;rw [dJ right_iff,AV,AV,AV,nP (p:=S.L.length<=24),nP (p:=0<=S.most),nP (p:=S.most<=3)];rw [show decide ((S.L.length:Int)<=24)=decide (S.L.length<=24) from decide_eq_decide.2 ZJ,Bool.and_assoc,Bool.and_assoc]
theorem PD {nv:NV} {xv:Value} (h:RTr F w nv sv rv S) (m:FewN S.N) (n:RcOK G w xv x) :
  Gives prog 58 #[.agg (x9 nv sv S.most rv).toArray,.agg (iq x xv).toArray] w λu d=>ZT w d/\u= .bool (dec (S.Right/\S.Fit x)):=by
 obtain ⟨⟨W,Y,o⟩,⟨Z,c2,p⟩,⟨A3,c3,r⟩,⟨A4,c4,t⟩,⟨A5,c5,y⟩,⟨A6,c6,z⟩⟩:=NetIn.form h.net;obtain ⟨vc,vn,vo,vf,vl,vk⟩:=nv;subst o p r t y z;have l:=h.scn;refine gw func58 ntmps58 ?_;refine nw rfl λg2 w2 b=> ?_;refine nw rfl λg3 w3 c=> ?_;have J: ¬aF (some false):=by simp [aF]
 by_cases g:S.Right
 .by_cases e:Val S.L x
  .obtain ⟨k,M⟩:=e.sc;have hl:=(ZE k).1;have O:=e.comp.s1;refine dx ?_;refine dc (cap:= []) ZK rfl (λ_ d a=>aD g ▸ wH (h.below (b.below.step (c.below.step a))) m) ?_;refine vW ?_;refine dc ZK rfl (λ_ d a=>aD e ▸ wE (l.below (b.below.step (c.below.step a))) (n.below (b.below.step (c.below.step a)))) ?_;refine vW ?_;refine dz λE H=> ?_;refine aO rfl ⟨bK,?_⟩;rw [dJ (⟨λh=>h.2.2,λh=>⟨g,e,h⟩⟩:(S.Right/\S.Fit x)↔(qm S.L x).off<(S.N.offs.length:Int)),nP];rfl
  .refine dx ?_;refine dc (cap:= []) ZK rfl (λ_ d a=>aD g ▸ wH (h.below (b.below.step (c.below.step a))) m) ?_;refine vW ?_;refine dc (cap:= []) ZK rfl (λ_ d a=>aH e ▸ wE (l.below (b.below.step (c.below.step a))) (n.below (b.below.step (c.below.step a)))) ?_;refine dz λE H=> ?_;exact aO rfl ⟨bK,by rw [aH λh:S.Right/\S.Fit x=>e h.2.1]; rfl⟩
 .refine dx ?_;refine dc (cap:= []) ZK rfl (λ_ d a=>aH g ▸ wH (h.below (b.below.step (c.below.step a))) m) ?_;refine dz λE H=> ?_;exact aO rfl ⟨bK,by rw [aH λh:S.Right/\S.Fit x=>g h.1]; rfl⟩
section
open Go.Sort
theorem Sd {l:List Int} {x:Int} (hl:SL aS F w v l) :
  Gives prog 267 #[v,ZU x] w λu m=>ZT w m/\u= .bool (decide (x∈l)):=by
 obtain ⟨A,b,rfl,_⟩:=hl.form;have h:=hl.len.2.2;refine gv func267 ntmps267 ?_;refine aB ?_;refine bT (λi:Nat=> [(0,none,.slice A l.length b),(1,none,ZU x),(5,none,ZU (i:Int))])
  (λi W=>i<=l.length/\W=w/\x ∉ l.take i) (λi=>l.length-i) 0 [0,1,5] ⟨ZJ,rfl,ZM⟩ rfl ?_
 rintro i W ⟨p,rfl,a⟩;refine aB ?_;refine aI rfl (λn=> ?_) (λo=> ?_)
 .obtain ⟨y,j,c⟩:=eP (l:=l) (k:=i) ZJ;obtain ⟨q,rfl⟩:=hl.addr ZJ;refine aB ?_;refine aG rfl (hl.getI j) ?_;refine aB ?_;refine aI rfl (λd=> ?_) (λg=> ?_)
  .refine aB ?_;refine aO rfl ⟨ZA,by rw [decide_eq_true (d ▸ c)]⟩
  .refine aB ?_;refine bH (i+1) [0,1,5] rfl ⟨ZJ,rfl,?_⟩ ZJ;rw [ZG,j];simp;exact ⟨a,λe=>g e.symm⟩
 .refine aB ?_;rw [show i=l.length by omega,List.take_length] at a;refine aO rfl ⟨ZA,by rw [decide_eq_false a]⟩
theorem Sf {l:List ByteArray} {x:ByteArray} (hl:SL eT F w v l) :
  Gives prog 266 #[v,.string x] w λu n=>ZT w n/\u= .bool (dec (x∈l)):=by
 obtain ⟨A,g,rfl,_⟩:=hl.form;have j:=hl.len.2.2;refine gv func266 ntmps266 ?_;refine aB ?_;refine bT (λi:Nat=> [(0,none,.slice A l.length g),(1,none,.string x),(5,none,ZU (i:Int))])
  (λi W=>i<=l.length/\W=w/\x ∉ l.take i) (λi=>l.length-i) 0 [0,1,5] ⟨ZJ,rfl,ZM⟩ rfl ?_
 rintro i W ⟨q,rfl,a⟩;refine aB ?_;refine aI rfl (λo=> ?_) (λp=> ?_)
 .obtain ⟨y,m,h⟩:=eP (l:=l) (k:=i) ZJ;obtain ⟨r,rfl⟩:=hl.addr ZJ;refine aB ?_;refine aG rfl (hl.getT m) ?_;refine aB ?_;refine dC [0,1,5,17] rfl ?_;refine aK rfl (λc=> ?_) (λd=> ?_)
  .have b:y=x:=by rw [xC] at c; exact of_decide_eq_true c
   refine aB ?_;refine aO rfl ⟨ZA,by rw [aD (b ▸ h)]⟩
  .have b: ¬y=x:=by rw [xC] at d; exact of_decide_eq_false d
   refine aB ?_;refine bH (i+1) [0,1,5] rfl ⟨ZJ,rfl,?_⟩ ZJ;rw [ZG,m];simp;exact ⟨a,λe=>b e.symm⟩
 .refine aB ?_;rw [show i=l.length by omega,List.take_length] at a;refine aO rfl ⟨ZA,by rw [aH a]⟩
theorem qX {n:Int} {s:List Int} (hs: ∀y∈s,n<y): ∀ {p:List Int},(∀y∈p,y<n)->insS n (p++s)=p++n::s
 | [],_=>by
  cases s with
  | nil=>rfl
  | cons y s =>
   have:=hs y ZM;simp only [List.nil_append];unfold insS
   rw [if_neg ZJ,if_neg ZJ]
 | x::p,a=>by
  have:=a x ZM;simp only [List.cons_append];unfold insS;rw [if_pos this,qX hs λy b=>a y (by simp [b])]
theorem Df {n:Int}: ∀ {l:List Int},Inc l->n∈l->insS n l=l
 | [],_,h=>by cases h
 | y::l,b,h=>by
  have a:=List.pairwise_cons.1 b;unfold insS;rcases List.mem_cons.1 h with rfl|h
  .rw [if_neg ZJ,if_pos rfl]
  .have:=a.1 n h;rw [if_pos this,Df a.2 h]
theorem Hl {l:List Int} {n:Int} (hl:SL aS F w v l) (hi:Inc l) (aq:l.length<=1000000) (hn:fF n) :
  Gives prog 265 #[v,ZU n] w λu w'=>ZT w w'/\SL aS (λk=>F k\/(w.heap.size<=k/\k<w'.heap.size)) w' u (insS n l):=by
 obtain ⟨A,aa,hv,_⟩:=hl.form;subst hv;have hI:=nE hl;have ab:=hl.len.2.2;refine gv func265 ntmps265 ?_;refine aB ?_;refine bT (λx:Nat×Value×Bool×List Int=> [(0,none,.slice A l.length aa),(1,none,ZU n),(5,none,x.2.1),(6,none,.bool x.2.2.1),(7,none,ZU (x.1:Int))])
  (λx W=>x.1<=l.length/\ZT w W/\OwnS W 3 1 x.2.1 x.2.2.2.length (x.2.2.2.map (Value.int .i64))/\(∀g,x.2.1.ownBlock=some g->w.heap.size<=g)/\x.2.2.2.length<=x.1+1 /\
   ((x.2.2.1=false/\x.2.2.2=l.take x.1/\ ∀y∈l.take x.1,y<n)\/(x.2.2.1=true/\ ∃p s,l.take x.1=p++s/\(∀y∈p,y<n)/\(∀y∈s,n<y)/\s≠ []/\x.2.2.2=p++n::s))) (λx=>l.length-x.1)
  (0,.slice none 0 0,false,[]) [0,1,5,6,7] ⟨ZB,ZA,OwnS.nil _ _ _,λg b=>(by simp [Value.ownBlock] at b),ZM,.inl ⟨rfl,ZM,ZM⟩⟩ rfl ?_
 rintro ⟨i,ov,d,o⟩ W ⟨ac,M,hO,m,ae,c⟩;dsimp only at ac M hO m ae c;have C:=hl.below M;refine aB ?_;refine aI rfl (λam=> ?_) (λan=> ?_)
 .obtain ⟨y,J,af⟩:=eP (l:=l) (k:=i) ZJ;obtain ⟨ad,rfl⟩:=C.addr ZJ;refine aB ?_;refine aG rfl (C.getI J) ?_;refine aB ?_;refine dC [0,1,5,6,7,19] rfl ?_;refine aI rfl (λao=> ?_) (λap=> ?_)
  .have a4:y=n:=ZJ;refine aB ?_;refine aO rfl ⟨M,?_⟩;rw [Df hi (a4 ▸ af)];exact C.wider λk hk=> .inl hk
  have a4:y≠n:=ZJ;refine aB ?_;refine aG rfl (C.getI J) ?_;refine aB ?_;refine dC [0,1,5,6,7,30] rfl ?_;have H:l.take (i+1)=l.take i++ [y]:=by rw [ZG,J]; rfl
  refine aK rfl (λD=> ?_) (λN=> ?_)
  .have hd:d=false/\n<y:=by
    cases d with
    | false=>simp at D; exact ⟨rfl,D⟩
    | true=>simp at D
   obtain ⟨rfl,ag⟩:=hd;obtain ⟨ho,E⟩:o=l.take i/\ ∀z∈l.take i,z<n:=by
    rcases c with ⟨_,t,I⟩|⟨h,_⟩
    .exact ⟨t,I⟩
    .cases h
   refine aB ?_;refine bI 3 _ rfl rfl rfl kC (aA rfl ct aJ) rfl rfl rfl rfl rfl ?_;rintro g2 w2 O;refine aT [ZU n] rfl rfl ji rfl (hO.below O.below) rfl rfl (λj u R=>⟨_,rfl,O.blk.fld R⟩) (λu G=>by simp at G; subst G; rfl) ZJ ZJ ?_;rintro v3 w3 S U Y;refine aB ?_;have q:=M.step O.below;have a5:ZT w w3:=q.grown U q.size m;have K: ∀g,v3.ownBlock=some g->w.heap.size<=g:=λg b=>by
    rcases Y with h|h
    .exact m g (by rw [<-h]; exact b)
    .rw [h] at b; cases b; exact q.size
   have a6:=hl.below a5;refine aG rfl (a6.getI J) ?_;refine bI 3 _ rfl rfl rfl kC (aA rfl ct aJ) rfl rfl rfl rfl rfl ?_;rintro g4 w4 Z;refine aT [ZU y] rfl rfl ji rfl (S.below Z.below) rfl rfl (λj u R=>⟨_,rfl,Z.blk.fld R⟩) (λu G=>by simp at G; subst G; rfl) ZJ ZJ ?_;rintro v5 w5 a0 a1 a2;refine aB ?_;have r:=a5.step Z.below;have al:o.length<=i:=by rw [ho,List.length_take]; omega
   refine bH (i+1,v5,true,o++n:: [y]) [0,1,5,6,7] rfl ⟨ZJ,r.grown a1 r.size K,by simpa using a0,λg b=> ?_,ZO,.inr ⟨rfl,l.take i,[y],H,E,λz B=>by simp at B; subst B; exact ag,ZM,by rw [ho]⟩⟩ ZJ;rcases a2 with h|h
   .exact K g (by rw [<-h]; exact b)
   .rw [h] at b; cases b; exact r.size
  .refine aB ?_;refine aG rfl (C.getI J) ?_;refine bI 3 _ rfl rfl rfl kC (aA rfl ct aJ) rfl rfl rfl rfl rfl ?_;rintro g4 w4 Z;refine aT [ZU y] rfl rfl ji rfl (hO.below Z.below) rfl rfl (λj u R=>⟨_,rfl,Z.blk.fld R⟩) (λu G=>by simp at G; subst G; rfl) ZJ ZJ ?_;rintro v5 w5 a0 a1 a2;refine aB ?_;have r:=M.step Z.below;refine bH (i+1,v5,d,o++ [y]) [0,1,5,6,7] rfl ⟨ZJ,r.grown a1 r.size m,by simpa using a0,λg b=> ?_,ZO,?_⟩ ZJ
   .rcases a2 with h|h
    .exact m g (by rw [<-h]; exact b)
    .rw [h] at b; cases b; exact r.size
   .rcases c with ⟨rfl,t,I⟩|⟨rfl,p,s,t,I,h3,h4,h5⟩
    .left;refine ⟨rfl,by rw [H,t],λz B=> ?_⟩;rw [H] at B;rcases ZH B with h|h
     .exact I z h
     .simp at h N;subst h;omega
    .right;refine ⟨rfl,p,s++ [y],by rw [H,t,List.append_assoc],I,λz B=> ?_,ZM,by rw [h5]; simp⟩;rcases ZH B with h|h
     .exact h3 z h
     .simp at h;subst h;obtain ⟨z0,a7⟩:=List.exists_mem_of_ne_nil s h4;have ah:z0∈l.take i:=by rw [t]; exact List.mem_append_right _ a7
      obtain ⟨a,ha,ai⟩:=List.getElem_of_mem ah;rw [List.length_take] at ha;obtain ⟨a8,aj⟩:=ZE J;have:=List.pairwise_iff_getElem.1 hi a i ZJ a8 ZJ;rw [aj] at this;rw [List.getElem_take] at ai;have:=h3 z0 a7;omega
 .have ak:i=l.length:=ZJ;subst ak;rw [List.take_length] at c;refine aB ?_;refine dC [0,1,5,6,7,43] rfl ?_;refine aK rfl (λa9=> ?_) (λa3=> ?_)
  .have hd:d=false:=by simpa using a9
   subst hd;obtain ⟨ho,E⟩:o=l/\ ∀z∈l,z<n:=by
    rcases c with ⟨_,t,I⟩|⟨h,_⟩
    .exact ⟨t,I⟩
    .cases h
   subst ho;refine aB ?_;refine bI 3 _ rfl rfl rfl kC (aA rfl ct aJ) rfl rfl rfl rfl rfl ?_;rintro g2 w2 O;refine aT [ZU n] rfl rfl ji rfl (hO.below O.below) rfl rfl (λj u R=>⟨_,rfl,O.blk.fld R⟩) (λu G=>by simp at G; subst G; rfl) ZJ ZJ ?_;rintro v3 w3 S U Y;refine aB ?_;have q:=M.step O.below;refine aO rfl ⟨q.grown U q.size m,?_⟩;have e:insS n o=o++ [n]:=by
    have:=qX (n:=n) (s:= []) (λy J=>by cases J) E;simpa using this
   rw [e];have L:OwnS w3 3 1 v3 (o++ [n]).length ((o++ [n]).map (Value.int .i64)):=by simpa using S
   exact dO L (λz B=>by
    rcases ZH B with h|h
    .exact hI z h
    .simp at h; subst h; exact hn) (λg b=> .inr ⟨by
    rcases Y with h|h
    .exact m g (by rw [<-h]; exact b)
    .rw [h] at b; cases b; exact q.size,L.lt b⟩) ZO
  .have hd:d=true:=by simpa using a3
   subst hd;obtain ⟨p,s,t,I,h3,h4,h5⟩: ∃p s,l=p++s/\(∀y∈p,y<n)/\(∀y∈s,n<y)/\s≠ []/\o=p++n::s:=by
    rcases c with ⟨h,_⟩|⟨_,h⟩
    .cases h
    .exact h
   refine aB ?_;refine aO rfl ⟨M,?_⟩;have e:insS n l=o:=by rw [t,qX h3 I,h5]
   rw [e];exact dO hO (λz B=>by
    rw [h5] at B;rcases ZH B with h|h
    .exact hI z (by rw [t]; exact List.mem_append_left _ h)
    .rcases List.mem_cons.1 h with rfl|h
     .exact hn
     .exact hI z (by rw [t]; exact List.mem_append_right _ h)) (λg b=> .inr ⟨m g b,hO.lt b⟩) ZJ
end
section
open Go.Sort
theorem UF {nv:Value} {needs:List Int} {H:Nat->Prop} (hl:SL yh G w u l) (U:RcOK F w v x) (n:Val l x) (hn:SL aS H w nv needs) :
  Gives prog 264 #[u,.agg (iq x v).toArray,nv] w λy E=>ZT w E/\y= .agg (l8 (kz l x needs) nv).toArray:=by
 obtain ⟨e,b⟩:=n.sc;have o:=U.ct;obtain ⟨W,A,p,_⟩:=o.form;subst p;obtain ⟨I,g,r,_⟩:=hn.form;subst r;obtain ⟨B,C,J,_⟩:=hl.form;subst J;have K:=(ZE e).1;obtain ⟨Y,rfl⟩:=hl.addr ZJ;have s:=hl.len.2.2;have L:=n.comp.s1;have t:((x.scn.toNat:Nat):Int)=x.scn:=ZJ;have M:=n.comp.t1;have N:=n.comp.t2;have O:=b.e1;have R:=b.e2;refine gv func264 ntmps264 ?_;refine aB ?_;refine bS rfl rfl rfl rfl ?_;rintro Z w1 m;refine gq rfl rfl tX ?_;rintro g2 w2 h;refine aB ?_;have i:=m.below.step h.below;obtain ⟨a,q1,q2,q3⟩:=SS.get (hl.below i) e;rw [t] at a;refine aG rfl ((m.blk.next h.below).fld rfl) ?_;refine aB ?_;refine fP rfl (a) ?_;refine fw rfl RF rfl is74.q rfl rfl ?_;rintro g3 w3 d;refine aB ?_;have j:=(m.blk.next h.below).next d.below;refine aG rfl (d.blk.fld rfl) ?_;refine aB ?_;refine aG rfl (j.fld rfl) ?_;refine aB ?_;refine aG rfl (d.blk.fld rfl) ?_;refine aB ?_;refine aG rfl (j.fld rfl) ?_;refine aB ?_;refine aG rfl (d.blk.fld rfl) ?_;refine aB ?_;refine jr [0,1,2,3] [.tmp 14,.tmp 19,.tmp 24,.tmp 25] [ZU (qm l x).off,ZU (x.time-(qm l x).err),ZU (x.time+(qm l x).err),.slice I needs.length g] rfl rfl rfl (aA rfl ct (aA rfl ct (aA rfl ct (aA rfl ct aJ)))) ZK ?_
 refine gI rfl rfl rfl (h.blk.next d.below) is68.q rfl rfl rfl ?_;rintro w4 z c D;refine aB ?_;have k:=i.step d.below;refine Ca results264 underlying68 (by exact is68.q) rfl (z) (⟨k.grown c k.size (λq S=>by cases S; have:=h.at_; have:=m.below.size; omega),rfl⟩)
theorem pV (e:Ev):(dE e).length=4+e.needs.length:=by simp [dE]; omega
theorem P7 {e f:Ev} (c:0<i) (h:(dE e).take i=(dE f).take i) (g:i=(dE e).length\/i=(dE f).length):e=f:=by
 have a:(dE e)[0]?=(dE f)[0]?:=by
  have:=congrArg (λz=>z[0]?) h;simpa [c] using this
 have b:e.needs.length=f.needs.length:=by simp [dE] at a; omega
 have d:(dE e).length=(dE f).length:=by rw [pV,pV,b]
 apply wW;rw [List.take_of_length_le ZJ,List.take_of_length_le ZJ] at h;exact h
theorem Fq {e f:Ev} (he:EvOK F w v e) (E:EvOK G w u f) (ae:e.needs.length<=1000000) (af:f.needs.length<=1000000) :
  Gives prog 56 #[.agg (l8 e v).toArray,.agg (l8 f u).toArray] w λx w'=>ZT w w'/\x= ZU (jO e f):=by
 obtain ⟨A,aj,hv,_⟩:=he.nd.form;subst hv;obtain ⟨B,ag,hu,_⟩:=E.nd.form;subst hu;have ah:=pV e;have ai:=pV f;have S:=nE he.nd;have U:=nE E.nd;refine gv func56 ntmps56 ?_;refine aB ?_;refine bS rfl rfl rfl rfl ?_;rintro g1 w1 f1;refine bS rfl rfl rfl rfl ?_;rintro g2 w2 Z;refine aB ?_;have h:=f1.below.step Z.below;have b:=f1.blk.next Z.below;refine aG rfl (b.fld rfl) ?_;refine aB ?_;refine aG rfl (b.fld rfl) ?_;refine aB ?_;refine aG rfl (b.fld rfl) ?_;refine aB ?_;refine aG rfl (b.fld rfl) ?_;refine bI 3 _ rfl rfl rfl kC (aA rfl ct (aA rfl ct (aA rfl ct (aA rfl ct aJ)))) rfl rfl rfl rfl rfl ?_;rintro g3 w3 o;refine aB ?_;have a0:=he.nd.below (h.step o.below);refine aG rfl ((b.next o.below).fld rfl) ?_;refine aT (e.needs.map (Value.int .i64)) rfl rfl ji rfl (aU (n:=4) o.blk rfl ZJ) rfl ZM (vK a0) (iK _) ZJ ZJ ?_;rintro v4 w4 a1 a2 ak;have al:=h.step o.below;have p:ZT w2 w4:=o.below.grown a2 o.below.size (λq hq=>by simp [Value.ownBlock] at hq; have:=o.at_; omega);have c:=Z.blk.next p;refine aB ?_;refine aG rfl (c.fld rfl) ?_;refine aB ?_;refine aG rfl (c.fld rfl) ?_;refine aB ?_;refine aG rfl (c.fld rfl) ?_;refine aB ?_;refine aG rfl (c.fld rfl) ?_
 refine bI 3 _ rfl rfl rfl kC (aA rfl ct (aA rfl ct (aA rfl ct (aA rfl ct aJ)))) rfl rfl rfl rfl rfl ?_;rintro g5 w5 D;refine aB ?_;have a3:=E.nd.below ((h.step p).step D.below);refine aG rfl ((c.next D.below).fld rfl) ?_;refine aT (f.needs.map (Value.int .i64)) rfl rfl ji rfl (aU (n:=4) D.blk rfl ZJ) rfl ZM (vK a3) (iK _) ZJ ZJ ?_;rintro v6 H a4 a5 am;refine aB ?_;refine dC [0,1,2,3,4,5,6,7] rfl ?_;have i:ZT w4 H:=D.below.grown a5 D.below.size (λq hq=>by simp [Value.ownBlock] at hq; have:=D.at_; omega);have r:=(h.step p).step i;have I: ∀(z:Ev),fF z.office->fF z.low->fF z.high->(∀y∈z.needs,fF y)->z.needs.length<=1000000-> ∀y∈dE z,fF y:=λz h1 h2 h3 h4 h5 y g=>by
  unfold dE at g;simp only [List.mem_cons] at g;rcases g with rfl|rfl|rfl|rfl|g
  .exact ⟨by show (-9223372036854775808:Int)<=_; omega,by show _<=(9223372036854775807:Int); omega⟩
  .exact h1
  .exact h2
  .exact h3
  .exact h4 y g
 have s:SI H v4 (dE e):=pM (wN (e:=3) (by rw [pV]; exact a1) (I e he.i1 he.i2 he.i3 S ae) ZJ) i;have t:SI H v6 (dE f):=wN (e:=3) (by rw [pV]; exact a4) (I f E.i1 E.i2 E.i3 U af) ZJ;obtain ⟨X,J,hX,_⟩:=s.form;subst hX;obtain ⟨Y,K,hY,_⟩:=t.form;subst hY;obtain ⟨xd,rfl⟩:=s.addr ZJ;obtain ⟨yd,rfl⟩:=t.addr ZJ;refine bT (λk:Nat=> [(5,none,.slice (some xd) (dE e).length J),(6,none,.slice (some yd) (dE f).length K),(7,none,ZU (k:Int))])
  (λk W=>k<=(dE e).length/\k<=(dE f).length/\(dE e).take k=(dE f).take k/\ZT H W) (λk=>(dE e).length-k) 0 [5,6,7] ⟨ZJ,ZJ,ZM,ZA⟩ rfl ?_
 rintro k W ⟨hk,an,d,a⟩;have L:=s.below a;have M:=t.below a;refine aB ?_;refine dC [5,6,7,43] rfl ?_;refine aK rfl (λa6=> ?_) (λN=> ?_)
 .have j:k<(dE e).length/\k<(dE f).length:=by simp at a6; omega
  obtain ⟨x,R,_⟩:=eP (l:=dE e) (k:=k) j.1;obtain ⟨y,g,_⟩:=eP (l:=dE f) (k:=k) j.2;obtain ⟨h1,a7⟩:=ZE R;obtain ⟨h2,a8⟩:=ZE g;have a9:(dE e).drop k=x::(dE e).drop (k+1):=by rw [<-a7,<-List.drop_eq_getElem_cons h1]
  have aa:(dE f).drop k=y::(dE f).drop (k+1):=by rw [<-a8,<-List.drop_eq_getElem_cons h2]
  have m:jO e f=cmpL (x::(dE e).drop (k+1)) (y::(dE f).drop (k+1)):=by unfold jO; rw [kT d,a9,aa]
  refine aB ?_;refine gV mixed ZK ?_;refine jE ?_;refine dF rfl (L.getI R) ?_;refine jE ?_;refine dF rfl (M.getI g) ?_;refine jE ?_;refine qG [5,6,7,54] rfl λw7 O=> ?_;refine aL ?_;refine aI rfl (λab=> ?_) (λac=> ?_)
  .refine aB ?_;refine aO rfl ⟨(r.step a).step O,?_⟩;rw [m];unfold cmpL;rw [if_pos ab]
  refine aB ?_;refine gV mixed ZK ?_;refine jE ?_;refine dF rfl ((L.below O).getI R) ?_;refine jE ?_;refine dF rfl ((M.below O).getI g) ?_;refine jE ?_;refine qG [5,6,7,63] rfl λw8 b8=> ?_;refine aL ?_;refine aI rfl (λad=> ?_) (λao=> ?_)
  .refine aB ?_;refine aO rfl ⟨((r.step a).step O).step b8,?_⟩;rw [m];unfold cmpL;rw [if_neg ac,if_pos ad]
  .refine aB ?_;refine bH (k+1) [5,6,7] rfl ⟨ZJ,ZJ,?_,(a.step O).step b8⟩ ZJ;rw [ZG,ZG,R,g,d,show x=y by omega]
 .have C:k=(dE e).length\/k=(dE f).length:=by simp at N; omega
  refine aB ?_;refine aO rfl ⟨r.step a,?_⟩;rw [cmpE_zero.2 (P7 ZJ d C)]
end
section
open Go.Sort
theorem IY {α:Type} {a b:List α} {k:Nat} (h:a.take k=b.take k) (c:k=a.length) (hl:a.length=b.length):a=b:=by
 rwa [List.take_of_length_le ZJ,List.take_of_length_le ZJ] at h
theorem SE.ok {ad:Addr} {n cap:Nat} {l:List Ev} (h:SL evT F w (.slice (some ad) n cap) l) {e:Ev} (m:l[i]?=some e) :
  ∃ A c,(∀j u,(l8 e (.slice A e.needs.length c))[j]?=some u->w.cell? ((ad.add ((i:Int).toNat*4)).add j)=some u)/\EvOK F w (.slice A e.needs.length c) e:=by
 obtain ⟨v,b,d,f,g,a⟩:=SE.get h m;obtain ⟨A,c,k,_⟩:=a.form;subst k;exact ⟨A,c,b,d,f,g,a⟩
theorem Je {a b:List Ev} (K:SL evT F w u a) (hb:SL evT G w v b) (L: ∀e∈a,e.needs.length<=1000000) (M: ∀e∈b,e.needs.length<=1000000) :
  Gives prog 19 #[u,v] w λx N=>ZT w N/\x= .bool (dec (a=b)):=by
 obtain ⟨A,s,Z,_⟩:=K.form;subst Z;obtain ⟨B,d,hv,_⟩:=hb.form;subst hv;have O:=K.len.2.2;refine gv func19 ntmps19 ?_;refine aB ?_;refine aI rfl (λt=> ?_) (λa0=> ?_)
 .refine aB ?_;refine aO rfl ⟨ZA,by rw [aH λe=>t (by rw [e])]⟩
 have g:a.length=b.length:=ZJ;refine aB ?_;refine bT (λk:Nat=> [(0,none,.slice A a.length s),(1,none,.slice B b.length d),(5,none,ZU (k:Int))])
  (λk W=>k<=a.length/\ZT w W/\a.take k=b.take k) (λk=>a.length-k) 0 [0,1,5] ⟨ZJ,ZA,ZM⟩ rfl ?_
 rintro k W ⟨hk,i,c⟩;have m:=K.below i;have n:=hb.below i;refine aB ?_;refine aI rfl (λa1=> ?_) (λa2=> ?_)
 .obtain ⟨x,z,C⟩:=eP (l:=a) (k:=k) ZJ;obtain ⟨y,r,D⟩:=eP (l:=b) (k:=k) ZJ;obtain ⟨ad,rfl⟩:=m.addr ZJ;obtain ⟨bd,rfl⟩:=n.addr ZJ;obtain ⟨X,xc,o,E⟩:=SE.ok m z;obtain ⟨Y,yc,p,H⟩:=SE.ok n r;refine aB ?_;refine gV mixed ZK ?_;refine jE ?_;refine jY rfl (λj v I=>o j v I) ?_;refine jE ?_;refine jY rfl (λj v I=>p j v I) ?_;refine xW (.ex (ZU (jO x y))) trivial rfl (λ_ N q=>(Fq (E.below q) (H.below q) (L x C) (M y D)).mono λu a3 h=>h) ?_;refine jE ?_;refine dF rfl (o 3 _ rfl) ?_;refine jE ?_;refine dF rfl (p 3 _ rfl) ?_;refine jE ?_;refine qG [0,1,5,41] rfl λw3 R=> ?_;refine aL ?_;refine aK rfl (λS=> ?_) (λU=> ?_)
  .refine aB ?_;refine aO rfl ⟨i.step R,?_⟩;rw [aH λe=> ?_];subst e;rw [z] at r;cases r;rw [cmpE_zero.2 rfl] at S;simp at S
  .have J:x=y:=by
    apply cmpE_zero.1;simp at U;exact U.1
   refine aB ?_;refine bH (k+1) [0,1,5] rfl ⟨ZJ,i.step R,?_⟩ ZJ;rw [ZG,ZG,z,r,c,J]
 .refine aB ?_;refine aO rfl ⟨i,by rw [aD (IY c ZJ g)]⟩
theorem Ht (hl:SL yh F w u l) (g:SR w v r) :
  Gives prog 41 #[u,v] w λx q=>ZT w q/\ ∃b,x= .bool b/\(b=true->l.length<=30/\r.length<=30):=by
 obtain ⟨A,j,s,_⟩:=hl.form;subst s;obtain ⟨B,d,t,_⟩:=g.form;subst t;have o:=g.len.2.2;refine gv func41 ntmps41 ?_;refine aB ?_;refine bT (λx:Nat×Nat=> [(0,none,.slice A l.length j),(1,none,.slice B r.length d),(5,none,ZU (x.2:Int)),(6,none,ZU (x.1:Int))])
  (λx W=>x.1<=r.length/\x.2<=x.1/\W=w) (λx=>r.length-x.1) (0,0) [0,1,5,6] ⟨ZB,ZC,rfl⟩ rfl ?_
 rintro ⟨i,n⟩ W ⟨y,z,rfl⟩;dsimp only at y z;refine aB ?_;refine aI rfl (λC=> ?_) (λD=> ?_)
 .obtain ⟨x,E,G⟩:=eP (l:=r) (k:=i) ZJ;obtain ⟨J,rfl⟩:=g.addr ZJ;obtain ⟨K,a,m⟩:=SR.get g E;obtain ⟨X,p,H,_⟩:=m.ct.form;subst H;refine aB ?_;refine aG rfl (a 2 _ rfl) ?_;refine aB ?_;refine dC [0,1,5,6,18] rfl ?_;refine aI rfl (λI=> ?_) (λI=> ?_)
  .refine aB ?_;refine aG rfl (a 5 _ rfl) ?_;refine aB ?_;refine aG rfl (a 4 _ rfl) ?_;refine aB ?_;refine dC [0,1,5,6,36] rfl ?_;refine aK rfl (λe=> ?_) (λc=> ?_)
   .refine aB ?_;refine aO rfl ⟨ZA,_,rfl,λh=>(by cases h)⟩
   .refine aB ?_;refine bH (i+1,n+1) [0,1,5,6] rfl ⟨ZJ,ZJ,rfl⟩ ZJ
  .refine aB ?_;refine aG rfl (a 5 _ rfl) ?_;refine aB ?_;refine aG rfl (a 4 _ rfl) ?_;refine aB ?_;refine dC [0,1,5,6,36] rfl ?_;refine aK rfl (λe=> ?_) (λc=> ?_)
   .refine aB ?_;refine aO rfl ⟨ZA,_,rfl,λh=>(by cases h)⟩
   .refine aB ?_;refine bH (i+1,n) [0,1,5,6] rfl ⟨ZJ,ZJ,rfl⟩ ZJ
 .refine aB ?_;refine aO rfl ⟨ZA,_,rfl,λh=> ?_⟩;simp at h;omega
end
end Go.Proofs.YtoleahhfkpkcjaaGreatDoor
namespace Go.Ord
theorem Dg {e:Ev}: ∀ {z:List Ev},SrtE z->e∈z->insE e z=z
 | [],_,h=>by cases h
 | f::z,b,h=>by
  have a:=List.pairwise_cons.1 b;unfold insE;rcases List.mem_cons.1 h with rfl|h
  .rw [cmpE_zero.2 rfl];simp
  .have c:=a.1 e h;have d:=kU e f;unfold tV at c;rw [if_neg ZJ,if_neg ZJ,Dg a.2 h]
theorem xg {e:Ev} {s:List Ev} (hs: ∀f∈s,tV e f): ∀ {p:List Ev},(∀f∈p,tV f e)->insE e (p++s)=p++e::s
 | [],_=>by
  cases s with
  | nil=>rfl
  | cons f s =>
   have:=hs f ZM;unfold tV at this;simp only [List.nil_append];unfold insE
   rw [if_pos this]
 | f::p,a=>by
  have b:=a f ZM;have d:=kU e f;unfold tV at b;simp only [List.cons_append];unfold insE;rw [if_neg ZJ,if_neg ZJ,xg hs λg c=>a g (by simp [c])]
end Go.Ord
namespace Go.PF
theorem I5 {a b e:List Value} {n m:Nat} (hn:n=a.length) (hs:s=e.length) (hm:m=b.length):splice (splice (a++b++e) (n+s) (((a++b++e).drop n).take m)) n e=a++e++b:=by
 have g:((a++b++e).drop n).take m=b:=by
  rw [List.append_assoc,hn,List.drop_left,hm,List.take_left]
 rw [g];have k:(a++b++e).length=n+s+b.length:=ZO;obtain ⟨c,d⟩: ∃c,c=(a++b++e).take (n+s):=⟨_,rfl⟩;have f:c.length=n+s:=by rw [d,List.length_take]; omega
 have h:splice (a++b++e) (n+s) b=c++b:=by
  unfold splice;rw [List.drop_eq_nil_of_le ZJ,List.append_nil,<-d]
 rw [h];unfold splice;have i:(c++b).take n=a:=by
  rw [List.take_append_of_le_length ZJ,d,List.take_take,Nat.min_eq_left ZJ,List.append_assoc,hn,List.take_left]
 have j:(c++b).drop (n+e.length)=b:=by
  rw [<-hs,<-f,List.drop_left]
 rw [i,j]
end Go.PF
namespace Go.Proofs.YtoleahhfkpkcjaaGreatDoor
open Go.Proofs.Tryz
open Go.PF Go.RowKit Go.Ord
section
open Go.Sort Go.Proofs
attribute [local irreducible] TW CW KW DW
theorem Rj {e:Ev} (h:evT.rep F w cs e):cs.all (·.oneCell')=true:=by
 obtain ⟨v,rfl,_,_,_,a⟩:=h;obtain ⟨A,c,rfl,_⟩:=a.form;rfl
theorem Ns {ps:List (List Value×Ev)} (h: ∀p∈ps,evT.rep F w p.1 p.2):(∀u∈ps.flatMap (·.1),u.oneCell'=true)/\ ∀k,((ps.take k).flatMap (·.1)).length=(ps.take k).length*4/\((ps.drop k).flatMap (·.1)).length=(ps.drop k).length*4:=by
 refine ⟨λu b=> ?_,λk=>⟨su _ 4 _ λp a=>evT.len _ _ _ _ (h p (List.mem_of_mem_take a)),su _ 4 _ λp a=>evT.len _ _ _ _ (h p (List.mem_of_mem_drop a))⟩⟩;obtain ⟨p,a,b⟩:=List.mem_flatMap.1 b;exact List.all_eq_true.1 (Rj (h p a)) u b
theorem Jd {l:List Ev} (hl:SE w v l) (b5:l.length<=1000000) (hn: ∀e∈l,e.needs.length<=1000000) :
  Gives prog 182 #[v] w λx w'=>ZT w w'/\ ∃a,RowG evT (λ_=>True) w' 68 w.heap.size x a/\a.map (·.2)=canon l:=by
 refine gw func182 ntmps182 ?_;refine ze w [0] 4 l.length (λz:Value×List (List Value×Ev)=> [(3,none,z.1)])
  (λi z W=>RowG evT (λ_=>True) W 68 w.heap.size z.1 z.2/\z.2.map (·.2)=canon (l.take i)/\z.2.length<=i) (.slice none 0 0,[]) ⟨RowG.nil,rfl,ZB⟩ (λi z W hi M N=> ?_) λz W M N=> ?_
 .obtain ⟨ov,a⟩:=z;obtain ⟨F,d,ak⟩:=N;dsimp only at F d ak;have au:=F.isl;have av:(a.map (·.2)).length=a.length:=List.length_map _;have G:SrtE (a.map (·.2)):=by rw [d]; exact kR _
  have al:=F.sl ZL;obtain ⟨e,he⟩: ∃e,l[i]?=some e:=⟨_,ZD hi⟩;have am:=ZF he;obtain ⟨_,O,nv,rfl,i1,i2,i3,hs⟩:=SL.el hl ZA he;have O: ∀j u,(l8 e nv)[j]?=some u->w.cell? (((vP v).add ((i:Int).toNat*4)).add j)=some u:=O;have an:=UT O M;have a3:EvOK _ w nv e:=⟨i1,i2,i3,hs⟩;have a4:=hn e am;have t:canon (l.take (i+1))=insE e (a.map (·.2)):=by rw [ZG,he,d]; exact D7 _ _ _
  have H: ∀ {k:Nat},0<k->k<=a.length-> ∀ {X:World},ZT W X-> ∃f I,(a.map (·.2))[k-1]?=some f/\f.needs.length<=1000000/\EvOK (λk=>(True\/w.heap.size<=k)/\k<W.heap.size) X I f/\ ∀j u,(l8 f I)[j]?=some u->X.cell? (((vP ov).add (((k:Int)-1).toNat*4)).add j)=some u:=λ{k} h0 R {X} hX=>by
   obtain ⟨f,r,a5⟩:=eP (l:=a.map (·.2)) (k:=k-1) (by rw [List.length_map]; omega);obtain ⟨_,hc,I,rfl,j1,j2,j3,hs⟩:=SL.el al hX r;rw [show ((k-1:Nat):Int)=(k:Int)-1 by omega] at hc;rw [d] at a5;exact ⟨f,I,r,hn f (List.mem_of_mem_take (mem_canon.1 a5)),⟨j1,j2,j3,hs.below hX⟩,hc⟩
  refine rn ?_;refine jb [0,3,4] (λk:Nat=> [(5,none,ZU (k:Int))]) (λk _=>k<=a.length/\(∀f∈(a.map (·.2)).drop k,tV e f)/\ ∀f,0<k->(a.map (·.2))[k-1]?=some f->jO f e<=0) (λK0 K=> ?_) λk W1 b1 N=> ?_
  .refine dA [0,3,4] (λk:Nat=> [(5,none,ZU (k:Int))]) (λk W'=>k<=a.length/\ZT W W'/\ ∀f∈(a.map (·.2)).drop k,tV e f) (λk=>k) a.length ⟨ZC,ZA,λf r=>(by rw [List.drop_of_length_le ZM] at r; cases r)⟩ ?_;rintro k W' ⟨R,S,n⟩;refine rn ?_;by_cases y:0<k
   .obtain ⟨f,I,r,U,Y,ao⟩:=H y R S;refine dx ?_;refine dc (cap:= []) ZK rfl (λ_ w' hb=>Fq (e:=f) (f:=e) (v:=I) (u:=nv) (Y.below hb) ((a3.below (M.step S)).below hb) U a4) ?_;refine dz λw2 b2=> ?_;refine aI (p:=0<jO f e) (by rw [decide_eq_true (ZJ:(0:Int)<(k:Int)),Bool.true_and]; rfl) (λh=> ?_) λh=> ?_
    .refine rn ?_;rw [show ((k:Int)-1)=((k-1:Nat):Int) by omega];refine cK (k-1) ⟨ZJ,S.step b2,λg Z=> ?_⟩;have hd:(a.map (·.2)).drop (k-1)=f::(a.map (·.2)).drop k:=by
      obtain ⟨h3,h4⟩:=ZE r;rw [List.drop_eq_getElem_cons h3,h4]
      congr 2
      omega
     rw [hd] at Z;rcases List.mem_cons.1 Z with rfl|Z
     .have:=kU g e;unfold tV;omega
     .exact n g Z
    .refine rn ?_;exact jd K k ⟨R,n,λg _ Z=>by rw [r] at Z; cases Z; omega⟩
   .have hd:decide ((0:Int)<(k:Int))=false:=decide_eq_false ZJ;have hG: ¬aF (some (decide ((0:Int)<(k:Int)))):=by rw [hd]; simp [aF]
    refine dx ?_;refine dz λw2 b2=> ?_;refine aK (b:=false) (by rw [hd]; rfl) (λh=>by cases h) λ_=> ?_;refine rn ?_;exact jd K k ⟨R,n,λg h=>absurd h y⟩
  .obtain ⟨R,n,a6⟩:=N;have J: ¬tV e e:=lz;refine jn [0,3,4,5] (λb:Bool=> [(45,none,.bool b)]) (λb _=>(b=true↔e∈a.map (·.2))/\(e ∉ a.map (·.2)-> ∀z∈(a.map (·.2)).take k,tV z e)) (λK0 K=> ?_) λb W2 b2 N=> ?_
   .by_cases y:0<k
    .obtain ⟨f,I,r,U,Y,ao⟩:=H y R b1;have aw:=a6 f y r;obtain ⟨a0,B⟩:=ZE r;have a7: ∀z∈(a.map (·.2)).take k,z=f\/tV z f:=λz hz=>by
      obtain ⟨j,hj,a1⟩:=List.getElem_of_mem hz;rw [List.length_take] at hj;rw [List.getElem_take] at a1;by_cases ap:j=k-1
      .subst ap;exact .inl (by rw [<-a1,B])
      .have:=List.pairwise_iff_getElem.1 G j (k-1) ZJ a0 ZJ;rw [a1,B] at this;exact .inr this
     have C:e∈a.map (·.2)->f=e:=λh=>by
      rw [<-List.take_append_drop k (a.map (·.2))] at h;rcases ZH h with h|h
      .rcases a7 e h with h|h
       .exact h.symm
       .have:=kU f e;unfold tV at h;omega
      .exact absurd (n e h) J
     have L:f∈a.map (·.2):=ZF r;refine dx ?_;refine dc (cap:= []) ZK rfl (λ_ w' hb=>Fq (e:=f) (f:=e) (v:=I) (u:=nv) (Y.below hb) ((a3.below (M.step b1)).below hb) U a4) ?_;refine dz λw3 b3=> ?_;refine jd K _ ⟨?_,λD z hz=> ?_⟩
     .simp only [Bool.and_eq_true,decide_eq_true_eq,cmpE_zero];exact ⟨λh=>h.2 ▸ L,λh=>⟨ZJ,C h⟩⟩
     .have B:tV f e:=by
       have h0:jO f e≠0:=λh=>D (cmpE_zero.1 h ▸ L);unfold tV;omega
      rcases a7 z hz with rfl|h
      .exact B
      .exact ul h B
    .have hd:decide ((0:Int)<(k:Int))=false:=decide_eq_false ZJ;have hG: ¬aF (some (decide ((0:Int)<(k:Int)))):=by rw [hd]; simp [aF]
     obtain rfl:k=0:=ZJ;refine dx ?_;refine dz λw3 b3=> ?_;exact jd K false ⟨⟨λh=>(by cases h),λh=>absurd (n e h) J⟩,λ_ z hz=>by cases hz⟩ (hp:=by rw [hd]; rfl)
   obtain ⟨C,a8⟩:=N;have bW:=b1.step b2;refine iG rfl (λa9=> ?_) λD=> ?_
   .exact qz (ov,a) ⟨F.step bW,by rw [t,Dg G (C.1 a9)],by dsimp only; omega⟩
   have aa:e ∉ a.map (·.2):=λh=>by rw [C.2 h] at D; cases D
   have ab:=F.step bW;have hw:=M.size;have ax:=bW.size;obtain ⟨A,c,rfl,_⟩:=hs.form;refine gg AL Gd rfl ab ⟨_,rfl,i1,i2,i3,(hs.below (M.step bW)).wider λj hj=>⟨trivial,ZJ,λq=>by have:=F.2.2 j q; omega⟩⟩ λ_ rv w6 hR b6=> ?_;clear an;obtain ⟨g6,ac,rfl,ay⟩: ∃g E,rv= .slice (some ⟨g,0,none⟩) (a.length+1) E/\a.length+1<=E:=by
    rcases hR.1.2 with ⟨_,h0⟩|⟨g,E,az,hv,_,_,h1,_⟩
    .simp at h0
    .exact ⟨g,E,by simpa using hv,by simpa using h1⟩
   have ad:=hR.2.2 g6 rfl;refine rn ?_;refine dl 10 λw7 b7=> ?_;have a2:=hR.step b7;have ae:=a2.1;have a0:=Ns a2.2.1;have aq:=Ns ab.2.1;obtain ⟨af,ag⟩:=aq.2 k;rw [List.length_take,Nat.min_eq_left R] at af;rw [List.length_drop] at ag;rw [List.length_append,List.length_singleton,List.flatMap_append,List.flatMap_singleton] at ae;refine GO (g:=g6) (o:=(k+1)*4) (p:=k*4) (m:=a.length-k) rfl rfl underlying39 is68.q rfl rfl ae (by show _=min _ _; omega) (λh=> ?_) (λh=> ?_) ZJ ZJ (λu hu=>a0.1 u (by rw [List.flatMap_append,List.flatMap_singleton]; exact hu)) ?_
   .rw [if_neg ZJ];show some (Addr.add ⟨g6,0,none⟩ _)=_;rw [dQ,show ((k:Int)+1).toNat=k+1 by omega]
   .rw [if_neg ZJ];show some (Addr.add ⟨g6,0,none⟩ _)=_;rw [dQ,show (k:Int).toNat=k by omega]
   intro w8 ar ah b0;have b8:ZT w w8:=(b6.step b7).grown ah (b6.step b7).size λq hq=>by cases hq; exact ad
   refine rn ?_;refine tH (i:=k) (m:=4) rfl is68.q rfl rfl ar ZJ rfl rfl rfl ?_;intro w9 ai aj b4;rw [<-List.take_append_drop k a,List.flatMap_append,List.take_append_drop,show (k+1)*4=k*4+4 by omega,I5 (s:=4) af.symm rfl ag.symm] at ai;refine rn ?_;refine qz (.slice (some ⟨g6,0,none⟩) (a.length+1) ac,a.take k++(l8 e (.slice A e.needs.length c),e)::a.drop k) ⟨a2.perm ?_ (ah.trans aj) λp hp=> ?_,?_,?_⟩ (hb:=b8.grown aj b8.size λq hq=>by cases hq; exact ad)
   .rw [show (a.take k++(l8 e (.slice A e.needs.length c),e)::a.drop k).length=a.length+1 by simp; omega,List.flatMap_append,List.flatMap_cons,<-List.append_assoc];exact ai
   .rcases ZH hp with h|h
    .exact List.mem_append.2 (.inl (List.mem_of_mem_take h))
    .rcases List.mem_cons.1 h with rfl|h
     .exact List.mem_append.2 (.inr (List.mem_singleton.2 rfl))
     .exact List.mem_append.2 (.inl (List.mem_of_mem_drop h))
   .have:=xg n (a8 aa);rw [List.take_append_drop] at this;rw [t,this,List.map_append,List.map_cons,List.map_take,List.map_drop]
   .simp; omega
 .obtain ⟨F,d,_⟩:=N;rw [List.take_length] at d;exact aO rfl ⟨M,_,F,d⟩
end
section
open Go.Sort Go.Proofs
attribute [local irreducible] TW CW KW DW
def om:Nat->Nat
 | 0=>1
 | d+1=>1+30*om d
theorem I1: ∀d,1<=om d
 | 0=>ZC
 | d+1=>by unfold om; omega
theorem BN {d:Nat} (h:d<=3):om d<=27931:=by
 match d,h with
 | 0,_=>decide
 | 1,_=>decide
 | 2,_=>decide
 | 3,_=>decide
theorem RY {l:List Int} (h:SL aS F w v l) (B:SL aS G w v l):SL aS (λk=>F k/\G k) w v l:=by
 obtain ⟨A,b,d,m,n,o⟩:=h;obtain ⟨C,e,a,_,_,c⟩:=B;rw [d] at a;obtain ⟨rfl,_,_⟩:=a;refine ⟨A,b,d,m,n,λi x f=> ?_⟩;obtain ⟨p,q,g,r,s,t⟩:=o i x f;obtain ⟨u,y,j,z,_,_⟩:=c i x f;rw [g] at j;cases j;exact ⟨p,q,g,⟨r,z⟩,s,t⟩
theorem UG {w':World} (h:SL rcT F w v r) (hb:ZT w w') (l:r[i]?=some x): ∃X c,RcOK F w (.slice X x.cont.length c) x/\ ∀j u,(iq x (.slice X x.cont.length c))[j]?=some u->w'.cell? (((vP v).add ((i:Int).toNat*6)).add j)=some u:=by
 obtain ⟨_,b,m,rfl,d,e,f,g,k,a⟩:=SL.el h hb l;obtain ⟨X,c,rfl,_⟩:=a.form;exact ⟨X,c,⟨d,e,f,g,k,a⟩,b⟩
theorem Jh (an:r.length<=30): ∀(d:Nat) (w:World) (c:List Nat) (a:ByteArray) (tv:Value) (E:Nat->Prop),SS w u l->SR w v r->3-c.length=d->Chn l r lab c a->SL aS E w tv (dI c) ->
  Gives prog 183 #[u,v,.string a,tv] w λx w'=>ZT w w'/\ ∃s,RowG evT (λk=>E k\/w.heap.size<=k) w' 68 w.heap.size x s/\s.length<=30*om d/\ ∀e,e∈s.map (·.2)↔Ext l r lab c e:=by
 intro d
 induction d using Nat.strongRecOn with
 | ind d ih =>
 intro w c a tv E hl hr hd b J;have ap:=b.len;have aq:(dI c).length=c.length:=oM b.nodup;have U:SL aS (λk=>E k/\k<w.heap.size) w tv (dI c):=RY J (J.now fV);have ao:=hr.bnd;have a2:om d<=27931:=BN ZJ;have ar:=I1 d;refine gw func183 ntmps183 ?_;refine ze w [0,1,2,3] 10 r.length (λz:Value×List (List Value×Ev)=> [(9,none,z.1)])
  (λi z W=>RowG evT (λk=>E k\/w.heap.size<=k) W 68 w.heap.size z.1 z.2/\z.2.length<=i*om d /\
   ∀ e,e∈z.2.map (·.2)↔ ∃t y,t<i/\r[t]?=some y/\Val l y/\((y.label=a/\e=kz l y (dI (c++ [t])))\/(a∈y.cont/\t ∉ c/\c.length<3/\Ext l r lab (c++ [t]) e))) (.slice none 0 0,[]) ⟨RowG.nil,ZB,λe=>ZM⟩ (λi z W hi L hJ=> ?_) λz W L hJ=> ?_
 .obtain ⟨ov,s⟩:=z;obtain ⟨N,H,g⟩:=hJ;dsimp only at N H g;obtain ⟨x,hx⟩: ∃x,r[i]?=some x:=⟨_,ZD hi⟩;obtain ⟨X,xc,Y,au⟩:=UG hr ZA hx;have av:s.length<=837930:=Nat.le_trans H (Nat.le_trans (Nat.mul_le_mul (ZJ:i<=30) a2) ZL);have a3:fF (i:Int):=⟨ZJ,ZJ⟩;have A: ∀ {W':World} {z:Value×List (List Value×Ev)},RowG evT (λk=>E k\/w.heap.size<=k) W' 68 w.heap.size z.1 z.2->z.2.length<=s.length+om d->(∀e,e∈z.2.map (·.2)↔e∈s.map (·.2)\/Val l x/\((x.label=a/\e=kz l x (dI (c++ [i])))\/(a∈x.cont/\i ∉ c/\c.length<3/\Ext l r lab (c++ [i]) e))) ->
    RowG evT (λk=>E k\/w.heap.size<=k) W' 68 w.heap.size z.1 z.2/\z.2.length<=(i+1)*om d /\
   ∀ e,e∈z.2.map (·.2)↔ ∃t y,t<i+1/\r[t]?=some y/\Val l y/\((y.label=a/\e=kz l y (dI (c++ [t])))\/(a∈y.cont/\t ∉ c/\c.length<3/\Ext l r lab (c++ [t]) e)):=λn G h3=>⟨n,by rw [Nat.add_mul]; omega,λe=>by
    rw [h3,g];constructor
    .rintro (⟨j,y,q1,q2⟩|q)
     .exact ⟨j,y,ZJ,q2⟩
     .exact ⟨i,x,ZJ,hx,q⟩
    .rintro ⟨j,y,q1,q2,q3⟩;rcases Nat.lt_succ_iff_lt_or_eq.1 q1 with h|rfl
     .exact .inl ⟨j,y,h,q2,q3⟩
     .rw [hx] at q2;cases q2;exact .inr q3⟩
  refine rn ?_;refine cv rfl (wE (rJ hl L) (Y.below L)) λw1 b1=> ?_;refine iG rfl (λO=> ?_) λZ=> ?_
  .have B: ¬Val l x:=λh=>by rw [aD h] at O; cases O
   exact qz (ov,s) (A (N.step b1) (by dsimp only; omega) λe=>⟨.inl,λh=>h.resolve_right λh=>B h.1⟩)
  have B:Val l x:=dec_iff.1 (by simpa using Z);have a0:=L.step b1;refine WX w [0,1,2,3,10] (λz:Value×List (List Value×Ev)=> [(9,none,z.1)]) (λz W'=>RowG evT (λk=>E k\/w.heap.size<=k) W' 68 w.heap.size z.1 z.2/\z.2.length<=s.length+1/\ ∀e,e∈z.2.map (·.2)↔e∈s.map (·.2)\/(x.label=a/\e=kz l x (dI (c++ [i])))) (λK0 K=> ?_) λz W2 b2 hJ=> ?_
  .rw [xC];refine cd rfl (λac=> ?_) λad=> ?_
   .refine XO λ_ bx=> ?_;refine XR 9 bx ?_;refine dp (cap:= []) (λy W=>SL aS (λk=>(E k/\k<w.heap.size)\/(w1.heap.size<=k/\k<W.heap.size)) W y (insS (i:Int) (dI c))) (λ_ _ _ C h=>(h.below C).wider λk p=>p.imp id λh=>⟨h.1,Nat.lt_of_lt_of_le h.2 C.size⟩) ZK rfl (λ_ w' C=>(Hl (U.below (a0.step C)) (jh c) ZJ a3).mono λu ae ⟨n,G⟩=>⟨n,G.wider λk p=>p.imp id λh=>⟨Nat.le_trans C.size h.1,h.2⟩⟩) ?_;refine Qq 41 [0,1,2,3,10,33,34,38] rfl λnv w6 b6 hn=> ?_;have o:=a0.step b6;refine cv rfl (UF (rJ hl o) (Y.below o) B hn) λw7 b7=> ?_;rw [show insS (i:Int) (dI c)=dI (c++ [i]) from (yY c i).symm] at hn ⊢;obtain ⟨M,mc,rfl,_⟩:=hn.form;refine bs (l8 (kz l x (dI (c++ [i]))) (.slice M (dI (c++ [i])).length mc)) Gd rfl λg8 w8 f8=> ?_;obtain ⟨af,R⟩:=B.sc;obtain ⟨_,_,_,ag,_⟩:=SL.of hl af;have aw:=B.comp.t1;have ax:=B.comp.t2;have ay:=R.e1;have az:=R.e2;have z1:=a0.size;have z0:=L.size;have b0:=b1.size;have z8:=(b7.step f8.below).size;have z6:=b6.size;have a4:ZT W w8:=(b1.step b6).step (b7.step f8.below)
    refine g1 AL rfl (N.step a4) f8.blk (a:=kz l x (dI (c++ [i]))) ⟨_,rfl,ag,⟨by show (-9223372036854775808:Int)<=x.time-_; omega,by show x.time-_<=(9223372036854775807:Int); omega⟩,⟨by show (-9223372036854775808:Int)<=x.time+_; omega,by show x.time+_<=(9223372036854775807:Int); omega⟩,(hn.below (b7.step f8.below)).wider λk p=> ?_⟩ (λrv w9 hR b9=> ?_) (hb:=L.step a4)
    .rcases p with ⟨n,G⟩|n
     .exact ⟨.inl n,ZJ,λe2=>by have:=N.2.2 k e2; omega⟩
     .exact ⟨.inr ZJ,ZJ,λe2=>by have:=N.1.lt e2; omega⟩
    .exact jd K (rv,_) ⟨hR,ZM,λe=>by
      simp only [List.map_append,List.map_cons,List.map_nil,List.mem_append,List.mem_singleton];exact ⟨λh=>h.imp id λh=>⟨ac,h⟩,λh=>h.imp id λh=>h.2⟩⟩
   .exact jd K (ov,s) ⟨N.step b1,by dsimp only; omega,λe=>⟨.inl,λh=>h.resolve_right λh=>ad h.1⟩⟩
  .obtain ⟨oJ,qJ⟩:=z;obtain ⟨I,ah,a1⟩:=hJ;dsimp only at I ah a1;clear b1 L;refine cg rfl (λ_=>Sf (Y.ct.below b2)) λw3 b3=> ?_;refine cg rfl (λ_=>Sd ((U.below b2).below b3)) λw4 b4=> ?_;have a5:=(b2.step b3).step b4;have a6:=(I.step b3).step b4;refine iG rfl (λa7=> ?_) λa8=> ?_
   .obtain ⟨a9,aa,ab⟩:a∈x.cont/\i ∉ c/\c.length<3:=by
     simp only [Bool.and_eq_true,decide_eq_true_eq,Bool.not_eq_true',decide_eq_false_iff_not,dec_iff] at a7;obtain ⟨⟨⟨n,G⟩,h3⟩,D⟩:=a7;exact ⟨G,λh=>h3 (mem_recI.2 ⟨i,h,rfl⟩),ZJ⟩
    refine XO λ_ bx=> ?_;refine XR 11 bx ?_;refine dp (cap:= []) (λy W=>SL aS (λk=>(E k/\k<w.heap.size)\/(w4.heap.size<=k/\k<W.heap.size)) W y (insS (i:Int) (dI c))) (λ_ _ _ C h=>(h.below C).wider λk p=>p.imp id λh=>⟨h.1,Nat.lt_of_lt_of_le h.2 C.size⟩) ZK rfl (λ_ w' C=>(Hl (U.below (a5.step C)) (jh c) ZJ a3).mono λu ae ⟨n,G⟩=>⟨n,G.wider λk p=>p.imp id λh=>⟨Nat.le_trans C.size h.1,h.2⟩⟩) ?_;refine Qq 81 [0,1,2,3,10,71,72,73,78] rfl λnv w6 b6 hn=> ?_;rw [show insS (i:Int) (dI c)=dI (c++ [i]) from (yY c i).symm] at hn;have o:=a5.step b6;refine cr rfl (ih (3-(c++ [i]).length) ZO w6 (c++ [i]) x.label nv _ (rJ hl o) (hr.step jZ o) rfl (b.snoc hx B a9 aa ab) hn) λy w7 b7 h=> ?_;obtain ⟨ai,aj,b5,ak⟩:=h;have al:om d=1+30*om (3-(c++ [i]).length):=by
     obtain ⟨m,hm⟩: ∃m,3-(c++ [i]).length=m:=⟨_,rfl⟩;have am:d=m+1:=by simp at hm; omega
     rw [hm,am];rfl
    have z2:=b2.size;have z3:=b3.size;have z4:=b4.size;have z6:=b6.size;refine ga AL rfl ((a6.step b6).step b7) aj (λk p b8=>⟨?_,λe2=> ?_⟩) (λF w cs a h=>Rj h) (λrv w9 hR b9=> ?_) (hb:=o.step b7) (hn:=by rw [al] at a2; omega)
    .rcases p with (h|h)|h
     .exact .inl h.1
     .exact .inr ZJ
     .exact .inr ZJ
    .have n:=I.2.2 k e2;have G:=I.1.lt e2;rcases p with (h|h)|h<;>omega
    .exact qz (rv,qJ++ai) (A hR ZO λe=>by
      rw [List.map_append,List.mem_append,a1,ak];exact ⟨λh=>h.elim (λh=>h.imp id λh=>⟨B,.inl h⟩) λh=> .inr ⟨B,.inr ⟨a9,aa,ab,h⟩⟩,λh=>h.elim (λh=> .inl (.inl h)) λh=>h.2.elim (λh=> .inl (.inr h)) λh=> .inr h.2.2.2⟩)
   .exact qz (oJ,qJ) (A a6 (by dsimp only; omega) λe=>by
     rw [a1];refine ⟨λh=>h.imp id λh=>⟨B,.inl h⟩,λh=>h.elim .inl λh=>h.2.elim .inr λ⟨n,G,h3,_⟩=> ?_⟩;have D: ¬(i:Int)∈dI c:=λh=>by
      obtain ⟨j,hj,ba⟩:=mem_recI.1 h;have:j=i:=ZJ;exact G (this ▸ hj)
     rw [aD n,decide_eq_true (B.man n),decide_eq_false D] at a8;simp at a8;omega)
 .obtain ⟨N,H,g⟩:=hJ;refine aO rfl ⟨L,_,N,Nat.le_trans H (Nat.mul_le_mul_right _ an),λe=> ?_⟩;rw [g e,Dw b];constructor
  .rintro ⟨j,y,_,D,h5,S|⟨S,h7,h8,h9⟩⟩
   .exact .inl ⟨j,y,D,h5,S.1,S.2⟩
   .exact .inr ⟨j,y,D,h5,S,h7,h8,h9⟩
  .rintro (⟨j,y,D,h5,S,h7⟩|⟨j,y,D,h5,S,h7,h8,h9⟩)
   .exact ⟨j,y,(ZE D).1,D,h5,.inl ⟨S,h7⟩⟩
   .exact ⟨j,y,(ZE D).1,D,h5,.inr ⟨S,h7,h8,h9⟩⟩
end
section
open Go.Sort
end
section
open Go.Sort Go.Proofs
attribute [local irreducible] TW CW KW DW
theorem Ji (hl:SS w u l) (L:SR w v r) (B:r.length<=30) :
  Gives prog 102 #[u,v,.string lab] w λx D=>ZT w D/\SE D x (bO l r lab):=by
 refine gw func102 ntmps102 ?_;refine cd rfl (λh=> ?_) λ_=> ?_
 .omega
 refine cr rfl (Jh B 3 w [] lab (.slice none 0 0) (λ_=>True) hl L rfl Chn.nil (SL.nil aS (λ_=>True) _)) λy M N h=> ?_;obtain ⟨c,F,n,d⟩:=h;have o:om 3<=27931:=BN ZJ;refine cr rfl (Jd ((F.sl ZL).wider λ_ p=>p.2) ZO λe j=> ?_) λz G O h=> ?_
 .have:=(fol_iff.2 ((d e).1 j)).len.2;omega
 obtain ⟨q,s,m⟩:=h;have g:=(s.sl ZL).wider λ_ p=>p.2;have t:canon (c.map (·.2))=canon (vE l r lab):=Kk λe=>by rw [d,mem_folL,fol_iff]
 rw [m] at g;obtain ⟨C,R,rfl,K⟩:=g.form;refine rn ?_;have A:=Er g (i:=min (canon (c.map (·.2))).length 14) ZJ;refine aO rfl ⟨bK,?_⟩;rw [show (min ((canon (c.map (·.2))).length:Int) 14).toNat=min (canon (c.map (·.2))).length 14 by omega];have j:(canon (c.map (·.2))).take (min (canon (c.map (·.2))).length 14)=bO l r lab:=by
  unfold bO;rw [t];rcases Nat.le_total 14 (canon (vE l r lab)).length with h|h
  .rw [Nat.min_eq_right h]
  .rw [Nat.min_eq_left h,List.take_length,List.take_of_length_le h]
 exact j ▸ A
end
attribute [local irreducible] TW CW KW DW
structure FewR (N:Net):Prop where
 c:N.cals.length<=10
 n:N.names.length<=10
 o:N.ops.length<=10
 f:N.offs.length<=16
 l:N.lines.length<=50
 k:N.classes.length<=8
 cal: ∀x∈N.cals,x.week.length<=20/\x.hol.length<=60
 cod: ∀x∈N.offs,x.codes.length<=30
 nam: ∀k,1<=k->k<=5-> ∀s∈dU N k,s.size<=40
theorem FewR.few (h:FewR N):FewN N:=by
 obtain ⟨a,b,c,d,e,f,_⟩:=h;exact ⟨ZJ,ZJ,ZJ,ZJ,ZJ,ZJ⟩
theorem LB {v:NV} (M:iA w v N):Gives prog 40 #[.agg v.cells.toArray] w λu O=>ZT w O/\u= .bool (dec (FewR N)):=by
 obtain ⟨R,hn,ho,y,hl,hk⟩:=id M;refine gw func40 ntmps40 ?_;refine nw rfl λg1 G S=> ?_;refine iG rfl (λm=> ?_) λg=> ?_
 .exact rF λh=>by
   obtain ⟨n,A,h3,h4,U,h6,_⟩:=h;simp at m;omega
 have a:(N.cals.length<=10/\N.names.length<=10/\N.ops.length<=10)/\N.offs.length<=16/\N.lines.length<=50/\N.classes.length<=8:=by
  simp at g;omega
 have H:FewN N:=⟨ZJ,ZJ,ZJ,ZJ,ZJ,ZJ⟩;refine BA [1] 3 N.cals.length (Seen λi=> ∀x,N.cals[i]?=some x->x.week.length<=20/\x.hol.length<=60) Seen.zero (λi W b B l=> ?_) λW B C=> ?_
 .have o:=ZD b;obtain ⟨Y,p,I,Z,rfl,q1,q2,q3⟩:=SL.el R (bK:ZT w W) o;refine rn ?_;refine cv rfl (Lv (u:=I) (v:=Z) (c:=N.cals[i]) ⟨q1,q2.below (bK:ZT w W),q3.below (bK:ZT w W)⟩) λw5 d5=> ?_;refine iG rfl (λJ=> ?_) λa=> ?_
  .exact rF λh=>by simp [h.cal _ (List.getElem_mem b)] at J
  .exact ou (l.go λz d=>by rw [o] at d; cases d; simpa using a)
 refine BA [1] 4 N.offs.length (Seen λi=> ∀x,N.offs[i]?=some x->x.codes.length<=30) Seen.zero (λi W b B l=> ?_) λW B D=> ?_
 .have o:=ZD b;obtain ⟨Y,p,I,rfl,q⟩:=SL.el y (bK:ZT w W) o;have hs:=q.2.2.2.2.2.2.isl;have a0:=p 6 _ rfl;refine rn ?_;refine cd rfl (λJ=> ?_) λa=> ?_
  .exact rF λh=>by have:=h.cod _ (List.getElem_mem b); omega
  .exact ou (l.go λz d=>by rw [o] at d; cases d; omega)
 refine dA [1] (λk:Nat=> [(5,none,ZU (k:Int))])
  (λk W'=>1<=k/\k<=6/\ZT G W'/\ ∀j,1<=j->j<k-> ∀s∈dU N j,s.size<=40) (λk=>6-k) 1 ⟨ZC,ZL,bK,λj n A=>ZJ⟩ ?_
 rintro k W2 ⟨r,a1,E,e⟩;refine rn ?_;refine cd rfl (λK=> ?_) λL=> ?_
 .have t:k<=5:=ZJ;have a2:=H.names k;refine cr rfl (H6 (bA (bA M S.below) E) H r t) λu w5 d5 hR=> ?_;have hL:=hR.sl;refine rn ?_;refine BA [1,5,6] 7 (dU N k).length (Seen λi=> ∀s,(dU N k)[i]?=some s->s.size<=40) Seen.zero (λi W3 b F l=> ?_) λW3 F l=> ?_
  .refine cd rfl (λa3=> ?_) λa4=> ?_
   .exact rF λh=>by have:=h.nam k r t _ (List.getElem_mem b); omega
   .exact ou (l.go λz d=>by rw [ZD b] at d; cases d; omega)
  .exact cK (k+1) ⟨ZJ,ZJ,bK,λj n A=>(Nat.lt_succ_iff_lt_or_eq.1 A).elim (e j n) λq=>q ▸ l.all⟩
 .exact rT ⟨a.1.1,a.1.2.1,a.1.2.2,a.2.1,a.2.2.1,a.2.2.2,C.all,D.all,λj n U=>e j n ZJ⟩
end Go.Proofs.YtoleahhfkpkcjaaGreatDoor
namespace Go.PF
open Go.RowKit
theorem XN {P:Program} {N:Nat} {E:Env} {fn:Func} {R:Value->World->Prop} {y:Nat} {t1:TypeId} {n:Nat} {x:Value} [Sr P t n] (h:(fn.results,look E s,look E y)=(#[.cell s t,.tmp y],some (none,.pointer (some ⟨g,0,none⟩)),some (none,x))) (hB:Blk w g t1 cs) (hR:R (.tuple #[.agg cs.toArray,x]) w) (hn:cs.length=n:=by rfl) :
  KW N [] (bodyPost P fn (λe w'=> ∃v,e= .returned v/\R v w') .ret) E w:=λa ha=>by
 simp only [Prod.mk.injEq] at h;obtain ⟨fs,hu⟩:=Sr.u (P:=P) (t:=t);refine bodyPost_ret ?_ ha.defers ⟨_,rfl,hR⟩;have e:=(ha.slots s none _ h.2.1).1 trivial;have e2:=(ha.slots y none _ h.2.2).1 trivial;simp only [Array.getD_eq_getD_getElem?] at e e2;have hs:(P.info? t).map (·.size)=some cs.length:=hn ▸ Sr.s;simp [results,h.1,e,e2,asAddr,je hu hs (λj v hj=>hB.fld hj)]
end Go.PF
namespace Go.Proofs.YtoleahhfkpkcjaaGreatDoor
open Go.Proofs.Tryz
open Go.PF Go.RowKit Go.Ord
attribute [local irreducible] TW CW KW DW
theorem Sm {nv:NV} {xv:Value} (h:RTr F w nv sv rv S) (C:FewN S.N) (hs:mK S.recs) (hl:S.recs.length<400) (hx:RcOK G w xv x) (hG: ∀k,G k->k<w.heap.size) :
  Gives prog 24 #[.agg (x9 nv sv S.most rv).toArray,.agg (iq x xv).toArray] w λu i=>ZT w i/\ ∃v,u= .tuple #[.agg (x9 nv sv S.most v).toArray,ZU (S.addE x)]/\RTr (λk=>(F k\/G k)\/w.heap.size<=k/\k<i.heap.size/\TyB i k 57) i nv sv v (S.add x):=by
 have hB:=h.net;obtain ⟨⟨A1,c1,l⟩,⟨A2,c2,K⟩,⟨A3,c3,e3⟩,⟨A4,c4,e4⟩,⟨A5,c5,e5⟩,⟨A6,c6,e6⟩⟩:=NetIn.form h.net;obtain ⟨vc,vn,vo,vf,vl,vk⟩:=nv;dsimp only at l K e3 e4 e5 e6;subst l K e3 e4 e5 e6;obtain ⟨A,U,rfl,_⟩:=h.scn.form;obtain ⟨B,y,rfl,_⟩:=h.recs.form;obtain ⟨X,a5,rfl,_⟩:=hx.ct.form;have b:=h.lt;refine gw func24 ntmps24 ?_;refine nw rfl λg2 w2 M=> ?_;refine nw rfl λg3 w3 O=> ?_;refine na IR λg4 w4 s=> ?_;have z:Wp (ZT w w4):=⟨M.below.step (O.below.step s.below)⟩;refine cv rfl (PD (h.below z.q) C (hx.below z.q)) λW t=> ?_;have z5:=t.size;have z4:=z.q.size;have q4:=s.at_;have a7:=s.size;have q2:=M.at_;have q3:=O.at_;have z2:=M.size;have z3:=O.size;have o: ∀ {i:World},ZT w i->S.add x=S->RTr (λk=>(F k\/G k)\/w.heap.size<=k/\k<i.heap.size/\TyB i k 57) i ⟨.slice A1 S.N.cals.length c1,.slice A2 S.N.names.length c2,.slice A3 S.N.ops.length c3,.slice A4 S.N.offs.length c4,.slice A5 S.N.lines.length c5,.slice A6 S.N.classes.length c6⟩ (.slice A S.L.length U) (.slice B S.recs.length y) (S.add x):=λp e=>by
  rw [e];exact ⟨(h.net.below p).wider λk a=> .inl (.inl a),(h.scn.below p).wider λk a=> .inl (.inl a),(h.recs.below p).wider λk a=> .inl (.inl a),λk a=>by
   have:=p.size;rcases a with (a|a)|a
   .have:=b k a; omega
   .have:=hG k a; omega
   .exact a.2.1⟩
 refine iG rfl (λm=> ?_) λd=> ?_
 .have Z: ¬(S.Right/\S.Fit x):=λC=>by rw [aD C] at m; simp at m
  have l:S.addE x=1:=by unfold TrS.addE; rw [if_neg Z]
  refine sb rfl (s.blk.next t) (λD a0 a1 a8=> ?_);have p:ZT w D:=But.below (z.q.step t) a1 ZJ;exact XN rfl a0 ⟨p,_,by rw [l],o p (by unfold TrS.add; rw [l,if_neg ZL])⟩
 have E:S.Right/\S.Fit x:=Classical.byContradiction λC=>by rw [aH C] at d; simp at d
 have l:S.addE x=0:=by unfold TrS.addE; rw [if_pos E,if_pos (.inr hl)]
 have K:S.add x=S.put x:=by unfold TrS.add; rw [l,if_pos rfl]
 have j:Wp (ZT w W):=⟨z.q.step t⟩;have a2: ∀k,F k\/G k->k<W.heap.size:=λk a=>by
  have:=j.q.size;rcases a with a|a
  .have:=b k a; omega
  .have:=hG k a; omega
 have c:=hx.below j.q;refine cr rfl (Ff (F:=λk=>F k\/G k) ((h.recs.below j.q).wider λk a=> .inl a) ⟨c.i1,c.i2,c.i3,c.i4,c.lb,c.ct.wider λk a=> .inr a⟩ hs ZJ a2) λu D R hu=> ?_;obtain ⟨Y,yc,rfl,_⟩:=hu.form;have a6:(eY S.recs x).length<=400:=by
  unfold eY
  split
  .omega
  .unfold ky;rw [List.length_append,List.length_cons,List.length_take,List.length_drop];have:=(j6 S.recs x).le;omega
 refine rn ?_;refine cd rfl (λH=> ?_) λa9=> ?_
 .exact absurd H ZJ
 have z6:=R.size;have B2:=M.blk.next (O.below.step (s.below.step (t.step R)));have B4:=s.blk.next (t.step R);refine sf rfl B2 (λw7 aa r ab=> ?_) (hj:=by show 8<9; decide);have a3:=r.blk B4 ZJ;refine sb rfl a3 (λw8 a4 I ac=> ?_);have J:ZT w D:=j.q.step R;have g:ZT w w8:=But.below (But.below J r ZJ) I ZJ;have n: ∀k,F k\/G k->k<w.heap.size:=λk a=>a.elim (b k) (hG k);have k8: ∀k,k<w.heap.size\/W.heap.size<=k->k<D.heap.size->w8.heap[k]?=D.heap[k]?:=λk a b=>(I.block k ZJ (λe=>by cases e; omega)).trans (r.block k b (λe=>by cases e; omega));rw [l,K];refine XN rfl a4 ⟨g,_,rfl,(h.net.below g).wider λk a=> .inl (.inl a),(h.scn.below g).wider λk a=> .inl (.inl a),((hu.mono (Kept.of_blocks λk a b=>k8 k (a.imp (n k) λh=>h.1) b)).wider λk a=>a.imp id λa=>⟨ZJ,ZJ,a.2.2.next (k8 k (.inr a.1) a.2.1)⟩),λk a=> ?_⟩;rcases a with a|a
 .have:=n k a;omega
 .exact a.2.1
end Go.Proofs.YtoleahhfkpkcjaaGreatDoor
namespace Go.PF
open Go.RowKit
section
section
variable {P:Program} {r:Option Nat} {Q:Exit->Act->World->Prop} {N:Nat} {ds:List Deferred} {ops rest:List Oper} {D:DE} {w:World} {G:Option Bool} {Fin:DE->Prop}
variable {d:Option Tmp} {ty:TypeId} {pos:String} {af:Array Edge} {gu:Option (Nat×Bool)} {x:Operand}
theorem Free.grow (hm: ∀v w f,ZT w f->φ v w->φ v f) {w w2:World} (h:φ v w) (l:Free φ v w g) (hb:w.grownBy w2 (some g)):φ v w2:=by
 rcases ZI g w.heap.size with c|i
 .have j:g<w2.heap.size:=by have:=hb.size; omega
  refine hm v {w with heap:=w.heap.setIfInBounds g w2.heap[g]} w2 ⟨hb.os,hb.tape,hb.output,by simpa using hb.size,λk b=> ?_⟩ (l _ ⟨rfl,rfl,rfl,ZM,λk b d=> ?_⟩ ZM)
  .simp at b;by_cases a:k=g
   .subst a;simp [c]
   .have:g≠k:=λe=>a e.symm;simp only [Array.getElem?_setIfInBounds_ne this];exact hb.block k b (λe=>by cases e; exact a rfl)
  .have:g≠k:=λe=>d (by rw [e]);simp [Array.getElem?_setIfInBounds_ne this]
 .exact hm v w w2 ⟨hb.os,hb.tape,hb.output,hb.size,λk b=>hb.block k b (λe=>by cases e; omega)⟩ h
def Apart (D:DE) (a:Act) (w:World):Prop:= ∀i j φ S ψ T,i≠j->bR D i=some (none,.own φ S)->bR D j=some (none,.own ψ T)-> ∀g,Free φ (a.tmps.getD i undef) w g\/Free ψ (a.tmps.getD j undef) w g
theorem OA {E:Env} {W:World} (t:Nat) (z:fU ops=true) (a9:iL ops s t=true) (F:Nat.ble s t=true) (H:Nat.ble t ops.length=true) (hb:ZT w W)
  (h:DW P N ds .free ops w (λD=> ∀a O,ZT w O->FitD N ds D a O->Apart D a O->RK P r Q ops t a O) (bN ops s t) (lift E)):RW P r Q N ds ops s E W:=by
 have F:=Nat.le_of_ble_eq_true F;have H:=Nat.le_of_ble_eq_true H;intro a ha b q I m J;obtain ⟨n,hl,hF,u⟩:=rC 0 h;have R:n.length=t-s:=by rw [hl]; unfold bN; simp; omega
 have K: ∀ {j:Nat} {L:Lay},n[j]?=some L->j<t-s:=λhg=>by rw [<-R]; exact (ZE hg).1
 have y: ∀ {k:Nat} {o:Oper},k<t-s->((bN ops s t)[k]?=some o↔ops[s+k]?=some o):=λl=>by rw [fH,if_pos l]
 have h0: ∀i c e,bR (lift E) i=some (c,e)-> ∃v,e= .ex v/\nD c e (a.tmps.getD i undef) w:=by
  intro i c e C;rw [jM] at C
  cases f:look E i with
  | none=>rw [f] at C; cases C
  | some p =>
   rw [f] at C;obtain ⟨rfl,rfl⟩:=C;exact ⟨_,rfl,ha.slots i p.1 p.2 f⟩
 refine lG (N:=N) (ds:=ds) (w0:=w) (a0:=a) (ges:=n) (Ri w) z a9 F H R ?_ (λi j o o' _ _ _ _ h _=>by cases h) (λ_ _ _ _ _ h=>by cases h) h0 ?_ q b a W I ?_ ?_
 .intro i o G e E Y hg;exact u i o G e E ((y (K hg)).2 Y) hg
 .intro q b a O I m J aa _ _ hI Z;refine hF a O aa Z ?_ b q I m J;intro i j φ S ψ T ab Y hj g;have a6: ∀ {i:Nat} {χ:Value->World->Prop} {U:Value->Nat->Prop},bR (fT (lift E) (bN ops s t) n) i=some (none,.own χ U)-> ∃k o E,ops[s+k]?=some o/\o.dst=some i/\n[k]?=some (none,.own χ U,E)/\b.getD (s+k) false=true/\ ¬jl n s b i:=by
   intro i χ U Y;rcases gG _ _ _ Y with ⟨k,o,G,e,E,l,a7,hd,hx,A⟩|⟨h1,_⟩
   .cases hx;have ac:=K a7;have l:=(y ac).1 l;refine ⟨k,o,E,l,hd,a7,by rw [m _ ZJ]; simp; omega,?_⟩;rintro ⟨j,G',e',E',q1,q2,_⟩;have hj:=K q1;obtain ⟨oj,a8⟩: ∃oj,ops[s+j]?=some oj:=⟨_,ZD ZJ⟩;obtain ⟨c,χ',U',q3⟩:=(u j oj G' e' E' ((y hj).2 a8) q1).2.2.2.2.2.1 i q2;rcases gG _ _ _ q3 with ⟨k2,o2,G2,e2,E2,M,r2,r3,_,_⟩|⟨M,_⟩
    .have ad:k2<j:=by have:=(ZE M).1; simp at this; omega
     rw [List.getElem?_take_of_lt ad] at M;have M:=(y ZJ).1 M;have:k2=k:=by
      rcases ((dH z l M).2 i r3).1 with h|h
      .omega
      .exact absurd hd h
     exact A j oj G' e' E' ZJ ((y hj).2 a8) q1 q2
    .obtain ⟨v,hv,_⟩:=h0 _ _ _ M;cases hv
   .obtain ⟨v,hv,_⟩:=h0 _ _ _ h1;cases hv
  obtain ⟨k,o,E1,a1,a2,a3,a4,a5⟩:=a6 Y;obtain ⟨k',o',E2,b1,b2,b3,b4,b5⟩:=a6 hj;apply Classical.byContradiction;intro A;refine hI.apart k o i none _ E1 k' o' j none _ E2 a1 a2 a3 a4 a5 trivial b1 b2 b3 b4 b5 trivial (λe=> ?_) g (λh=>A (.inl h)) λh=>A (.inr h);subst e;rw [a1] at b1; cases b1;rw [a2] at b2; cases b2;exact ab rfl
 .refine Nat.le_trans ?_ J;have:(List.range ops.length).filter (λk=> !b.getD k false)=(List.range ops.length).filter (λk=>decide (s<=k)):=by
   refine List.filter_congr λk l=> ?_;rw [m k (by simpa using l)];by_cases h1:k<s<;>simp [h1]<;>omega
  rw [this,show ops.length=s+(ops.length-s) by omega,List.range_add,List.filter_append];simp;rw [List.filter_eq_nil_iff.2 (by intro x hx; simp at hx; simp; omega)];refine Nat.le_trans (Nat.add_le_add_left (List.length_filter_le _ _) _) ?_;simp
 .have B: ∀k,s<=k->b.getD k false=false:=by
   intro k l;rcases ZI k ops.length with h|h
   .rw [m k h]; simp; omega
   .simp [Array.getElem?_eq_none (show b.size<=k by omega)]
  refine ⟨hb,(λk o _ _ h=>by cases h),trivial,(λk o _ _ _ _ _ h=>by cases h),ha.size,ha.defers,λk l=>by rw [m k ZJ]; simp [l],λk l=>B k ZJ,?_,?_,λ_ _ _ _ _ _ _=>rfl,λ_ _=>rfl,?_⟩
  .intro k o d G e E l _ _ f;rw [B _ ZJ] at f; cases f
  .intro k o d G e E k' o' d' G' e' E' l _ _ f;rw [B _ ZJ] at f; cases f
  .intro k o l f e C ae;have af:k<s:=by
    rcases ZI k s with h|h
    .exact h
    .rw [B k h] at f; cases f
   have ag:=(dH z l l).1 e C ae;rw [m e.on ZJ];simp; omega
theorem Yo {f:Operand} {k:FuncId} {cap:List Value} {cf:Option Bool} {xs:List Operand} {vs:List Value} {cs:List (Option Bool)} {ts:Array TypeId} (φ:Value->World->Prop) (hm: ∀v w w',ZT w w'->φ v w->φ v w') (he:enters P k=true)
  (h:(fD ops D gu,aC N d,dev D f,vF D xs)=(some G,true,some (cf,.ex (.func (.func k) #[] cap.toArray)),some (cs,vs)))
  (hc:aF G-> ∀w',ZT w w'->Gives P k (vs++cap).toArray w' λu w''=>ZT w' w''/\φ u w''/\ ∀g,g<w'.heap.size->Free φ u w'' g) (next:q)
  (jf:aF G->aF cf:=by first|exact ct|exact id|exact cZ|(simp_all [aF]; done)) (hi:uF G cs:=by first|exact ⟨ct,trivial⟩|exact ⟨ct,ct,trivial⟩|(repeat (first|exact trivial|(apply And.intro; (first|exact ct|exact id|exact cZ|(simp_all [aF]; done))))))
  (imp:Wp q->DW P N ds .free ops w Fin rest (bE D d G (.own φ λ_ _=>False)):=by exact λh=>Hz h):DW P N ds .free ops w Fin (⟨d,.call ⟨.value f,xs.toArray,ts⟩,ty,pos,af,gu⟩::rest) D:=by
 simp only [Prod.mk.injEq] at h;refine ⟨G,.own φ λ_ _=>False,[],⟨h.1,h.2.1,rfl,hm,rfl,λs hs=>by simp at hs,λhG a w' hb ha=> .inr ⟨_,_,lK he (ha.eval h.2.2.1 ZP (jf hG)) (jm ha hG (λt ht=>bB (by simp [Op.operands,Call.operands,ht])) h.2.2.2 hi),(hc hG w' hb).mono λv w'' ⟨h1,h2,h3⟩=>⟨h1,h2,λg hg=> .inr (Nat.le_of_not_lt λh=>hg (h3 g h))⟩⟩⟩,by rw [fq]; exact imp ⟨next⟩⟩
theorem Yp {S:Value->Nat->Prop} {cx:Option Bool} (ψ:Value->World->Prop) (hm: ∀v w w',ZT w w'->ψ v w->ψ v w') (hg:(fD ops D gu,aC N d,bR D s)=(some G,true,some (cx,.own φ S))) (ix:aF G->aF cx)
  (h: ∀u w,φ u w-> ∃cs,P.built t [(i,u)]=some (List.toArray cs)/\ψ (.agg cs.toArray) w/\ ∀g,Free φ u w g->Free ψ (.agg cs.toArray) w g) (next:q)
  (hso:tZ ops ⟨d,.build t #[(i,.tmp s)],ty,pos,af,gu⟩ [s]=true:=by rfl)
  (imp:Wp q->DW P N ds .free ops w Fin rest (bE (iy D [s]) d G (.own ψ λ_ _=>False)):=by exact λh=>Hz h):DW P N ds .free ops w Fin (⟨d,.build t #[(i,.tmp s)],ty,pos,af,gu⟩::rest) D:=by
 simp only [Prod.mk.injEq] at hg;refine ⟨G,.own ψ λ_ _=>False,[s],⟨hg.1,hg.2.1,rfl,hm,hso,λx hx=>⟨cx,φ,S,by simp at hx; subst hx; exact hg.2.2⟩,λhG a w' hb ha=> .inl ?_⟩,imp ⟨next⟩⟩;have h1:=(ha.slots s (bB ZQ) cx _ hg.2.2).1 (ix hG);obtain ⟨cs,h2,h3,h4⟩:=h _ _ h1;exact ⟨_,w',vR (is:= [i]) (xs:= [.tmp s]) rfl rfl h2,ZA,h3,λg hg'=> .inl ⟨s,cx,_,by simp [oP],hg.2.2,ix hG,λhf=>hg' (h4 g hf)⟩⟩
theorem KG {w0 w:World} (h:Blk w g t cs): ¬Free (Made w0 t cs) (.pointer (some ⟨g,0,none⟩)) w g:=λd=>by
 have a:=h.lt;obtain ⟨f,e,_,c⟩:=d {w with heap:=w.heap.setIfInBounds g (.cells #[] (t+1))} ⟨rfl,rfl,rfl,ZM,λk i b=>by
  have:g≠k:=λe=>b (by rw [e]);simp [Array.getElem?_setIfInBounds_ne this]⟩ ZM
 cases e;unfold Blk at c;simp [a] at c
theorem Yq (hz:zeroCells P t=some cs) (next:q) (hd:aC N d=true:=by rfl)
  (imp:Wp q->DW P N ds .free ops w Fin rest (bE D d none (.own (Made w t cs) λ_ _=>False)):=by exact λh=>Hz h):DW P N ds .free ops w Fin (⟨d,.alloc t,ty,pos,af,none⟩::rest) D:=by
 refine ⟨none,.own (Made w t cs) λ_ _=>False,[],⟨rfl,hd,rfl,Made.mono w t cs,rfl,λs hs=>by simp at hs,λhG a w' hb ha=> .inl ?_⟩,by rw [fq]; exact imp ⟨next⟩⟩;refine ⟨.pointer (some ⟨w'.heap.size,0,none⟩),w'.alloc (.cells cs.toArray t),?_,ii w' _,⟨w'.heap.size,rfl,hb.size,Blk.new w' t cs⟩,λg hg=> .inr (Nat.le_of_not_lt λhlt=>hg λw2 h2 _=>⟨w'.heap.size,rfl,hb.size,(h2.block _ (Blk.new w' t cs).lt (λe=>by cases e; omega)).trans (Blk.new w' t cs)⟩)⟩;unfold zeroCells at hz
 cases hi:P.info? t with
 | none=>simp [hi] at hz
 | some i =>
  cases hzz:i.zero with
  | none=>simp [hi,hzz] at hz
  | some zv =>
   simp [hi,hzz] at hz;simp [execOp,Instr.alloc,zeroValue,typeInfo,hi,hzz,Go.newVar,newRow,<-hz]
theorem Yn (t:Nat) {id:Nat} {E:Env} [Mx P] (next:q) (hlex:fU ops=true:=by kernel_rfl) (hcut:iL ops 0 t=true:=by kernel_rfl) (htl:Nat.ble t ops.length=true:=by rfl)
  (imp:Wp q->DW P N ds .free ops w (λD=> ∀a w',ZT w w'->FitD N ds D a w'->Apart D a w'->RK P r Q ops t a w') (bN ops 0 t) (lift E):=by exact λh=>Hz h):CW P r Q N ds (.region id ops.toArray true) E w :=
 dP Mx.q λW hb=>OA t hlex hcut (by cases t<;>rfl) htl hb (imp ⟨next⟩)
theorem dfe {t:Nat} (i j:Nat) {o:Oper} {ψ:Value->World->Prop} {S T:Value->Nat->Prop} {E':Env} (ks:List Nat) (hs:(bR D i,bR D j,Nat.beq i j)=(some (none,.own φ S),some (none,.own ψ T),false))
  (next: ∀u v w',ZT w w'->φ u w'->ψ v w'->(∀g,Free φ u w' g\/Free ψ v w' g)->TW P r (Exit.then (RK P r Q ops (t+1)) Q) N ds ops [o] ((i,none,u)::(j,none,v)::E') w')
  (hp:lH D ks=some E':=by rfl) (ho:ops[t]?=some o:=by rfl) (hlex:fU ops=true:=by kernel_rfl) (hcut:iL ops t (t+1)=true:=by kernel_rfl) :
  DW P N ds .free ops w (λD=> ∀a w',ZT w w'->FitD N ds D a w'->Apart D a w'->RK P r Q ops t a w') [] D:=by
 simp only [Prod.mk.injEq] at hs;refine gJ λa w' hb ha hap=> ?_;refine gy (eu hlex hcut ho (next _ _ w' hb ((ha.slots i none _ hs.1).1 trivial) ((ha.slots j none _ hs.2.1).1 trivial) (hap i j φ S ψ T (λe=>by subst e; rw [ig] at hs; exact absurd hs.2.2 ZL) hs.1 hs.2.1))) a ⟨ha.size,ha.defers,λk c v hl=> ?_⟩;simp only [look] at hl
 cases h1:Nat.beq i k with
 | true =>
  rw [h1] at hl;cases hl;rw [<-Nat.eq_of_beq_eq_true h1]
  exact ⟨λ_=>rfl,λh=>absurd trivial h⟩
 | false =>
  rw [h1] at hl
  cases h2:Nat.beq j k with
  | true =>
   rw [h2] at hl;cases hl;rw [<-Nat.eq_of_beq_eq_true h2]
   exact ⟨λ_=>rfl,λh=>absurd trivial h⟩
  | false =>
   rw [h2] at hl;exact (ha.pick hp).slots k c v hl
end
end
theorem DS.extract {P:Program} {N:Nat} {ds:List Deferred} {ops rest:List Oper} {D:DE} {w:World} {g:Nat} {bt:TypeId} {cs:List Value} {G:Option Bool} {Fin:DE->Prop} {d:Option Tmp} {ty:TypeId} {pos:String} {af:Array Edge} {gu:Option (Nat×Bool)} {x:Operand} {cx:Option Bool} {vs:Array Value} {v:Value} {i:Nat} (c:fD ops D gu=some G) (e:aC N d=true) (f:dev D x=some (cx,.ex (.tuple vs))) (h:aF G->aF cx) (j:vs[i]?=some v)
  (next:DS P N ds ops w g bt cs Fin rest (bE D d G (.ex v))):DS P N ds ops w g bt cs Fin (⟨d,.extract x i,ty,pos,af,gu⟩::rest) D :=
 DS.val rfl c e rfl (λa _ _ _ b=>uA j (b.eval f ZQ (h a))) next
end Go.PF
namespace Go.Proofs.YtoleahhfkpkcjaaGreatDoor
open Go.Proofs.Tryz
open Go.PF Go.RowKit Go.Ord
attribute [local irreducible] TW CW KW DW
theorem Yc:(prog.info? 101).bind (·.zero)=some (.agg #[.slice none 0 0,.slice none 0 0,ZU 0]):=ZK
theorem xF {I:Nat->Prop} {p gm:Nat} {lv:Value} {nv:NV} {dv:Value} {m:List (ByteArray×Value)} {ps:List (List Value×Rc)} {s:ByteArray} (ht:TabI w) (h:TrO I w p gm lv nv sv dv m ps S) :
  Gives prog 47 #[.pointer (some ⟨p,0,none⟩),.string s] w λu w'=>w.grownBy w' (some gm)/\ ∃y O,u= .agg (List.toArray y)/\TrO (λk=>I k\/w.heap.size<=k/\k<w'.heap.size) w' p gm lv nv sv dv O ps S/\RepA (λk=>I k\/w.heap.size<=k/\k<w'.heap.size) w' y (S.ans s):=by
 have a6:prog.underlying 89=some (.map 9 101):=underlying89;have hB:=h.blk;have an:=h.sr;have a7:=h.scn;have hd:=h.dst;obtain ⟨A,ao,rfl,_⟩:=hd.form;obtain ⟨B,a8,rfl,_⟩:=a7.form;refine gw func47 ntmps47 ?_;refine na qw λg4 w4 f4=> ?_;have q4:=f4.at_;have z4:=f4.size;refine GL sK s rfl rfl a6 Yc rfl rfl (h.map.below f4.below) (λba=> ?_) λv hv=> ?_;rotate_left 1
 .obtain ⟨y,e,hA⟩:=h.ans _ hv;dsimp only at e;subst e;obtain ⟨x1,x2,x3,a0,a9⟩:=hA.ansV;have a0:y= [x1,x2,x3]:=by cases a0; rfl
  subst a0;refine rn ?_;refine Go.PF.nv qw rfl (λg5 w5 J=> ?_) (h1:=a9);have q5:=J.at_;have z5:=J.size;refine cT rfl ?_;refine sb rfl (f4.blk.next J.below) (λw6 ap aq bb=> ?_) (h1:=a9);have c:ZT w w6:=But.below (f4.below.step J.below) aq ZJ;have ar:=(hA.mono (Kept.of_below c)).wider λk a=>(.inl a:I k\/w.heap.size<=k/\k<w6.heap.size);exact rc rfl ap ⟨GB.of_below c,_,m,rfl,h.put (GB.of_below c) (h.map.below c) λq hq=>by
   obtain ⟨y,e,h'⟩:=h.ans q hq;exact ⟨y,e,(h'.mono (Kept.of_below c)).wider λk a=> .inl a⟩,ar⟩
 refine rn ?_;refine Go.PF.nv qw rfl λg5 w5 J=> ?_;have q5:=J.at_;have z5:=J.size;refine cF rfl ?_;obtain ⟨E,hE⟩: ∃E,E=bO S.L S.recs s:=⟨_,rfl⟩;have b5:ZT w w5:=f4.below.step J.below;refine Yn 13 ?_;refine Yo (cap:= []) (λx W=>SL evT (λk=>w5.heap.size<=k/\k<W.heap.size) W x E) (λv w1 w2 c h=>(h.below c).wider λk a=>⟨a.1,Nat.lt_of_lt_of_le a.2 c.size⟩) ZK rfl (λ_ w' o=>(Dy ((a7.below (b5.step o)).wider λk a=>by have:=(h.hI k a).1; have:=o.size; omega) (an.step jZ (b5.step o)) h.ok.few (ht.below (b5.step o))).mono λx bc ⟨K,h2⟩=>⟨K,hE ▸ h2.wider λk a=>⟨by have:=o.size; omega,a.2⟩,λg hg w2 h3 h4=> ?_⟩) ?_
 .exact (hE ▸ h2.mono (Kept.of_blocks λk a i=>h3.block k i λe=>by cases e; omega)).wider λk a=>by have:=o.size; omega
 refine Yp (λx W=> ∃R,x= .agg (List.toArray [R,.slice none 0 0,ZU 0])/\SL evT (λk=>w5.heap.size<=k/\k<W.heap.size) W R E) (λv w1 w2 c ⟨R,e,h⟩=>⟨R,e,(h.below c).wider λk a=>⟨a.1,Nat.lt_of_lt_of_le a.2 c.size⟩⟩) rfl id (λu W K=> ?_) ?_
 .obtain ⟨X,xc,rfl,_⟩:=SL.form (T:=evT) (F:=λk=>w5.heap.size<=k/\k<W.heap.size) (w:=W) (l:=E) K;exact ⟨[.slice X E.length xc,.slice none 0 0,ZU 0],ZK,⟨_,rfl,K⟩,λg hf w2 h3 h4=>⟨_,rfl,hf w2 h3 h4⟩⟩
 refine Yq qw ?_;refine dfe 30 7 [0,1,4] rfl λbd v7 w6 b6 aa ab au=> ?_;obtain ⟨R,rfl,ac⟩:=aa;obtain ⟨g7,rfl,be,M⟩:=ab;obtain ⟨X,xc,rfl,_⟩:=ac.form;have z6:=b6.size;refine sb rfl M (λw7 ad a1 ab=> ?_);have c7:ZT w w7:=But.below (b5.step b6) a1 ZJ;have av:=(au g7).resolve_right (KG M);have U: ∀W,w6.grownBy W (some g7)->SL evT (λk=>w5.heap.size<=k/\k<W.heap.size) W (.slice X E.length xc) E:=λW K=>by
  obtain ⟨R,e,h3⟩:=Free.grow (λv w1 w2 c ⟨R,e,h⟩=>⟨R,e,(h.below c).wider λk a=>⟨a.1,Nat.lt_of_lt_of_le a.2 c.size⟩⟩) ⟨_,rfl,ac⟩ av K;cases e;exact h3
 refine dl 12 λw8 b8=> ?_;have bf:=a1.size;have bg:=b8.size;have g8:w6.grownBy w8 (some g7):=a1.trans (GB.of_below b8);refine cr rfl (vZ ((hd.below (c7.step b8)).wider λk a=>by have:=(h.hI k a).1; have:=c7.size; omega) ((U w8 g8).wider λk a=>a.2) λe he=>by have:=jL e (hE ▸ he); omega) λu w9 b9 e=> ?_;obtain ⟨wv,rfl,ae⟩:=e;obtain ⟨Y,vc,rfl,_⟩:=ae.form;refine nX g7 101 [.slice X E.length xc,.slice Y (aQ (dV S.N) E S.most).length vc,ZU 0] 18 ZK ZK ZK rfl rfl ZA ?_;refine DS.extract (v:= .slice Y (aQ (dV S.N) E S.most).length vc) rfl rfl rfl ct rfl ?_;refine DS.extract (v:= ZU (bU (dV S.N) E S.most)) rfl rfl rfl ct rfl ?_;refine DS.fieldAddr rfl rfl if101_1.q rfl ct ?_;refine DS.store rfl is40.q rfl rfl ((ad.next b8).next b9) ZM rfl rfl ?_;refine DS.nil (DS.fin [0,1,4,7,46] _ rfl λaw z af=>gy ?_);refine rn ?_;refine sf rfl af (λd ag Z az=> ?_);have ax:w6.grownBy aw (some g7):=(g8.trans (GB.of_below b9)).trans z;have a2:w6.grownBy d (some g7):=ax.trans Z;have a3:=U d a2;have C:ZT w d:=(b5.step b6).grown a2 ZJ (λk a=>by cases a; omega);have bh:=b9.size;have b0:=z.size
 have a4:SL (sliceT aS) (λk=>w8.heap.size<=k/\k<w9.heap.size) d (.slice Y (aQ (dV S.N) E S.most).length vc) (aQ (dV S.N) E S.most):=(ae.mono (Kept.of_blocks λk a i=>z.block k i λe=>by cases e; have:=M.lt; omega)).mono (Kept.of_blocks λk a i=>Z.block k i λe=>by cases e; have:=M.lt; omega);have ah:RepA (λk=>w5.heap.size<=k/\k<d.heap.size) d [.slice X E.length xc,.slice Y (aQ (dV S.N) E S.most).length vc,ZU (bU (dV S.N) E S.most)] (S.ans s):=by
  rw [hE] at *;exact ⟨_,_,rfl,a3,a4.wider λk a=>ZJ⟩
 have bi:=h.map.lt;have ai: ∀ {j b:World} {O:List (ByteArray×Value)},w.grownBy j (some gm)->d.heap.size<=j.heap.size->(∀k,w.heap.size<=k->k<d.heap.size->j.heap[k]?=d.heap[k]?)->MapL sK j gm O->(∀q∈O,q=(s,.agg (List.toArray [.slice X E.length xc,.slice Y (aQ (dV S.N) E S.most).length vc,ZU (bU (dV S.N) E S.most)]))\/q∈m)->But g4 j b ->
   w.grownBy b (some gm)/\ ∃y O,(Value.agg (List.toArray [.slice X E.length xc,.slice Y (aQ (dV S.N) E S.most).length vc,ZU (bU (dV S.N) E S.most)]))= .agg (List.toArray y)/\TrO (λk=>I k\/w.heap.size<=k/\k<b.heap.size) b p gm lv nv (.slice B S.L.length a8) (.slice A (dV S.N).length ao) O ps S/\RepA (λk=>I k\/w.heap.size<=k/\k<b.heap.size) b y (S.ans s):=by
  intro j b O hg hz a hm hq c;have b1:=hg.size;have b2:=c.size;have gb:w.grownBy b (some gm):=⟨c.os.trans hg.os,c.tape.trans hg.tape,c.output.trans hg.output,Nat.le_trans hg.size c.size,λk K h2=>(c.block k ZJ (λe=>by cases e; omega)).trans (hg.block k K h2)⟩;have aj:=(ah.mono (w':=b) (Kept.of_blocks λk r i=>(c.block k ZJ (λe=>by cases e; omega)).trans (a k ZJ r.2))).wider (G:=λk=>I k\/w.heap.size<=k/\k<b.heap.size) λk r=> .inr ZJ;refine ⟨gb,_,O,rfl,h.put gb (hm.kept (c.block gm ZJ (λe=>by cases e; omega))) λq a5=> ?_,aj⟩;rcases hq q a5 with rfl|a5
  .exact ⟨_,rfl,aj⟩
  .obtain ⟨y,e,hA⟩:=h.ans q a5;exact ⟨y,e,(hA.mono (Kept.of_blocks λk r i=>gb.block k i λe=>by cases e; exact (h.hI _ r).2.2.1 rfl)).wider λk r=> .inl r⟩
 have B4:Blk d g4 _ _:=GB.blk a2 (f4.blk.next (J.below.step b6)) (λe=>by cases e; omega);refine cd rfl (λb3=> ?_) λhz=> ?_
 .refine dl 6 λay t=> ?_;have ak:MapL sK ay gm m:=h.map.below (C.step t);refine dM sK s rfl a6 rfl rfl rfl ak ?_;intro j b4 n al;have bj:=t.size;have bk:=C.size;have b7:=GB.blk n (ag.next t) (λe=>by cases e; omega);refine rn ?_;refine sb rfl (GB.blk n (B4.next t) (λe=>by cases e; omega)) (λb D H am=> ?_);refine rc rfl D (ai ((GB.of_below (C.step t)).trans n) ZJ (λk K h2=>(n.block k ZJ (λe=>by cases e; omega)).trans (t.block k h2)) al (λq hq=>(mem_lput.1 hq).imp id λh=>h.1) H)
 .refine rn ?_;refine sb rfl B4 (λb D H am=> ?_);exact rc rfl D (ai (GB.of_below C) ZC (λ_ _ _=>rfl) (h.map.below C) (λq hq=> .inr hq) H)
end Go.Proofs.YtoleahhfkpkcjaaGreatDoor
namespace Go.PF
open Go.RowKit
end Go.PF
namespace Go.Proofs.YtoleahhfkpkcjaaGreatDoor
open Go.Proofs.Tryz
open Go.PF Go.RowKit Go.Ord
attribute [local irreducible] TW CW KW DW
theorem xI (S:TrS) (x:Rc):(S.add x).N=S.N/\(S.add x).L=S.L/\(S.add x).most=S.most:=by
 unfold TrS.add
 split
 .exact ⟨rfl,rfl,rfl⟩
 .exact ⟨rfl,rfl,rfl⟩
theorem QA (h:mK S.recs):mK (S.add x).recs:=by
 unfold TrS.add
 split
 .exact uI h
 .exact h
theorem Dc (l:List Rc) (x:Rc):(eY l x).length<=l.length+1:=by
 unfold eY
 split
 .omega
 .unfold ky;rw [List.length_append,List.length_cons,List.length_take,List.length_drop];omega
theorem Iv (S:TrS) (x:Rc):(S.add x).recs.length<=S.recs.length+1:=by
 unfold TrS.add
 split
 .exact Dc _ _
 .omega
noncomputable def TrS.adds (S:TrS) (r:List Rc):TrS:=r.foldl TrS.add S
theorem Ee (S:TrS) (a b:List Rc):S.adds (a++b)=(S.adds a).adds b:=List.foldl_append
theorem nS (S:TrS) (hs:mK S.recs): ∀r:List Rc,((S.adds r).N=S.N/\(S.adds r).L=S.L/\(S.adds r).most=S.most)/\mK (S.adds r).recs/\(S.adds r).recs.length<=S.recs.length+r.length
 | []=>⟨⟨rfl,rfl,rfl⟩,hs,ZC⟩
 | x::r=>by
  obtain ⟨a,b,f⟩:=nS (S.add x) (QA hs) r;obtain ⟨c,d,e⟩:=xI S x;have:=Iv S x;exact ⟨⟨a.1.trans c,a.2.1.trans d,a.2.2.trans e⟩,b,by show ((S.add x).adds r).recs.length<=_; simp only [List.length_cons]; omega⟩
theorem RTr.stepN {w0 w1 w2:World} {nv:NV} {bt t':TypeId} (h:RTr F w1 nv sv rv S) (hs:StepN w0 bt w1 w2) (i:t'≠bt) (j: ∀k,F k->k<w0.heap.size\/TyB w1 k t'):RTr F w2 nv sv rv S:=by
 have a:=Kept.of_blocks λk a b=>hs.block k b ((j k a).imp id λf g=>by
  obtain ⟨c,e⟩:=f;obtain ⟨l,d⟩:=g;rw [e] at d;cases d;exact i rfl)
 exact ⟨jI h.net a,h.scn.mono a,h.recs.mono a,λk a=>Nat.lt_of_lt_of_le (h.lt k a) hs.size⟩
theorem R8 {nv:NV} {L:List Sc} {most:Int} (hN:NetIn F w nv N) (hL:SL yh F w sv L) (hr:SL rcT F w rv r) (hF: ∀k,F k->k<w.heap.size) (hf:FewN N) (hn:r.length<=300) :
  Gives prog 66 #[.agg nv.cells.toArray,sv,ZU most,rv] w λu t=>ZT w t/\ ∃b,u= .agg (x9 nv sv most b).toArray/\RTr (λk=>F k\/w.heap.size<=k/\k<t.heap.size) t nv sv b (TrS.adds ⟨N,L,most,[]⟩ r):=by
 obtain ⟨⟨A1,c1,e1⟩,⟨A2,c2,e2⟩,⟨A3,c3,e3⟩,⟨A4,c4,e4⟩,⟨A5,c5,e5⟩,⟨A6,c6,e6⟩⟩:=NetIn.form hN;obtain ⟨vc,vn,vo,vf,vl,vk⟩:=nv;dsimp only at e1 e2 e3 e4 e5 e6;subst e1 e2 e3 e4 e5 e6;obtain ⟨A,d,rfl,_⟩:=hL.form;obtain ⟨B,ag,rfl,_⟩:=hr.form;refine gw func66 ntmps66 ?_;refine nw rfl λg4 w4 f4=> ?_;refine na IR λg8 w8 f8=> ?_;refine eD (x9 ⟨.slice A1 N.cals.length c1,.slice A2 N.names.length c2,.slice A3 N.ops.length c3,.slice A4 N.offs.length c4,.slice A5 N.lines.length c5,.slice A6 N.classes.length c6⟩ (.slice A L.length d) most (.slice none 0 0)) rfl ?_;refine Go.PF.nv IR rfl λg9 y f9=> ?_;obtain ⟨l,p⟩: ∃v:NV,v=⟨.slice A1 N.cals.length c1,.slice A2 N.names.length c2,.slice A3 N.ops.length c3,.slice A4 N.offs.length c4,.slice A5 N.lines.length c5,.slice A6 N.classes.length c6⟩:=⟨_,rfl⟩;rw [<-p] at hN;have q4:=f4.at_;have z4:=f4.size;have q8:=f8.at_;have z8:=f8.size;have q9:=f9.at_;have z9:=f9.size;obtain ⟨O,z⟩: ∃O:TrS,O=⟨N,L,most,[]⟩:=⟨_,rfl⟩;have J:=λr=>nS O (by rw [z]; exact List.Pairwise.nil) r
 refine dA [3,8,9] (λx:Nat×Value=> [(10,none,ZU (x.1:Int))]) (λx W=>x.1<=r.length/\ZT w8 W/\y.heap.size<=W.heap.size/\Blk W g9 37 (x9 l (.slice A L.length d) most x.2)/\x.2.oneCell'=true/\RTr (λk=>F k\/y.heap.size<=k/\k<W.heap.size/\TyB W k 57) W l (.slice A L.length d) x.2 (O.adds (r.take x.1))) (λx=>r.length-x.1) (0,.slice none 0 0) ⟨ZB,f9.below,ZC,by rw [p]; exact f9.blk,rfl,?_⟩ ?_
 .have a2:ZT w y:=f4.below.step (f8.below.step f9.below);rw [z];exact ⟨(hN.below a2).wider λk a=> .inl a,(hL.below a2).wider λk a=> .inl a,SL.nil _ _ _,λk a=>a.elim (λh=>by have:=hF k h; omega) λh=>h.2.1⟩
 rintro ⟨i,rv⟩ W ⟨hi,hW,ai,E,R,U⟩;dsimp only at hi E R U;refine rn ?_;refine cd rfl (λa1=> ?_) λa3=> ?_
 .have K:i<r.length:=by dsimp only at a1; omega
  obtain ⟨ad,rfl⟩:=hr.addr ZJ;have hz:r[i]?=some r[i]:=ZD K;have M:ZT w W:=f4.below.step (f8.below.step hW);obtain ⟨xv,a9,a4⟩:=SR.get (hr.below M) hz;obtain ⟨X,Z,rfl,_⟩:=a4.ct.form;obtain ⟨⟨en,el,em⟩,a5,aa⟩:=J (r.take i);have ah:(r.take i).length<=300:=by rw [List.length_take]; omega
  have ab:O.recs.length=0:=by rw [z]; rfl
  obtain ⟨S,hS⟩: ∃S,S=O.adds (r.take i):=⟨_,rfl⟩;rw [<-hS] at U en el em a5 aa;have em:S.most=most:=em.trans (by rw [z]);have a6: ∀t,ZT W t->Gives prog 24 #[.agg (x9 l (.slice A L.length d) most rv).toArray,.agg (iq r[i] (.slice X r[i].cont.length Z)).toArray] t λu m=>ZT t m/\ ∃b,u= .tuple #[.agg (x9 l (.slice A L.length d) most b).toArray,ZU (S.addE r[i])]/\b.oneCell'=true/\RTr (λk=>F k\/y.heap.size<=k/\k<m.heap.size/\TyB m k 57) m l (.slice A L.length d) b (S.add r[i]):=λt C=>by
   have D:=Sm (G:=F) (U.below C) (by rw [en,z]; exact hf) a5 ZJ (a4.below C) (λk a=>by have:=hF k a; have:=M.size; have:=C.size; omega);rw [em] at D;refine D.mono λu m ⟨q1,b,q2,q3⟩=>⟨q1,b,q2,?_,?_⟩
   .obtain ⟨Y,yc,rfl,_⟩:=q3.recs.form;rfl
   .have hz:=C.size;have aj:=q1.size;have H: ∀k,((F k\/y.heap.size<=k/\k<W.heap.size/\TyB W k 57)\/F k)\/t.heap.size<=k/\k<m.heap.size/\TyB m k 57->F k\/y.heap.size<=k/\k<m.heap.size/\TyB m k 57:=λk a=>by
     rcases a with ((a|a)|a)|a
     .exact .inl a
     .exact .inr ⟨a.1,ZJ,a.2.2.next ((q1.block k ZJ).trans (C.block k a.2.1))⟩
     .exact .inl a
     .exact .inr ⟨ZJ,a.2⟩
    exact ⟨q3.net.wider H,q3.scn.wider H,q3.recs.wider H,λk a=>a.elim (λh=>by have:=hF k h; have:=M.size; omega) λh=>h.2.1⟩
  have a0: ∀ {w0:World} {b:Value} {S':TrS} {s o:World},w.heap.size<=w0.heap.size->StepN w0 37 s o->RTr (λk=>F k\/y.heap.size<=k/\k<s.heap.size/\TyB s k 57) s l (.slice A L.length d) b S'->RTr (λk=>F k\/y.heap.size<=k/\k<o.heap.size/\TyB o k 57) o l (.slice A L.length d) b S':=λ{w0 _ _ s o} h0 hs h=>by
   have a7: ∀k,F k->k<w0.heap.size:=λk a=>by have:=hF k a; omega
   have h':=h.stepN (t':=57) hs ZL λk a=>a.imp (a7 k) λq=>q.2.2;have H: ∀k,F k\/y.heap.size<=k/\k<s.heap.size/\TyB s k 57->F k\/y.heap.size<=k/\k<o.heap.size/\TyB o k 57:=λk a=>a.imp id λa=>⟨a.1,Nat.lt_of_lt_of_le a.2.1 hs.size,a.2.2.next (hs.block k a.2.1 (.inr λq=>by
    obtain ⟨c,e⟩:=a.2.2;obtain ⟨c',e'⟩:=q;rw [e] at e';cases e'))⟩
   exact ⟨h'.net.wider H,h'.scn.wider H,h'.recs.wider H,λk a=>a.elim (λq=>h'.lt k (.inl q)) λq=>q.2.1⟩
  let Φ:Value->World->Prop:=λv W'=> ∃b,v= .agg (x9 l (.slice A L.length d) most b).toArray/\b.oneCell'=true/\RTr (λk=>F k\/y.heap.size<=k/\k<W'.heap.size/\TyB W' k 57) W' l (.slice A L.length d) b (S.add r[i])
  let Ψ:Value->World->Prop:=λu W'=> ∃v,u= .tuple #[v,ZU (S.addE r[i])]/\Φ v W'
  have mΦ: ∀v s o,StepN W 37 s o->Φ v s->Φ v o:=λv s o hs ⟨b,e,D,h2⟩=>⟨b,e,D,a0 M.size hs h2⟩;have mΨ: ∀v s o,StepN W 37 s o->Ψ v s->Ψ v o:=λv s o hs ⟨v',e,D⟩=>⟨v',e,mΦ _ _ _ hs D⟩;refine OR 11 30 37 ZK ZK ZK ?_;refine DN.loadS (x9 l (.slice A L.length d) most rv) rfl rfl rfl rfl rfl id (λ_ j v hj=>E.fld hj) rfl ?_;refine DN.v bX rfl ⟨ct,trivial⟩ (λ_=>trivial) (next:= ?_);refine DN.v bX rfl ⟨ct,trivial⟩ (λ_=>trivial) (next:= ?_);refine DN.v V.indexAddr rfl ⟨ct,ct,trivial⟩ (λ_=>⟨ZJ,ZJ⟩) (next:= ?_);refine DN.loadS (iq r[i] (.slice X r[i].cont.length Z)) rfl rfl rfl rfl rfl id (λ_ j v hj=>a9 j v hj) rfl ?_;refine DN.call Ψ mΨ ZK rfl ct ⟨ct,ct,trivial⟩ (λ_ t C=>(a6 t C).mono λu m ⟨D,b,h2,h3,h4⟩=>⟨D,_,h2,b,rfl,h3,h4⟩) ?_;refine DN.move mΨ rfl ct ?_;refine DN.extract Φ mΦ rfl ct (λu w ⟨v,e,h⟩=>⟨_,v,e,rfl,h⟩) ?_;refine DN.extract (λ_ _=>True) (λ_ _ _ _ _=>trivial) rfl ct (λu w ⟨v,e,h⟩=>⟨_,_,e,rfl,trivial⟩) ?_;refine DN.alloc IR rfl ?_;refine DN.store rfl (λv w ⟨b,e,D,_⟩=>⟨_,e,rfl,by rw [p]; simp [x9,Value.oneCell']; exact D⟩) ?_;refine DN.assign (λ_ _ _ _ _=>trivial) rfl ct ?_;refine DN.nil (DN.fin [3,8,9,10] rfl rfl λt g cs C a3 hB ⟨b,e,D,h2⟩=> ?_)
  have e:cs=x9 l (.slice A L.length d) most b:=by simpa using e
  subst e;refine rn ?_;have ak:=C.size;refine sb rfl (E.next C) (λo I n ac=> ?_) (h1:=by rw [p]; simp [x9,Value.oneCell']; exact D);have ae:StepN w 37 t o:=⟨n.os,n.tape,n.output,n.size,λk a af=>n.block k a (λe=>by
   cases e;exact af.elim (λh=>ZJ) λh=>h ⟨_,E.next C⟩),λk a8 a=>by
   rcases Nat.decEq k g9 with h|h
   .exact ⟨a8,n.blk a h,rfl⟩
   .subst h;have hq:=E.next C;unfold Blk at hq a;rw [hq] at a;have hq:=Option.some.inj a;injection hq with e1 _
    have:a8=x9 l (.slice A L.length d) most rv:=by simpa using (congrArg Array.toList e1).symm
    exact ⟨_,I,by rw [this]; rfl⟩⟩
  refine cK (i+1,b) ⟨by dsimp only; omega,But.below (hW.step C) n ZJ,ZJ,I,D,?_⟩;have h2:=a0 ZC ae h2;have e:O.adds (r.take (i+1))=(O.adds (r.take i)).add r[i]:=by rw [<-List.take_append_getElem K,Ee]; rfl
  dsimp only;rw [e,<-hS];exact h2
 .have K:i=r.length:=by dsimp only at a3; omega
  rw [K,List.take_length] at U;refine rn ?_;refine sb rfl (f8.blk.next hW) (λo I n ac=> ?_) (h1:=by rw [p]; simp [x9,Value.oneCell']; exact R);have a:Kept (λk=>F k\/y.heap.size<=k/\k<W.heap.size/\TyB W k 57) W o:=Kept.of_blocks λk a a1=>n.block k a1 λe=>by
   cases e;rcases a with h|h
   .have:=hF _ h;omega
   .omega
  have H: ∀k,(F k\/y.heap.size<=k/\k<W.heap.size/\TyB W k 57)->F k\/w.heap.size<=k/\k<o.heap.size:=λk a=>a.imp id λh=>⟨ZJ,ZJ⟩;rw [z,p] at U;rw [p] at I;exact rc rfl I ⟨But.below (f4.below.step (f8.below.step hW)) n ZJ,_,rfl,(jI U.net a).wider H,(U.scn.mono a).wider H,(U.recs.mono a).wider H,λk a=>a.elim (λh=>by have:=hF k h; omega) λh=>h.2⟩
theorem Sl {nv:NV} (h:RTr F w nv sv rv S) (n:S.recs.length<=30) :
  Gives prog 45 #[.agg (x9 nv sv S.most rv).toArray,.string lab] w λu b=>ZT w b/\SE b u (bO S.L S.recs lab):=by
 obtain ⟨⟨o,p,c⟩,⟨q,r,d⟩,⟨s,t,g⟩,⟨v,x,i⟩,⟨y,z,j⟩,⟨C,D,k⟩⟩:=NetIn.form h.net;obtain ⟨E,G,H,I,J,K⟩:=nv;refine gw func45 ntmps45 ?_;refine nw rfl λM N a=> ?_;refine cr rfl (Ji ((h.scn.below a.below).wider (h.below a.below).lt) ((h.recs.below a.below).wider (h.below a.below).lt) n) λu O R e=> ?_;exact aO rfl ⟨bK,e⟩
theorem LA {nv:NV} (h:RTr F w nv sv rv S) :
  Gives prog 12 #[.agg (x9 nv sv S.most rv).toArray,.string lab] w λu W=>ZT w W/\ ∃b,u= .bool b/\(b=true->FewR S.N/\S.N.offs.length<=5/\S.N.lines.length<=12/\S.L.length<=30/\S.recs.length<=30/\lab.size<=40/\(bO S.L S.recs lab).length<=7/\(aV (bO S.L S.recs lab)).length<=7):=by
 obtain ⟨⟨m,n,H⟩,⟨o,p,I⟩,⟨q,s,J⟩,⟨t,x,K⟩,⟨y,z,d⟩,⟨C,D,k⟩⟩:=NetIn.form h.net;obtain ⟨vc,vn,vo,vf,vl,vk⟩:=nv;dsimp only at H I J K d k;subst H I J K d k;obtain ⟨A,Y,rfl,_⟩:=h.scn.form;refine gw func12 ntmps12 ?_;refine nw rfl λg2 w2 c=> ?_;have O:=Blk.part c.blk 0 [.slice m S.N.cals.length n,.slice o S.N.names.length p,.slice q S.N.ops.length s,.slice t S.N.offs.length x,.slice y S.N.lines.length z,.slice C S.N.classes.length D] rfl;refine rn ?_;refine cv rfl (LB (v:=⟨.slice m S.N.cals.length n,.slice o S.N.names.length p,.slice q S.N.ops.length s,.slice t S.N.offs.length x,.slice y S.N.lines.length z,.slice C S.N.classes.length D⟩) ((h.net.below c.below).wider (h.below c.below).lt)) λw3 E=> ?_
 cases g: !dec (FewR S.N)||decide (5<(S.N.offs.length:Int))||decide (12<(S.N.lines.length:Int))||decide (30<(S.L.length:Int)) with
 | true =>
  have Z: ¬aF (some !true):=by simp [aF]
  refine rn ?_;refine cT rfl ?_
  exact aO rfl ⟨bK,false,rfl,λh=>by cases h⟩
 | false =>
  refine dD ?_;refine aP rfl rfl ?_;refine cr rfl (Ht (h.scn.below (c.below.step E)) ((h.recs.below (c.below.step E)).wider (h.below (c.below.step E)).lt)) λu w4 b4 e=> ?_;obtain ⟨b,rfl,hb⟩:=e;refine rn ?_;refine iG rfl (λG=> ?_) λG=> ?_
  .exact aO rfl ⟨bK,false,rfl,λh=>by cases h⟩
  .have i:b=true:=by cases b<;>simp_all
   have j:lab.size<=40:=by
    rw [i] at G;simp at G;omega
   obtain ⟨R,a⟩:=hb i;have h4:=h.below (bK:ZT w w4);refine rn ?_;refine cr rfl (Sl h4 a) λu w5 b5 d=> ?_;obtain ⟨U,uc,rfl,_⟩:=d.form;refine rn ?_
   cases hY:decide (((bO S.L S.recs lab).length:Int)<=7) with
   | true =>
    refine dD ?_;refine aP rfl rfl ?_;refine cr rfl (E4 d (by have:=Ii (l:=S.L) (r:=S.recs) (lab:=lab); omega) λe he=>by have:=jL e he; omega) λu w6 b6 k=> ?_;refine rn ?_;refine aO rfl ⟨bK,_,rfl,λh=> ?_⟩;simp only [Bool.or_eq_false_iff,decide_eq_false_iff_not,Bool.not_eq_false'] at g;have h7:=of_decide_eq_true hY
    exact ⟨dec_iff.1 g.1.1.1,by have:=g.1.1.2; omega,by have:=g.1.2; omega,by have:=g.2; omega,a,j,ZJ,by simp at h; omega⟩
   | false =>
    have Z: ¬aF (some false):=by simp [aF]
    refine rn ?_;exact aO rfl ⟨bK,false,rfl,λh=>by cases h⟩
end Go.Proofs.YtoleahhfkpkcjaaGreatDoor
