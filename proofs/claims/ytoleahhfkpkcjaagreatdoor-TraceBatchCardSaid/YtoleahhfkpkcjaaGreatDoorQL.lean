/- Texts of this claim,joined. -/
import Derived.Test.YtoleahhfkpkcjaaGreatDoorQK
import Derived.Sort.OwnSortedInts
set_option linter.unusedSimpArgs false
set_option linter.unusedVariables false
set_option maxRecDepth 100000
set_option maxHeartbeats 4000000
variable {w:Go.World} {l:List Go.Ord.Ev} {α:Type} {Pos:List Int->Int->Prop} {v:Go.Value} {d:Go.Ord.bG} {own F:Nat->Prop} {Done:List Int->Prop} {A:Option Go.Addr} {cap caps:List Go.Value} {k m i x:Nat} {p:α->Prop} {gf:Go.FuncId} {ts:List Int}
namespace Go.Proofs.YtoleahhfkpkcjaaGreatDoor
open Go.Proofs.Tryz
open Go.PF Go.RowKit Go.Ord
attribute [local irreducible] TW CW KW DW
def Et (w:World) (k:FuncId) (caps:List Value) (p:Ev->Bool):Prop:= ∀(e:Ev) (nv:Value) (F:Nat->Prop) (w':World),ZT w w'->SL aS F w' nv e.needs ->
 Gives prog k (.agg #[ZU e.office,ZU e.low,ZU e.high,nv]::caps).toArray w' λu w''=>ZT w' w''/\u= .bool (p e)
theorem Dh {k:FuncId} {p:Ev->Bool} (hl:SE w v l) (z:enters prog k=true) (hp:Et w k caps p) :
  Gives prog 246 #[v,.func (.func k) #[] caps.toArray] w λx r=>ZT w r/\((x= ZU (-1)/\l.any p=false)\/ ∃i:Nat,x= ZU (i:Int)/\l.any p=true):=by
 obtain ⟨A,s,rfl,_⟩:=hl.form;have q:=hl.len.2.2;refine gv func246 ntmps246 ?_;refine aB ?_;refine dA [0,1,7] (λi:Nat=> [(8,none,ZU (i:Int))])
  (λi W=>i<=l.length/\ZT w W/\(l.take i).any p=false) (λi=>l.length-i) 0 ⟨ZB,ZA,rfl⟩ ?_
 rintro i W ⟨B,d,c⟩;refine aB ?_;refine aI rfl (λt=> ?_) (λu=> ?_)
 .have n:i<l.length:=ZJ;have g:=dW hl d;obtain ⟨C,rfl⟩:=g.addr ZJ;obtain ⟨e,o⟩: ∃e,l[i]?=some e:=⟨l[i],ZD n⟩;obtain ⟨y,a,D,E,F,b⟩:=SE.get g o;refine aB ?_;refine fP rfl (a) ?_;refine fE rfl rfl z rfl (aA rfl ct aJ) (hp e y _ _ d b) ?_;rintro G H ⟨h,rfl⟩;refine aB ?_;refine aK rfl (λj=> ?_) (λm=> ?_)
  .refine aB ?_;refine aO rfl ⟨d.step h,.inr ⟨i,rfl,?_⟩⟩;rw [List.any_eq_true];exact ⟨e,ZF o,j⟩
  .refine aB ?_;refine cK (i+1) ⟨ZJ,d.step h,?_⟩;rw [ZG,List.any_append,c,o];simp [m]
 .refine aB ?_;refine aO rfl ⟨d,.inl ⟨rfl,?_⟩⟩;rw [show i=l.length by omega,List.take_length] at c;exact c
theorem DV {k:FuncId} {p:Ev->Bool} (hl:SE w v l) (d:enters prog k=true) (hp:Et w k caps p) :
  Gives prog 153 #[v,.func (.func k) #[] caps.toArray] w λx c=>ZT w c/\x= .bool (l.any p):=by
 refine gv func153 ntmps153 ?_;refine aB ?_;refine aN rfl (Dh hl d hp) ?_;rintro e g ⟨a,b⟩;rcases b with ⟨rfl,b⟩|⟨i,rfl,b⟩
 .skip
  refine aB ?_;refine aO rfl ⟨a,by rw [b]; rfl⟩
 .skip
  refine aB ?_;refine aO rfl ⟨a,by rw [b]; simp⟩
structure WfP (d:bG) (l:List Ev):Prop where
 wd:WfD d
 few:l.length<=14
 each: ∀e∈l,EOK d e
 pos: ∀e∈l,∀r∈e.needs,0<=r
theorem Cq (d:bG):Poss d []:=⟨[],rfl,ZM,List.Pairwise.nil⟩
theorem RJ:PredI prog w 156 [] λx=>decide (x<0):=by
 intro x b a;refine gv func156 ntmps156 ?_;refine aB ?_;refine aO rfl ⟨ZA,rfl⟩
def NW (d:bG) (e:Ev):Bool:=(e.needs.any λx=>decide (x<0))||decide (e.office<0)||decide (e.office ≥ (d.length:Int))
theorem Uu {g:Nat} {cap:Nat} (m:Blk w g 40 [.slice A d.length cap]):Et w 154 [.pointer (some ⟨g,0,none⟩)] (NW d):=by
 intro e n F o h k;have i:=m.next h;refine gv func154 ntmps154 ?_;refine aB ?_;refine bS rfl rfl rfl rfl ?_;rintro p q b;refine aB ?_;refine aG rfl (b.blk.fld rfl) ?_;refine aN rfl (uW (k.below b.below) VE RJ) ?_;rintro r s ⟨a,rfl⟩;have c:=b.blk.next a;have j:=(i.next b.below).next a;refine aB ?_;refine aG rfl (c.fld rfl) ?_;refine aB ?_;refine aG rfl (c.fld rfl) ?_;refine aG rfl (j.cell 0) ?_;refine aB ?_;refine aO rfl ⟨b.below.step a,rfl⟩
theorem PM {u:Value} (G:SD w v d) (hl:SE w u l):Gives prog 79 #[v,u] w λx H=>ZT w H/\x= .bool (dec (WfP d l)):=by
 obtain ⟨A,I,rfl,C⟩:=G.form;obtain ⟨B,D,rfl,s⟩:=hl.form;refine gv func79 ntmps79 ?_;refine aB ?_;refine bS rfl rfl rfl rfl ?_;rintro g E q;refine aB ?_;refine aG rfl (q.blk.cell 0) ?_;refine aN rfl (Dr (fI G q.below) (SL.nil evT (λk=>k<E.heap.size) E)) ?_;rintro M N ⟨j,O,rfl⟩;have b:=q.below.step j;have y:dec (jX d [])=dec (WfD d):=dJ ⟨λh=>h.1.wd,λh=>⟨⟨h,ZM,ZM⟩,Cq d⟩⟩;rw [y];refine aB ?_;refine dC [0,1,2,4,6,18] rfl ?_;refine aK rfl (λa=> ?_) (λc=> ?_)
 .refine aB ?_;refine aO rfl ⟨b,?_⟩;rw [aH];intro h;rw [aD h.wd] at a;simp at a;have:=h.few;omega
 have m:=dec_iff.1 (by cases R:dec (WfD d)<;>simp_all);have n:l.length<=14:=by
  simp at c;omega
 refine aB ?_;refine dN rfl rfl (aA rfl ct aJ) ?_;refine aN rfl (DV (dW hl b) VF (Uu (q.blk.next j))) ?_;rintro S U ⟨z,rfl⟩;refine aB ?_;refine aO rfl ⟨b.step z,?_⟩
 cases o:l.any (NW d) with
 | true =>
  rw [aH]
  .rfl
  .intro h;rw [List.any_eq_true] at o;obtain ⟨e,i,p⟩:=o;have F:=h.each e i;have:=F.o1;have:=F.o2;unfold NW at p;simp at p;rcases p with (⟨x,J,K⟩|p)|p
   .have:=h.pos e i x J; omega
   .omega
   .omega
 | false =>
  rw [aD]
  .rfl
  .rw [List.any_eq_false] at o;refine ⟨m,n,λe i=> ?_,λe i r L=> ?_⟩
   .have:=o e i;unfold NW at this;simp at this;exact ⟨this.1.2,this.2⟩
   .have:=o e i;unfold NW at this;simp at this;exact this.1.1 r L
theorem jy {n D:Nat} {w0:World} {o:Obj} (h:Below n w0 w) (b:n<=D):Below n w0 (w.putObj D o) :=
 ⟨h.os,h.tape,h.output,by simpa using h.size,λi a=>(World.putObj_heap_other ZJ).trans (h.block i a)⟩
theorem Lr {xs:List Int} (h:OwnS w 3 1 v xs.length (xs.map (Value.int .i64))) (hn:xs.length<4611686018427387904) :
  Gives prog 173 #[v] w λ_ a=>w.grownBy a v.ownBlock/\OwnS a 3 1 v xs.length ((xs.mergeSort λx y=>decide (x<=y)).map (Value.int .i64)):=by
 rcases h.2 with ⟨rfl,f⟩|⟨g,b,i,rfl,j,c,k,l,m,d⟩
 .have o:=List.eq_nil_of_length_eq_zero f;subst o;refine (Tryz.slices_Sort_int_none none 0 w).mono ?_;rintro e a ⟨rfl,rfl⟩;exact ⟨_,rfl,⟨rfl,rfl,rfl,ZC,λ_ _ _=>rfl⟩,by simpa using OwnS.nil a _ 1⟩
 .have p:=holds_of_blockI c (by rw [Nat.mul_one] at d; exact d);refine (Tryz.slices_Sort_int g 0 b xs w p (Array.getElem?_eq_some_iff.1 c).1 hn).mono ?_;rintro e a ⟨rfl,n,q,rfl⟩;exact ⟨_,rfl,grownBy_sortedI _,ownsRow_sortedI ZM j c k l m⟩
def FL (ks:List Int) (pre:List Int) (x:Int):Prop:=(pre++ [x]).Nodup/\ ∀y∈pre++ [x],y∈ks
def MM (ks:List Int) (xs:List Int):Prop:=xs.Nodup/\ ∀y,y∈xs↔y∈ks
theorem JM {g bm:Nat} {m:List (Int×Value)} (hg:Blk w g 219 [.map (some bm)]) (hm:MapL qU w bm m) :
  IterOK prog 248 [.pointer (some ⟨g,0,none⟩)] (λx:Int=> [ZU x]) (FL (m.map (·.1))) (MM (m.map (·.1))) (λk=>k=g\/k=bm) w:=by
 intro yl J Jx W M s a7 a8 hM t hJ a9 E h0;have S:Blk W g 219 [.map (some bm)]:=(s g (.inl rfl) hg.lt).trans hg;have F:MapL qU W bm m:=hm.kept (s bm (.inr rfl) hm.lt);have aa:=hm.keys;refine gv func248 ntmps248 ?_;refine aB ?_;refine aG rfl (S.cell 0) ?_;refine mY qU rfl rfl underlying219 rfl F ?_;rintro G w1 ab ac U Y;refine aB ?_;refine bT (λx:List Int×(Nat->Prop)×Option (Int×Value)=> [(0,none,.func (.yield yl) #[] #[]),(5,none,.pointer (some ⟨G,0,none⟩))])
  (λx O=>J x.1 x.2.1 O/\WalkM qU O G bm m x.1 x.2.2/\W.heap.size<O.heap.size/\(∀k,x.2.1 k->k<O.heap.size)/\ ¬x.2.1 G/\ ¬x.2.1 bm/\x.1.Nodup/\ ∀y∈x.1,y∈m.map (·.1))
  (λx=>m.length-x.1.length) ([],M,none) [0,5]
  ⟨hJ _ _ _ _ h0 (.of_below U),Y,by show W.heap.size<w1.heap.size; omega,λk hk=>by have:=t k hk; show k<w1.heap.size; omega,λh=>by have:=t _ h; omega,(hM bm (.inr rfl)).1,List.nodup_nil,λy E=>by cases E⟩ rfl ?_
 rintro ⟨c,Z,ad⟩ W1 ⟨hj,u,H,I,i,j,z,n⟩;dsimp only at hj u I i j z n H;refine aB ?_;refine pE qU rfl rfl rfl u (λK=> ?_) (λk v R a0 L ae a1 A r=> ?_)
 .skip
  refine aB ?_;refine aK rfl (λh1=> ?_) (λh2=> ?_)
  .exact absurd h1 ZM
  .refine aB ?_;refine oU results248 (.inl ⟨c,Z,⟨z,λy=>⟨λh=>n y h,λh=> ?_⟩⟩,hj⟩);rw [List.mem_map] at h;obtain ⟨p,hp,rfl⟩:=h;exact K p hp
 .skip
  refine aB ?_;refine aK rfl (λh1=> ?_) (λh2=> ?_)
  .refine aB ?_;refine mZ qU rfl rfl rfl r ?_;refine aB ?_;have d:FL (m.map (·.1)) c k:=by
    refine ⟨List.nodup_append.2 ⟨z,ZM,λa ha b hb e=> ?_⟩,λy E=> ?_⟩
    .rw [List.mem_singleton] at hb;subst hb;subst e;exact L ha
    .rcases ZH E with h|h
     .exact n y h
     .rw [List.mem_singleton] at h;subst h;exact List.mem_map.2 ⟨(y,v),a0,rfl⟩
   have a2:J c Z R:=hJ _ _ _ _ hj (A.less ZJ);refine kE rfl rfl rfl (aA rfl ct aJ) (E c k Z R a2 d (λq hq=>by have:=I q hq; omega) ZJ) ?_;rintro yb W3 N;refine aB ?_;refine aK rfl (λa3=> ?_) (λa4=> ?_)
   .refine aB ?_;refine Cb results248 (.inr ?_);obtain ⟨M',hx⟩:=N.no (by simpa using a3);exact ⟨_,M',hx⟩
   .refine aB ?_;obtain ⟨M',a5,B⟩:=N.yes (by simpa using a4);have C:G<R.heap.size:=by obtain ⟨o,ho,_⟩:=r.iter; exact (Array.getElem?_eq_some_iff.1 ho).1
    have D:bm<R.heap.size:=by have:=F.lt; omega
    refine bH (c++ [k],M',some (k,v)) [0,5] rfl ⟨a5,r.kept (N.kept G C i ZJ) (N.kept bm D j (hM bm (.inr rfl)).2),by have:=N.size; show W.heap.size<W3.heap.size; omega,λq hq=>(B q hq).2,λh=> ?_,λh=> ?_,d.1,d.2⟩ ?_
    .rcases (B _ h).1 with h|h
     .exact i h
     .omega
    .rcases (B _ h).1 with h|h
     .exact j h
     .omega
    .have a6:=dY (l:=c++ [k]) (k:=m.map (·.1)) d.1 d.2;show m.length-(c++ [k]).length<m.length-c.length;simp at a6 ⊢;omega
  .exact absurd h2 ZM
theorem SQ {bm:Nat}:Gives prog 158 #[.map (some bm)] w λu a=>ZT w a/\ ∃g,u= .func (.func 248) #[] [.pointer (some ⟨g,0,none⟩)].toArray/\Blk a g 219 [.map (some bm)]:=by
 refine gv func158 ntmps158 ?_;refine aB ?_;refine bS rfl rfl rfl rfl ?_;rintro g c b;refine aB ?_;refine Ov [0,1,2] rfl ?_;refine dN rfl rfl (aA rfl ct aJ) ?_;refine aB ?_;refine aO rfl ⟨b.below,g,rfl,b.blk⟩
theorem IterOK.later {enc:α->List Value} {Pos:List α->α->Prop} {Done:List α->Prop} {w':World} (h:IterOK prog gf cap enc Pos Done own w) (hb:ZT w w'):IterOK prog gf cap enc Pos Done own w':=by
 intro l J b W M c d;exact h l J b W M (λk e a=>(c k e (Nat.lt_of_lt_of_le a hb.size)).trans (hb.block k a)) (Nat.le_trans hb.size d)
theorem Ea (ak:IterOK prog gf cap (λx:Int=> [ZU x]) Pos Done own w) (al:enters prog gf=true) (B: ∀k,own k->k<w.heap.size) (am: ∀a x,Pos a x->a.length<=1000000000) :
  Gives prog 257 #[.slice none 0 0,.func (.func gf) #[] cap.toArray] w λv w'=>ZT w w'/\ ∃I,Done I/\OwnS w' 3 1 v I.length (I.map (Value.int .i64))/\ ∀g,v.ownBlock=some g->w.heap.size<=g:=by
 refine Tv func257 ntmps257 ?_;refine aB ?_;refine bS rfl rfl rfl rfl ?_;rintro m w1 J;refine aB ?_;have aq:=J.at_;have ar:=J.size;refine EB rfl al (IterOK.later ak J.below) rfl (λ_=>rfl)
  (λa M W=>ZT w W/\ ∃l,Blk W m 66 [l]/\OwnS W 3 1 l a.length (a.map (Value.int .i64))/\(∀q,l.ownBlock=some q->w1.heap.size<=q)/\M=λk=>k=m\/l.ownBlock=some k)
  (λc a M W=>False) (λk=>k=m)
  (λk s=>by subst s; exact ⟨ZJ,λh=>by have:=B _ h; omega⟩) (λk s=>by have:=B k s; omega)
  (λa M W1 t ⟨K,l,u,G,y,a5⟩ z=>⟨(z.less ZJ).below K ZC,l,u.ext z,G.ext z,y,a5⟩)
  (λc a M W1 t h z=>h)
  ⟨J.below,.slice none 0 0,J.blk,OwnS.nil _ _ _,λq b=>by simp [Value.ownBlock] at b,by funext k; simp [Value.ownBlock]⟩ ?_ ?_ ?_
 .rintro D L a p M W hD hL ⟨K,l,u,G,y,rfl⟩ N an O R S;have au:=am a p N;refine aB ?_;refine ni S λt z av s n=> ?_;have U:Blk t m 66 [l]:=u.ext z;have Y:=G.ext z;have Z:ZT w t:=(z.less ZJ).below K ZC;refine aB ?_;refine aG rfl (U.cell 0) ?_;refine aB ?_;refine bI 3 _ rfl rfl rfl kC (aA rfl ct aJ) rfl rfl rfl rfl rfl ?_;rintro g3 w3 A;have o3:=Y.below A.below;refine aT [ZU p] rfl rfl ji rfl o3 rfl rfl (λj v hj=>⟨⟨g3,0,none⟩,rfl,A.blk.fld hj⟩) (λv hv=>by simp at hv; subst hv; rfl) ZJ ZJ ?_;rintro i H o4 o ac;have s3:=A.below.size;have ad:L<t.heap.size:=n.lt;have a0: ∀q,l.ownBlock=some q->q<t.heap.size:=λq b=>Y.lt b;have a6:l.ownBlock≠some L:=λe=>O (.inr e);have ae:l.ownBlock≠some D:=λe=>R (.inr e);have a7:L≠m:=λe=>O (.inl e);have af:D≠m:=λe=>R (.inl e);have b4:Blk H m 66 [l]:=Blk.keptO (U.next A.below) o (λe=>by have:=y _ e; omega);obtain ⟨A4,c4,ag,_⟩:=o4.form;have ah:i.oneCell'=true:=by rw [ag]; rfl
  refine fu rfl is66.q rfl rfl (b4.cell 0) (b4.frozen 0) ah ?_;refine aB ?_;have a8:H.heap[L]?=t.heap[L]?:=(o.block L ZJ (λe=>a6 e.symm)).trans (A.below.block L ad);have ai:ZT w H:=(Z.step A.below).grown o (Z.step A.below).size (λq b=>by have:=y q b; omega);have ao:t.heap.size<=H.heap.size:=Nat.le_trans s3 o.size;have d: ∀q,i.ownBlock=some q->l.ownBlock=some q\/q=w3.heap.size:=λq b=>by
   rcases ac with h|h
   .exact .inl (by rw [<-h]; exact b)
   .rw [h] at b; cases b; exact .inr rfl
  have aw:w1.heap.size<=t.heap.size:=ZJ;have o5:OwnS (H.setCell ⟨m,0,none⟩ i) 3 1 i (a.length+1) (a.map (Value.int .i64)++ [ZU p]):=o4.kept λq b=>Below.heap_setCell _ _ _ _ (λe=>by
   have e:q=m:=e;rcases d q b with h|h
   .have:=y q h; omega
   .omega)
  refine my (n.kept ((Below.heap_setCell _ _ _ _ (by show L≠m; exact a7)).trans a8)) λW5 C a9 aj E=> ?_;have ax:W5.heap.size=H.heap.size:=by rw [a9]; simp
  refine ⟨ZJ,λk ay aa ab=> ?_,λ_=>⟨λk=>k=m\/i.ownBlock=some k,⟨⟨(C.less ZJ).below (ai.setCell (by show w.heap.size<=m; omega) _) ZC,i,(b4.set 0 i).ext C,by simpa using o5.ext C,λq b=> ?_,rfl⟩,λh=> ?_,λh=> ?_,E⟩,λk s=> ?_⟩,λh=>by cases h⟩
  .refine (aj k ab).trans ((Below.heap_setCell _ _ _ _ (λe=>aa (.inl e))).trans ((o.block k ZJ (λe=>aa (.inr e.symm))).trans ((A.below.block k ZJ).trans (s k ab))))
  .rcases d q b with h|h
   .exact y q h
   .omega
  .rcases h with h|h
   .exact a7 h
   .rcases d L h with h|h
    .exact a6 h
    .omega
  .rcases h with h|h
   .exact af h
   .rcases d D h with h|h
    .exact ae h
    .omega
  .rcases s with rfl|s
   .exact ⟨.inl (.inl rfl),ZJ⟩
   .rcases d k s with h|h
    .exact ⟨.inl (.inr h),by have:=a0 k h; omega⟩
    .refine ⟨.inr ZJ,?_⟩;have:=o4.lt s;omega
 .rintro D I M W hD F ⟨K,l,u,G,y,rfl⟩ r;refine fB (aL ?_);refine aB ?_;refine aG rfl (u.cell 0) ?_;refine aB ?_;have az:m≠D:=λe=>by subst e; unfold Blk at u; rw [r] at u; cases u
  refine LH results257 rfl r ⟨jy K ZJ,I,F,G.kept λq b=>World.putObj_heap_other (λe=> ?_),λq b=>by have:=y q b; omega⟩;subst e;rcases G.2 with ⟨rfl,_⟩|⟨g',ap,b0,hv,_,hh,_⟩
  .simp [Value.ownBlock] at b
  .rw [hv] at b;simp [Value.ownBlock] at b;subst b;rw [r] at hh;cases hh
 .rintro D c a M W hD h;exact h.elim
theorem zz (d:IterOK prog gf cap (λx:Int=> [ZU x]) Pos Done own w) (e:enters prog gf=true) (b: ∀k,own k->k<w.heap.size) (h: ∀a x,Pos a x->a.length<=1000000000) :
  Gives prog 171 #[.func (.func gf) #[] cap.toArray] w λv i=>ZT w i/\ ∃c,Done c/\OwnS i 3 1 v c.length (c.map (Value.int .i64))/\ ∀g,v.ownBlock=some g->w.heap.size<=g:=by
 refine gv func171 ntmps171 ?_;refine aB ?_;refine aN rfl (Ea d e b h) ?_;rintro l m j;refine aB ?_;refine aO rfl (j)
theorem Lm (j:IterOK prog gf cap (λx:Int=> [ZU x]) Pos Done own w) (l:enters prog gf=true) (d: ∀k,own k->k<w.heap.size) (m: ∀c x,Pos c x->c.length<=1000000000) (n: ∀a,Done a->a.length<=1000000000) :
  Gives prog 157 #[.func (.func gf) #[] cap.toArray] w λv o=>ZT w o/\ ∃a,Done a/\OwnS o 3 1 v a.length ((a.mergeSort λx y=>decide (x<=y)).map (Value.int .i64))/\ ∀g,v.ownBlock=some g->w.heap.size<=g:=by
 refine gv func157 ntmps157 ?_;refine aB ?_;refine aN rfl (zz j l d m) ?_;rintro s t ⟨b,a,p,r,q⟩;refine aB ?_;have e:a.length<4611686018427387904:=by have:=n a p; omega
 refine aN rfl (Lr r e) ?_;rintro u z ⟨h,i⟩;refine aB ?_;refine aO rfl ⟨b.grown h b.size q,a,p,i,q⟩
def V2 (w:World) (b:Nat) (S:List Int) (T:Int):Prop:= ∃m,MapL qU w b m/\(∀x,x∈m.map (·.1)↔x∈S)/\ ∀p∈m,∃c:Int,p.2= ZU c/\0<=c/\c<=T
theorem Ci (hl:SE w v l) (aw:l.length<=1000) (a5: ∀e∈l,e.needs.length<=1000) :
  Gives prog 80 #[v] w λx w'=>ZT w w'/\OwnS w' 3 1 x (aV l).length ((aV l).map (Value.int .i64))/\ ∀g,x.ownBlock=some g->w.heap.size<=g:=by
 obtain ⟨A,ak,rfl,_⟩:=hl.form;refine gv func80 ntmps80 ?_;refine aB ?_;refine eZ qU rfl rfl ?_;rintro b w1 al am R a6;refine aB ?_;refine dA [3,9,10] (λi:Nat=> [(11,none,ZU (i:Int))])
  (λi W=>i<=l.length/\But b w1 W/\V2 W b (bV (l.take i)) (i*1000)) (λi=>l.length-i) 0 ⟨ZB,But.of_below ZA,[],a6,λx=>by simp [bV],λp r=>by cases r⟩ ?_
 rintro i W ⟨hi,G,hC⟩;have z:ZT w W:=But.below R G ZJ;refine aB ?_;refine dC [3,9,10,11,12] rfl ?_;refine aI rfl (λan=> ?_) (λao=> ?_)
 .have a7:i<l.length:=ZJ;have S:=dW hl z;obtain ⟨ad,rfl⟩:=S.addr ZJ;obtain ⟨e,M⟩: ∃e,l[i]?=some e:=⟨l[i],ZD a7⟩;obtain ⟨nv,n,i1,i2,i3,B⟩:=SE.get S M;obtain ⟨C,U,rfl,_⟩:=B.form;have ap:=a5 e (ZF M);refine aB ?_;refine fP rfl (n) ?_;refine fw rfl tX rfl is68.q rfl rfl ?_;rintro g2 w2 f2;refine aB ?_;refine aG rfl (f2.blk.fld rfl) ?_;refine aB ?_;refine dA [3,9,10,11,16,17] (λj:Nat=> [(18,none,ZU (j:Int))])
   (λj N=>j<=e.needs.length/\But b w1 N/\But b w2 N/\V2 N b (bV (l.take i)++e.needs.take j) (i*1000+j)) (λj=>e.needs.length-j) 0 ⟨ZB,G.step f2.below,But.of_below ZA,?_⟩ ?_
  .obtain ⟨m,H,I,h3⟩:=hC;exact ⟨m,H.below f2.below,by simpa using I,by simpa using h3⟩
  rintro j N ⟨hj,d,J,m,K,o,D⟩;have Y:ZT w N:=But.below R d ZJ;refine aB ?_;refine aI rfl (λai=> ?_) (λaj=> ?_)
  .have a8:j<e.needs.length:=ZJ;have Z:SL aS (λk=>k<w.heap.size) N (.slice C e.needs.length U) e.needs:=by
    obtain ⟨a9,s,_,_,_,t⟩:=SE.get hl M;have a0:=s 3 a9 rfl;have aa:=(z.cell (block_lt_of_cell a0)).trans a0;have:=n 3 _ rfl;rw [aa] at this;cases this;exact t.below Y
   obtain ⟨aq,rfl⟩:=Z.addr ZJ;have L:e.needs[j]?=some e.needs[j]:=ZD a8;refine aB ?_;refine aG rfl (Z.getI L) ?_;refine aB ?_;refine ik qU e.needs[j] rfl rfl underlying219 Ub rfl rfl K ?_;rintro vc ab;obtain ⟨c,rfl,ar,au⟩: ∃c:Int,vc= ZU c/\0<=c/\c<=i*1000+j:=by
    rcases ab with h|⟨_,rfl⟩
    .exact D _ h
    .exact ⟨0,rfl,ZJ,ZJ⟩
   refine aB ?_;refine dM qU e.needs[j] rfl underlying219 rfl rfl rfl K ?_;rintro w4 av u ac;refine aB ?_;refine cK (j+1) ⟨ZJ,d.trans u,J.trans u,_,ac,λx=> ?_,λp r=> ?_⟩
   .rw [ZG,L,<-List.append_assoc,List.mem_append,<-o x,List.mem_map,List.mem_map];constructor
    .rintro ⟨p,r,rfl⟩;rcases mem_lput.1 r with rfl|⟨h,_⟩
     .exact .inr ZM
     .exact .inl ⟨p,h,rfl⟩
    .rintro (⟨p,r,rfl⟩|h)
     .by_cases a1:p.1=e.needs[j]
      .exact ⟨_,mem_lput.2 (.inl rfl),a1.symm⟩
      .exact ⟨p,mem_lput.2 (.inr ⟨r,a1⟩),rfl⟩
     .simp at h;exact ⟨_,mem_lput.2 (.inl rfl),h.symm⟩
   .rcases mem_lput.1 r with rfl|⟨h,_⟩
    .exact ⟨c+1,rfl,ZJ,ZJ⟩
    .obtain ⟨c',H,I,h3⟩:=D p h;exact ⟨c',H,I,ZJ⟩
  .refine aB ?_;refine cK (i+1) ⟨ZJ,d,m,K,λx=> ?_,λp r=> ?_⟩
   .rw [o x,show j=e.needs.length by omega,List.take_length,ZG,M];simp [bV,List.flatMap_append]
   .obtain ⟨c',H,I,h3⟩:=D p r;exact ⟨c',H,I,ZJ⟩
 .obtain ⟨m,K,o,D⟩:=hC;rw [show i=l.length by omega,List.take_length] at o;have ae:m.length<=1000000:=by
   have H:=dY (l:=m.map (·.1)) (k:=bV l) K.keys (λx L=>(o x).1 L);have I: ∀(q:List Ev),(∀e∈q,e.needs.length<=1000)->(bV q).length<=q.length*1000:=by
    intro q
    induction q with
    | nil=>intro _; simp [bV]
    | cons a q ih =>
     intro hq;have:=ih (λe M=>hq e (by simp [M]));have h3:=hq a ZM;unfold bV at this ⊢;simp only [List.flatMap_cons,List.length_append,List.length_cons];omega
   have:=I l a5;simp at H;omega
  refine aB ?_;refine aN rfl (SQ) ?_;rintro y5 w5 ⟨E,g5,rfl,a2⟩;have q1: ∀k,(k=g5\/k=b)->k<w5.heap.size:=λk hk=>by
   rcases hk with rfl|rfl
   .exact a2.lt
   .exact (K.below E).lt
  have q2: ∀F x,FL (m.map (·.1)) F x->F.length<=1000000000:=λF x r=>by
   have:=dY (l:=F++ [x]) (k:=m.map (·.1)) r.1 r.2;simp at this;omega
  have q3: ∀O,MM (m.map (·.1)) O->O.length<=1000000000:=λO L=>by
   have:=dY (l:=O) (k:=m.map (·.1)) L.1 (λy hy=>(L.2 y).1 hy);simp at this;omega
  refine aN rfl (Lm (JM a2 (K.below E)) Vo q1 q2 q3) ?_;rintro y6 w6 ⟨af,O,a3,ag,ah⟩;have a4:aV l=O.mergeSort λx y=>decide (x<=y):=by
   refine nM (jH l) (FX a3.1) (λx=> ?_);rw [List.mem_mergeSort,a3.2 x,o x,mem_recsS];unfold bV;rw [List.mem_flatMap]
  refine aB ?_;refine aO rfl ⟨(z.step E).step af,?_,λq hq=>by have:=ah q hq; have:=E.size; have:=z.size; omega⟩;rw [a4,List.length_mergeSort];exact ag
end Go.Proofs.YtoleahhfkpkcjaaGreatDoor
namespace Go.PF
open Go.RowKit
section
section
variable {P:Program} {r:Option Nat} {Q:Exit->Act->World->Prop} {N:Nat} {ds:List Deferred}
theorem KL {c:Code} {E0:Env} (f:α->List Deferred) (E:α->Env) (J:α->World->Prop) (m:α->Nat) (s:α) (h0:J s w) (hE: ∀a,Fit N ds E0 a->Fit N (f s) (E s) a)
  (g: ∀x w,J x w->CW P r (Exit.then (λY Z=> ∃d,Fit N (f d) (E d) Y/\J d Z/\m d<m x) Q) N (f x) c (E x) w):CW P r Q N ds (.loop c) E0 w:=by
 classical
 intro a F
 let I:Act->World->Prop:=λa w=> ∃x,Fit N (f x) (E x) a/\J x w
 let M:Act->World->Nat->Prop:=λa w n=> ∃x,Fit N (f x) (E x) a/\J x w/\m x=n
 have b: ∀a w,I a w-> ∃n,M a w n/\ ∀k,M a w k->n<=k:=by
  intro a w ⟨x,l,o⟩;have t: ∀k,(∃j,j<=k/\M a w j)-> ∃n,M a w n/\ ∀k,M a w k->n<=k:=by
   intro k
   induction k with
   | zero =>
    rintro ⟨j,G,u⟩;have:j=0:=ZJ;subst this
    exact ⟨0,u,λk _=>Nat.zero_le k⟩
   | succ k H =>
    rintro ⟨j,G,u⟩;by_cases y: ∃j,j<=k/\M a w j
    .exact H y
    .refine ⟨j,u,λi K=> ?_⟩;rcases ZI i j with L|v
     .exact absurd ⟨i,ZJ,K⟩ y
     .exact v
  exact t (m x) ⟨m x,ZC,x,l,o,rfl⟩
 let μ:Act->World->Nat:=λa w=>if h:I a w then Classical.choose (b a w h) else 0
 have O: ∀a w,I a w-> ∃x,Fit N (f x) (E x) a/\J x w/\m x=μ a w:=by
  intro a w h;have:=(Classical.choose_spec (b a w h)).1;simpa [μ,h] using this
 have p: ∀a w x,Fit N (f x) (E x) a->J x w->μ a w<=m x:=by
  intro a w x l o;have q:I a w:=⟨x,l,o⟩;have:=(Classical.choose_spec (b a w q)).2 (m x) ⟨x,l,o,rfl⟩;simpa [μ,q] using this
 refine wpIn_loop I μ ⟨s,hE a F,h0⟩ λz A q=> ?_;obtain ⟨x,l,o,R⟩:=O z A q;refine wpIn_mono (g x A o z l) λe S U B=> ?_
 cases e with
 | normal =>
  obtain ⟨d,C,D,W⟩:=B
  exact ⟨⟨d,C,D⟩,by rw [<-R]; exact Nat.lt_of_le_of_lt (p S U d C D) W⟩
 | _=>exact B
def FE (D:Nat):Deferred:= {target:= .collected D,args:= #[]}
theorem OP {c:Code} {E:Env} (d:α->List Deferred) (F:α->Env) (J:α->World->Prop) (m:α->Nat) (e:α) (is:List Nat) (i:d e=ds) (j:J e w) (hE:PF.pick E is=some (F e))
  (a: ∀x w,J x w->CW P r (Exit.then (λg h=> ∃b,Fit N (d b) (F b) g/\J b h/\m b<m x) Q) N (d x) c (F x) w):CW P r Q N ds (.loop c) E w :=
 KL d F J m e j (λ_ f=>by rw [i]; exact f.pick hE) a
theorem KH {E:Env} {Dd:α->List Deferred} {F:α->Env} {J:α->World->Prop} {m:α->Nat} {x:α} (a:α) (is:List Nat) (e:Dd a=ds) (hp:PF.pick E is=some (F a)) (f:J a w) (hm:m a<m x) :
  KW N ds (Exit.then (λb c=> ∃a,Fit N (Dd a) (F a) b/\J a c/\m a<m x) Q .normal) E w :=
 λ_ d=>⟨a,by rw [e]; exact d.pick hp,f,hm⟩
variable {fn:Func} {R:Value->World->Prop} {E:Env} {w:World}
theorem sw (a:fn.results= #[]) {tmps:Array Value} {n:Nat}: ∀(c:List Nat) (w:World),c.Nodup->(∀D∈c,n<=D/\w.heap[D]?=some (.deferred (some [])))->(∀b,ExtF n w b->R (.tuple #[]) b) ->
  LeavesInM (FR none) 0 P fn tmps (λe b=> ∃v,e= .returned v/\R v b) (c.map FE) .returning w
 | [],w,_,_,h=>⟨.tuple #[],results_none a _ _ _,.tuple #[],rfl,h w (ExtF.refl _ _)⟩
 | D::c,w,k,i,h=>by
  have d:=List.nodup_cons.1 k;obtain ⟨l,j⟩:=i D ZM;have f:ExtF n w (w.putObj D (.deferred none)):=ExtF.putObj j rfl l;refine ⟨ZM,.inl ⟨D,_,rfl,run_takeDeferred j,?_⟩⟩;refine sw a c _ d.2 (λm g=> ?_) (λb o=>h b (f.trans o));obtain ⟨p,q⟩:=i m (by simp [g]);exact ⟨p,(World.putObj_heap_other (λe=>d.1 (by rw [<-e]; exact g))).trans q⟩
theorem LC {n:Nat} (f:List Nat) (d:fn.results= #[]) (hn:f.Nodup) (h: ∀D∈f,n<=D/\w.heap[D]?=some (.deferred (some []))) (i: ∀b,ExtF n w b->R (.tuple #[]) b) (e:Exit) (he:e= .ret\/e= .normal) :
  KW N (f.map FE) (bodyPostM (FR none) 0 P fn (λe b=> ∃v,e= .returned v/\R v b) e) E w:=by
 intro a g;have c:LeavesInM (FR none) 0 P fn a.tmps (λe b=> ∃v,e= .returned v/\R v b) a.defers .returning w:=by
  rw [g.defers];exact sw d f w hn h i
 rcases he with rfl|rfl
 .exact c
 .exact c
theorem LD {s t:Nat} {u:Value} (b:fn.results= #[.tmp s,.tmp t]) (hs:look E s=some (none,v)) (g:look E t=some (none,u)) (h:R (.tuple #[v,u]) w):KW N [] (bodyPostM (FR none) 0 P fn (λe c=> ∃v,e= .returned v/\R v c) .ret) E w:=by
 intro a d;have f:LeavesInM (FR none) 0 P fn a.tmps (λe c=> ∃v,e= .returned v/\R v c) a.defers .returning w:=by
  rw [d.defers];exact ⟨.tuple #[v,u],by rw [results_tmp2 b a.tmps P w,(d.slots s none v hs).1 trivial,(d.slots t none u g).1 trivial],_,rfl,h⟩
 exact f
theorem Q5 {D s t:Nat} {u:Value} (b:fn.results= #[.tmp s,.tmp t]) (hs:look E s=some (none,v)) (f:look E t=some (none,u)) (g:w.heap[D]?=some (.deferred (some []))) (h:R (.tuple #[v,u]) (w.putObj D (.deferred none))) :
  KW N ({target:= .collected D,args:= #[]}:: []) (bodyPostM (FR none) 0 P fn (λe d=> ∃v,e= .returned v/\R v d) .ret) E w :=
 Sg (λa W c _=>by rw [results_tmp2 b a.tmps P W,(c.slots s none v hs).1 trivial,(c.slots t none u f).1 trivial]) g h .ret (.inl rfl)
end
end
end Go.PF
namespace Go.Proofs.YtoleahhfkpkcjaaGreatDoor
open Go.Proofs.Tryz
open Go.PF Go.RowKit Go.Ord
attribute [local irreducible] TW CW KW DW
theorem Oz {T:Ty α} {n c:Nat} {l:List α} (h:SL T F w (.slice A n c) l) (y:i<=l.length):SL T F w (.slice (if c=i then A else A.map (·.add (i*T.n))) (n-i) (c-i)) (l.drop i):=by
 obtain ⟨r,s,b,t,v,e⟩:=h;obtain ⟨rfl,rfl,rfl⟩:=b;refine ⟨_,_,by rw [List.length_drop],by rw [List.length_drop]; omega,by rw [List.length_drop]; omega,λj x a=> ?_⟩;rw [List.getElem?_drop] at a;have f:=(ZE a).1;obtain ⟨d,g,rfl,m,o,p⟩:=e (i+j) x a;rw [if_neg ZJ];refine ⟨d.add (i*T.n),g,rfl,by rw [add_block]; exact m,λk u q=> ?_,p⟩;have:=o k u q;rw [add_add d (i*T.n) (j*T.n),<-Nat.add_mul];exact this
def SetsV (b:Nat) (v:Value) (n:Nat) (u:Value) (W:World):Prop:= ∃gs gl,u= .func (.func 159) #[] [.pointer (some ⟨gs,0,none⟩),.pointer (some ⟨gl,0,none⟩)].toArray/\Blk W gs 3 [ZU (n:Int)]/\Blk W gl 66 [v]/\b<=gs/\b<=gl
theorem SetsV.mono (b:Nat) (v:Value) (n:Nat):Ent.mono (.pr (SetsV b v n)):=λ_ _ _ a ⟨c,d,e,f,g,h⟩=>⟨c,d,e,f.next a,g.next a,h⟩
theorem sets_c {c n:Nat}:Gives prog 81 #[.slice A k c,ZU (n:Int)] w λu d=>ZT w d/\SetsV w.heap.size (.slice A k c) n u d:=by
 refine gv func81 ntmps81 ?_;refine aB ?_;refine bS rfl rfl rfl rfl ?_;rintro e h a;refine bS rfl rfl rfl rfl ?_;rintro g i b;refine aB ?_;refine dN rfl rfl (aA rfl ct (aA rfl ct aJ)) ?_;refine aB ?_;refine aO rfl ⟨a.below.step b.below,g,e,rfl,b.blk,a.blk.next b.below,?_,?_⟩
 .have:=b.at_; have:=a.below.size; omega
 .have:=a.at_; omega
def Lt (l:List Int) (n:Nat) (w:World) (pre:List (Value×List Int)) (x:Value×List Int) (M:Nat->Prop) (W:World):Prop:=(∃suf,bY l n=pre.map (·.2)++x.2::suf)/\SL aS (λk=>w.heap.size<=k/\ ¬M k) W x.1 x.2
theorem I9: ∀(n:Nat) {F:Nat->Prop} {v:Value} {l:List Int} {w:World} {E G:Nat},SL aS F w v l->(∀k,F k->k<w.heap.size)->n<=l.length->l.length<=1000->Blk w E 3 [ZU (n:Int)]->Blk w G 66 [v] ->
  zS prog 159 [.pointer (some ⟨E,0,none⟩),.pointer (some ⟨G,0,none⟩)] (λx:Value×List Int=> [x.1]) (Lt l n w) (λxs=>xs.map (·.2)=bY l n) (λk=>k=E\/k=G\/F k) w:=by
 intro n
 induction n with
 | zero =>
  intro F v l w E G hl hF hn c6 N ae H J Jx W M U c7 c8 hM Y hJ af hy h0;have bk:Blk W E 3 [ZU ((0:Nat):Int)]:=(U E (.inl rfl) N.lt).trans N;refine Tv func159 ntmps159 ?_;refine aB ?_;refine bS rfl rfl rfl rfl ?_;rintro g3 w1 f1;refine aB ?_;refine aG rfl ((bk.next f1.below).cell 0) ?_;refine aB ?_;refine aI rfl (λo=> ?_) (λd=> ?_)
  .refine aB ?_;refine aG rfl (f1.blk.cell 0) ?_;refine bL 3 rfl rfl kC ?_;rintro g4 w2 f2;have bl:=f1.below.step f2.below;have c9:J [] M w2:=hJ _ _ _ _ h0 (.of_below bl);have de:=bl.size;have ag:bY l 0= [[]]:=by cases l<;>rfl
   refine kE rfl rfl rfl (aA rfl ct aJ) (hy [] (.slice (some ⟨g4,0,none⟩) 0 0,[]) M w2 c9 ⟨⟨[],by rw [ag]; rfl⟩,⟨_,_,rfl,ZC,ZM,λi x hx=>by simp at hx⟩⟩ (λk b=>by have:=Y k b; omega) ZJ) ?_;rintro yb W3 hR;refine aB ?_;refine LC (n:=W.heap.size) [] results159 List.nodup_nil (λD hD=>by cases hD) (λw' hx=> ?_) .ret (.inl rfl)
   cases yb with
   | true =>
    obtain ⟨M',b8,_⟩:=hR.yes rfl
    exact .inl ⟨_,M',by rw [ag]; rfl,hJ _ _ _ _ b8 hx⟩
   | false =>
    obtain ⟨M',b8⟩:=hR.no rfl;exact .inr ⟨_,M',af _ _ _ _ b8 hx⟩
  .exact absurd rfl d
 | succ m ih =>
  intro F v l w E G hl hF hn c6 N ae H J Jx W M U c7 c8 hM Y hJ af hy h0;obtain ⟨A,q,rfl,_⟩:=hl.form;obtain ⟨ad,rfl⟩:=hl.addr ZJ;have bm: ∀W':World,(∀k,(k=E\/k=G\/F k)->k<w.heap.size->W'.heap[k]?=w.heap[k]?)->Blk W' E 3 [ZU ((m+1:Nat):Int)]/\Blk W' G 66 [.slice (some ad) l.length q]/\SL aS F W' (.slice (some ad) l.length q) l:=λW' h =>
   ⟨(h E (.inl rfl) N.lt).trans N,(h G (.inr (.inl rfl)) ae.lt).trans ae,hl.mono (Kept.of_blocks λk b t=>h k (.inr (.inr b)) t)⟩
  obtain ⟨m1,m2,m3⟩:=bm W U;refine Tv func159 ntmps159 ?_;refine aB ?_;refine bS rfl rfl rfl rfl ?_;rintro g3 w1 f1;refine aB ?_;have df:=f1.at_;have dg:=f1.size;refine aG rfl ((m1.next f1.below).cell 0) ?_;refine aB ?_;refine aI rfl (λo=> ?_) (λd=> ?_)
  .exfalso;omega
  refine aB ?_;refine aG rfl ((m2.next f1.below).cell 0) ?_;refine aB ?_;refine aG rfl ((m1.next f1.below).cell 0) ?_;refine aB ?_;refine dC [0,1,2,3,15,16] rfl ?_;refine OP (λx:Nat×List (Value×List Int)×(Nat->Prop)×List Nat=>x.2.2.2.map FE) (λx=> [(1,none,.pointer (some ⟨E,0,none⟩)),(2,none,.pointer (some ⟨G,0,none⟩)),(3,none,.pointer (some ⟨g3,0,none⟩)),(15,none,ZU ((l.length:Int)-((m+1:Nat):Int)+1)),(16,none,ZU (x.1:Int))])
   (λx W'=>J x.2.1 x.2.2.1 W'/\x.1<=l.length-m/\x.2.1.map (·.2)=iC l m x.1/\w1.heap.size<=W'.heap.size/\(∀k,x.2.2.1 k->k<W'.heap.size)/\(∀k,(k=E\/k=G\/F k)->k<w.heap.size->W'.heap[k]?=w.heap[k]?/\ ¬x.2.2.1 k)/\Blk W' g3 137 [.func (.yield H) #[] #[]]/\ ¬x.2.2.1 g3/\x.2.2.2.Nodup /\
    ∀ D∈x.2.2.2,w1.heap.size<=D/\W'.heap[D]?=some (.deferred (some []))/\ ¬x.2.2.1 D) (λx=>l.length-m-x.1)
   (0,[],M,[]) [1,2,3,15,16] rfl ⟨hJ _ _ _ _ h0 (.of_below f1.below),ZB,rfl,ZC,λk b=>by have:=Y k b; show k<w1.heap.size; omega,λk b t=>⟨(f1.below.block k ZJ).trans (U k b t),(hM k b).1⟩,f1.blk,λh=>by have:=Y _ h; omega,List.nodup_nil,λD hD=>by cases hD⟩ rfl ?_
  rintro ⟨i,B,Z,Ds⟩ W1 ⟨hj,hi,a0,bn,aq,aa,bo,ar,au,ab⟩;dsimp only at hj hi a0 bn aq aa bo ar au ab;refine aB ?_;refine aI rfl (λt=> ?_) (λca=> ?_)
  .have dh:i<l.length-m:=ZJ;have bp:i<l.length:=ZJ;obtain ⟨n1,n2,n3⟩:=bm W1 (λk b t=>(aa k b t).1);have hx:l[i]?=some l[i]:=ZD bp;refine aB ?_;refine lM rfl Ye rfl is3.q rfl ?_;rintro g4 w4 f4;refine aB ?_;refine gV mixed ZK ?_;have di:=f4.at_;have cb:=n1.next f4.below;have cc:=n2.next f4.below;have cd:=n3.below f4.below;refine dF rfl (cc.cell 0) ?_;refine dF rfl (f4.blk.cell 0) ?_;refine jE ?_;refine bM mW rfl ⟨ct,ct,trivial⟩ (λ_=>by (try dsimp only); omega) ?_;refine dF rfl (cb.cell 0) ?_;refine jE ?_;have e1:((i:Int)+1).toNat=i+1:=ZJ;have b9:SL aS F w4 (.slice (if q=((i:Int)+1).toNat then some ad else (some ad).map (·.add (((i:Int)+1).toNat*1))) (l.length-((i:Int)+1).toNat) (q-((i:Int)+1).toNat)) (l.drop (i+1)):=by
    have:=Oz cd (i:=i+1) ZJ;rw [e1];exact this
   have ba: ∀w':World,ZT w4 w'->Gives prog 81 #[.slice (if q=((i:Int)+1).toNat then some ad else (some ad).map (·.add (((i:Int)+1).toNat*1))) (l.length-((i:Int)+1).toNat) (q-((i:Int)+1).toNat),ZU (((m+1:Nat):Int)-1)] w' λu bb=>ZT w' bb/\SetsV w4.heap.size (.slice (if q=((i:Int)+1).toNat then some ad else (some ad).map (·.add (((i:Int)+1).toNat*1))) (l.length-((i:Int)+1).toNat) (q-((i:Int)+1).toNat)) m u bb:=λw' av=>by
    rw [show (((m+1:Nat):Int)-1)=(m:Int) by omega];exact sets_c.mono λu bb ⟨o,bq,br,d,r,h4,h5,h6⟩=>⟨o,bq,br,d,r,h4,Nat.le_trans av.size h5,Nat.le_trans av.size h6⟩
   refine xW (.pr (SetsV w4.heap.size (.slice (if q=((i:Int)+1).toNat then some ad else (some ad).map (·.add (((i:Int)+1).toNat*1))) (l.length-((i:Int)+1).toNat) (q-((i:Int)+1).toNat)) m)) ?_ rfl (λ_ w' av=>ba w' av) ?_
   .exact SetsV.mono _ _ _
   refine gJ (qg [1,2,3,4,15,16,25] rfl λvs w5 aw bs=>aL ?_);obtain ⟨v1,v2,v3,v4,dj,dk,dl,rfl,o,d,r,h4,ce,cf,cg⟩:=GU bs;refine tT ?_;cases o;cases d;cases r;cases h4;cases ce;cases cf;obtain ⟨bq,br,rfl,b1,b2,d7,d8⟩:=cg;have p:=f4.below.step aw;have d9:=p.size;have dm:=f4.below.size;have bs:=aw.size;have ch:=b9.below aw;have ci:J B Z w5:=hJ _ _ _ _ hj (.of_below p);have b3:=bo.next p;have bt:=f4.blk.next aw;have o1:=n1.next p;have o2:=n2.next p;have o3:=n3.below p;have bc:=b1.lt;have bd:=b2.lt;have b4:iC l m (i+1)=iC l m i++(bY (l.drop (i+1)) m).map (l[i]:: ·):=by
    rw [lV];unfold qK;rw [hx]
   have bu: ∃ah,bY l (m+1)=iC l m (i+1)++ah:=by
    rw [wD];refine ⟨(List.range' (i+1) (l.length-(i+1))).flatMap (qK l m),?_⟩;unfold iC;rw [<-List.flatMap_append,List.range_eq_range',List.range_eq_range']
    congr 1
    have:=List.range'_append_1 (s:=0) (m:=i+1) (n:=l.length-(i+1));rw [Nat.zero_add,show i+1+(l.length-(i+1))=l.length by omega] at this;exact this.symm
   have a8: ∀k,F k->k<w.heap.size/\ ¬Z k/\k≠H:=λk b=>⟨hF k b,(aa k (.inr (.inr b)) (hF k b)).2,(hM k (.inr (.inr b))).2⟩;have cj:E<w.heap.size/\ ¬Z E/\E≠H:=⟨N.lt,(aa E (.inl rfl) N.lt).2,(hM E (.inl rfl)).2⟩;have ai:G<w.heap.size/\ ¬Z G/\G≠H:=⟨ae.lt,(aa G (.inr (.inl rfl)) ae.lt).2,(hM G (.inr (.inl rfl))).2⟩;have bv: ¬Z g4:=λh=>by have:=aq _ h; omega
   have bw:=ih (F:=F) ch (λk b=>by have:=hF k b; omega) (by rw [List.length_drop]; omega) (by rw [List.length_drop]; omega) b1 b2;refine qi rfl Rq bw rfl (λ_=>rfl)
    (λz Mi I=> ∃a M,Mi=(λk=>M k\/k=H)/\J (B++a) M I/\a.map (·.2)=(z.map (·.2)).map (l[i]:: ·)/\w5.heap.size<=I.heap.size/\(∀k,M k->k<I.heap.size)/\(∀k,k<w5.heap.size-> ¬Z k->k≠H->I.heap[k]?=w5.heap[k]?)/\ ∀k,k<w5.heap.size->M k->Z k)
    (λc z Mi I=>c= .ret/\(∃a M,Jx a M I)/\ ∀k,k<w5.heap.size-> ¬Z k->k≠H->I.heap[k]?=w5.heap[k]?)
    (λk=>Z k\/k=H) ?_ ?_ ?_ ?_ ?_ ?_ ?_ ?_
   .rintro k (b|rfl)
    .have:=aq k b;refine ⟨ZJ,?_⟩;rintro (rfl|rfl|h)
     .omega
     .omega
     .exact (a8 k h).2.1 b
    .refine ⟨ZJ,?_⟩;rintro (rfl|rfl|h)
     .omega
     .omega
     .exact (a8 _ h).2.2 rfl
   .rintro k (rfl|rfl|h)
    .exact bc
    .exact bd
    .have:=hF k h; omega
   .rintro z Mi Wa Wb ⟨a,K,a1,a2,a3,a4,a5,a6,a7⟩ O;refine ⟨a,K,a1,hJ _ _ _ _ a2 (O.less ZJ),a3,Nat.le_trans a4 O.size,λk b=>Nat.lt_of_lt_of_le (a5 k b) O.size,λk o d r=> ?_,a7⟩;have e:=a6 k o d r;rw [Array.getElem?_eq_getElem o] at e ⊢;exact O.block k _ e (.inl o)
   .rintro c z Mi Wa Wb ⟨a1,⟨a,K,a2⟩,a6⟩ O;refine ⟨a1,⟨a,K,af _ _ _ _ a2 (O.less ZJ)⟩,λk o d r=> ?_⟩;have e:=a6 k o d r;rw [Array.getElem?_eq_getElem o] at e ⊢;exact O.block k _ e (.inl o)
   .exact ⟨[],Z,rfl,by rw [List.append_nil]; exact ci,rfl,ZC,λk b=>by have:=aq k b; omega,λk _ _ _=>rfl,λk _ h=>h⟩
   .rintro D L z x Mi I hD hL ⟨a,K,rfl,a2,a3,a4,a5,a6,a7⟩ ⟨⟨ck,aj⟩,be⟩ cm bx ax bz;have ay: ¬K L/\L≠H:=⟨λh=>bx (.inl h),λh=>bx (.inr h)⟩;refine aB ?_;refine ni bz λW2 c0 da c1 ak=> ?_;have az: ∀k,k<w5.heap.size-> ¬Z k->k≠H->W2.heap[k]?=w5.heap[k]?:=λk o d r=>(c1 k ZJ).trans (a6 k o d r);have p2:Blk W2 G 66 [.slice (some ad) l.length q]:=(az G ZJ ai.2.1 ai.2.2).trans o2;have p3:SL aS F W2 (.slice (some ad) l.length q) l:=o3.mono (Kept.of_blocks λk b t=>az k t (a8 k b).2.1 (a8 k b).2.2);have p4:Blk W2 g4 3 [ZU (i:Int)]:=(az g4 (by have:=f4.size; omega) bv ZJ).trans bt;have p5:Blk W2 g3 137 [.func (.yield H) #[] #[]]:=(az g3 ZJ ar ZJ).trans b3;obtain ⟨al,cn,co,hI⟩:=p3.int hx;cases cn;obtain ⟨xv,xl⟩:=x;dsimp only at aj be;obtain ⟨Ax,cx,rfl,_⟩:=be.form;have b5:SL aS (λk=>w5.heap.size<=k/\ ¬(K k\/k=H)) W2 (.slice Ax xl.length cx) xl:=be.ext c0;have cp: ∀(j:Nat) (u:Value),(xl.map (Value.int .i64))[j]?=some u-> ∃al:Addr,Ax=some al/\W2.cell? (al.add j)=some u:=by
     intro j u hu;obtain ⟨y,hy,rfl⟩:=by simpa using hu
     obtain ⟨al,o,d,_⟩:=b5.int (i:=j) hy;exact ⟨al,o,by rw [Nat.mul_one] at d; exact d⟩
    have c2:xl∈bY (l.drop (i+1)) m:=by rw [aj]; simp
    have cq:xl.length=m:=(mem_setsS.1 c2).2;refine aB ?_;refine dP mixed λW3 cr=> ?_;refine iP .own 8 ZK ZK rfl rfl cr ?_;refine dF rfl (p5.cell 0) ?_;refine dF rfl (p2.cell 0) ?_;refine dF rfl (p4.cell 0) ?_;refine bM V.indexAddr rfl ⟨ct,ct,trivial⟩ (λ_=>ZJ) ?_;refine dF rfl co ?_;refine iN 3 _ rfl rfl rfl kC (cO rfl ct dR) rfl rfl rfl rfl rfl ?_;refine jE ?_;refine jW (m:=xl.length) (A:=Ax) (xl.map (Value.int .i64)) rfl rfl ji rfl ZK rfl ct cp ZM (λu hu=>by obtain ⟨y,_,rfl⟩:=List.mem_map.1 hu; rfl) ZJ ZJ ?_;refine gJ (qg [27,34] rfl λvs w6 b0 cs=>gy ?_);obtain ⟨dn,ac,rfl,cu,cv⟩:=Sats.two cs;cases cu;have b6:OwnS w6 3 1 ac (1+xl.length) ([ZU l[i]]++xl.map (Value.int .i64))/\ ∀g,ac.ownBlock=some g->W2.heap.size<=g:=cv;have cw: ∀y∈xl,fF y:=λy hy=>by
     obtain ⟨j,hj,cy⟩:=List.getElem_of_mem hy;obtain ⟨_,_,_,h⟩:=b5.int (i:=j) (x:=y) (by rw [<-cy]; exact ZD hj);exact h
    have c3:SL aS (λk=>w.heap.size<=k/\ ¬K k) w6 ac (l[i]::xl):=by
     refine dO (e:=3) ?_ (λy hy=> ?_) (λg hg=> ?_) ZO
     .have:=b6.1;rw [Nat.add_comm] at this;exact this
     .rcases List.mem_cons.1 hy with rfl|hy
      .exact hI
      .exact cw y hy
     .have:=b6.2 g hg;refine ⟨ZJ,λh=> ?_⟩;have:=a5 g h;omega
    have cz:J (B++a) K w6:=hJ _ _ _ _ (hJ _ _ _ _ a2 (c0.less ZJ)) (.of_below b0);have db:=b0.size;have c4:Lt l (m+1) w (B++a) (ac,l[i]::xl) K w6:=by
     refine ⟨?_,c3⟩;obtain ⟨ah,bf⟩:=bu;refine ⟨ck.map (l[i]:: ·)++ah,?_⟩;rw [bf,b4,aj,List.map_append,List.map_append,a0,a3];simp
    refine eu ZK ZK rfl ?_;refine kE rfl rfl rfl (aA rfl ct aJ) (hy (B++a) (ac,l[i]::xl) K w6 cz c4 (λk b=>by have:=a5 k b; omega) ZJ) ?_;rintro yb W7 hR;refine dG (bD [35] [(35,_,_)] rfl (iB ?_));refine eu ZK ZK rfl ?_;refine aM zJ rfl ⟨ct,trivial⟩ (λ_=>trivial) ?_;refine dG (bD [36] [(36,_,_)] rfl (iB ?_));refine kG rfl (bD [36] [(36,_,_)] rfl (aL ?_));have d0:L<W2.heap.size:=ak.lt;have am:=ak.kept ((hR.kept L ZJ ay.1 ay.2).trans (b0.block L d0));have dp:=hR.size;have R: ∀k,k<I.heap.size-> ¬(K k\/k=H)->k≠L->W7.heap[k]?=I.heap[k]?:=λk o d r =>
     (hR.kept k ZJ (λh=>d (.inl h)) (λh=>d (.inr h))).trans ((b0.block k ZJ).trans (c1 k r))
    have b7: ∀k,k<w5.heap.size-> ¬Z k->k≠H->W7.heap[k]?=w5.heap[k]?:=λk o d r =>
     (R k ZJ (λh=>h.elim (λh=>d (a7 k o h)) r) ZJ).trans (a6 k o d r)
    refine aK rfl (λd1=> ?_) (λd2=> ?_)
    .refine aB ?_;obtain ⟨M',bg⟩:=hR.no (by simpa using d1);refine IJ am λW8 bh c5 an S=> ?_;refine ⟨ZJ,λk o d r=>(an k r).trans (R k o d r),λh=>(by cases h),λ_=>⟨M',.ret,⟨rfl,⟨_,M',af _ _ _ _ bg (bh.less ZJ)⟩,λk o d r=>(an k ZJ).trans (b7 k o d r)⟩,S⟩⟩
    .refine aB ?_;obtain ⟨M',d3,bi⟩:=hR.yes (by simpa using d2);have ao: ∀k,k<I.heap.size->M' k->K k:=λk o d=>by
      rcases (bi k d).1 with h|h
      .exact h
      .omega
     have d4:L<I.heap.size:=ZJ;refine my am λW8 bh c5 an S=> ?_;refine ⟨ZJ,λk o d r=>(an k r).trans (R k o d r),λ_=>⟨λk=>M' k\/k=H,⟨⟨a++ [(ac,l[i]::xl)],M',rfl,?_,?_,ZJ,λk b=>by have:=(bi k b).2; omega,λk o d r=>(an k ZJ).trans (b7 k o d r),λk o d=>a7 k o (ao k ZJ d)⟩,?_,?_,S⟩,λk b=> ?_⟩,λh=>by cases h⟩
     .rw [<-List.append_assoc];exact hJ _ _ _ _ d3 (bh.less ZJ)
     .simp [a3]
     .rintro (h|h)
      .exact ay.1 (ao L d4 h)
      .exact ay.2 h
     .rintro (h|h)
      .exact ax (.inl (ao D ZJ h))
      .exact ax (.inr h)
     .rcases b with b|rfl
      .obtain ⟨q1,q2⟩:=bi k b;exact ⟨q1.elim (λh=> .inl (.inl h)) (λh=> .inr ZJ),ZJ⟩
      .exact ⟨.inl (.inr rfl),ZJ⟩
   .rintro D xs Mi I hD bj ⟨a,K,rfl,a2,a3,a4,a5,a6,a7⟩ ax a9;refine fB (fB (aL ?_));refine aB ?_;have dc:D<I.heap.size:=(Array.getElem?_eq_some_iff.1 a9).1;have ap: ∀k,k<W1.heap.size->K k->Z k:=λk o d=>a7 k ZJ d;refine KH (i+1,B++a,K,D::Ds) [1,2,3,15,16] rfl rfl ⟨a2,?_,?_,?_,a5,?_,?_,?_,?_,?_⟩ ?_
    .show i+1<=l.length-m;omega
    .show (B++a).map (·.2)=iC l m (i+1);rw [List.map_append,a0,a3,bj,b4]
    .show w1.heap.size<=I.heap.size;omega
    .intro k b t;have h:=aa k b t;have d5:=(hM k b).2;exact ⟨(a6 k ZJ h.2 d5).trans ((p.block k ZJ).trans h.1),λh'=>h.2 (ap k ZJ h')⟩
    .exact (a6 g3 ZJ ar ZJ).trans b3
    .exact λh=>ar (ap g3 ZJ h)
    .refine List.nodup_cons.2 ⟨λh=> ?_,au⟩;have:=(Array.getElem?_eq_some_iff.1 (ab D h).2.1).1;omega
    .intro D' C;rcases List.mem_cons.1 C with rfl|C
     .exact ⟨ZJ,a9,λh=>ax (.inl h)⟩
     .obtain ⟨q1,q2,q3⟩:=ab D' C;have q4:=(Array.getElem?_eq_some_iff.1 q2).1;exact ⟨q1,(a6 D' ZJ q3 ZJ).trans ((p.block D' q4).trans q2),λh=>q3 (ap D' q4 h)⟩
    .show l.length-m-(i+1)<l.length-m-i;omega
   .rintro D c z Mi I hD ⟨rfl,⟨a,K,bg⟩,a6⟩ a9;refine aB ?_;refine LC (n:=W.heap.size) (D::Ds) results159 ?_ ?_ (λw' hx=> .inr ⟨_,_,af _ _ _ _ bg hx⟩) .ret (.inl rfl)
    .refine List.nodup_cons.2 ⟨λh=> ?_,au⟩;have:=(Array.getElem?_eq_some_iff.1 (ab D h).2.1).1;omega
    .intro D' C;rcases List.mem_cons.1 C with rfl|C
     .exact ⟨ZJ,a9⟩
     .obtain ⟨q1,q2,q3⟩:=ab D' C;have q4:=(Array.getElem?_eq_some_iff.1 q2).1;exact ⟨ZJ,(a6 D' ZJ q3 ZJ).trans ((p.block D' q4).trans q2)⟩
  .refine aB ?_;have d6:i=l.length-m:=by
    have dd: ¬((i:Int)<(l.length:Int)-((m+1:Nat):Int)+1):=ca;omega
   refine LC (n:=W.heap.size) Ds results159 au (λD' C=> ?_) (λw' hx=> .inl ⟨B,Z,?_,hJ _ _ _ _ hj hx⟩) .normal (.inr rfl)
   .obtain ⟨q1,q2,q3⟩:=ab D' C;exact ⟨ZJ,q2⟩
   .show B.map (·.2)=bY l (m+1);rw [a0,wD,d6];have:=qy (l:=l) (k:=m) (l.length-m) m ZJ;rw [show l.length-m+m=l.length by omega] at this;exact this.symm
section
theorem RowL.ext {α:Type} {T:Ty α} {w w':World} {e:TypeId} {b n:Nat} {v:Value} {ps:List (List Value×α)} (h:RowL T w e b v ps) (k:ExtF n w w'):RowL T w' e b v ps :=
 ⟨h.1.ext k,λp c=>T.wider _ _ _ _ _ (λq a=>⟨Nat.lt_of_lt_of_le a.1 k.size,a.2⟩) (T.mono _ _ _ _ _ k.kept (h.2.1 p c)),h.2.2⟩
theorem RowL.kept {α:Type} {T:Ty α} {w w':World} {e:TypeId} {b:Nat} {v:Value} {ps:List (List Value×α)} (h:RowL T w e b v ps) (hs:w.heap.size<=w'.heap.size) (g:Nat) (j:v.ownBlock≠some g) (d: ∀k,k<w.heap.size->k≠g->w'.heap[k]?=w.heap[k]?) (l: ∀p∈ps,T.rep (λk=>iE w v k/\k≠g) w p.1 p.2):RowL T w' e b v ps :=
 ⟨h.1.kept λq a=>d q (h.1.lt a) (λe=>j (by rw [<-e]; exact a)),λp f=>T.wider _ _ _ _ _ (λq a=>⟨Nat.lt_of_lt_of_le a.1.1 hs,a.1.2⟩) (T.mono _ _ _ _ _ (Kept.of_blocks λk i c=>d k c i.2) (l p f)),h.2.2⟩
def RowN {α:Type} (T:Ty α) (w:World) (e:TypeId) (b:Nat) (v:Value) (ps:List (List Value×α)):Prop:=OwnS w e T.n v ps.length (ps.flatMap (·.1))/\(∀p∈ps,T.rep (λk=>iE w v k/\b<=k) w p.1 p.2)/\ ∀g,v.ownBlock=some g->b<=g
section
variable {α:Type} {T:Ty α} {w w':World} {e:TypeId} {b:Nat} {v v':Value} {ps:List (List Value×α)}
theorem RowN.rowL (h:RowN T w e b v ps):RowL T w e b v ps:=⟨h.1,λp a=>T.wider _ _ _ _ _ (λ_ c=>c.1) (h.2.1 p a),h.2.2⟩
theorem RowN.nil (T:Ty α) (w:World) (e:TypeId) (b:Nat):RowN T w e b (.slice none 0 0) []:=⟨OwnS.nil _ _ _,(λp a=>by cases a),λg h=>by simp [Value.ownBlock] at h⟩
theorem RowN.ext {n:Nat} (h:RowN T w e b v ps) (k:ExtF n w w'):RowN T w' e b v ps :=
 ⟨h.1.ext k,λp c=>T.wider _ _ _ _ _ (λq a=>⟨⟨Nat.lt_of_lt_of_le a.1.1 k.size,a.1.2⟩,a.2⟩) (T.mono _ _ _ _ _ k.kept (h.2.1 p c)),h.2.2⟩
theorem RowN.step (h:RowN T w e b v ps) (hb:ZT w w'):RowN T w' e b v ps:=h.ext (n:=0) (.of_below hb)
theorem RowN.kept (h:RowN T w e b v ps) (hs:w.heap.size<=w'.heap.size) (d: ∀k,b<=k->k<w.heap.size->w'.heap[k]?=w.heap[k]?):RowN T w' e b v ps :=
 ⟨h.1.kept λq a=>d q (h.2.2 q a) (h.1.lt a),λp f=>T.wider _ _ _ _ _ (λq a=>⟨⟨Nat.lt_of_lt_of_le a.1.1 hs,a.1.2⟩,a.2⟩) (T.mono _ _ _ _ _ (Kept.of_blocks λk g c=>d k g.2 c) (h.2.1 p f)),h.2.2⟩
theorem RowN.setCell (h:RowN T w e b v ps) {g i:Nat} (c:g<b) (u:Value):RowN T (w.setCell ⟨g,i,none⟩ u) e b v ps :=
 h.kept ZM λk a _=>Below.heap_setCell _ _ _ _ (λe=>by have e:k=g:=e; omega)
theorem RowN.app {cs:List Value} {x:α} (h:RowN T w e b v ps) (l:OwnS w' e T.n v' (ps.length+1) (ps.flatMap (·.1)++cs)) (j:w.grownBy w' v.ownBlock) (hn:v'.ownBlock=v.ownBlock\/v'.ownBlock=some w.heap.size)
  (m:T.rep (λk=>iE w v k/\b<=k) w cs x) (hb:b<=w.heap.size):RowN T w' e b v' (ps++ [(cs,x)]):=by
 have a:Kept (λk=>iE w v k/\b<=k) w w':=Kept.of_blocks λk a f=>j.block k f (λe=>a.1.2 e.symm);have i: ∀k,iE w v k/\b<=k->iE w' v' k/\b<=k:=λk a=>⟨⟨Nat.lt_of_lt_of_le a.1.1 j.size,λe=>by
  rcases hn with c|c
  .exact a.1.2 (by rw [<-c]; exact e)
  .rw [c] at e; cases e; exact absurd a.1.1 (Nat.lt_irrefl _)⟩,a.2⟩
 refine ⟨by rw [List.flatMap_append,List.length_append]; simpa using l,λp d=> ?_,λq g=> ?_⟩
 .rcases ZH d with d|d
  .exact T.wider _ _ _ _ _ i (T.mono _ _ _ _ _ a (h.2.1 p d))
  .rw [List.mem_singleton] at d;subst d;exact T.wider _ _ _ _ _ i (T.mono _ _ _ _ _ a m)
 .rcases hn with c|c
  .exact h.2.2 q (by rw [<-c]; exact g)
  .rw [c] at g; cases g; exact hb
theorem RowN.sl (f:0<T.n) (h:RowN T w e b v ps):SL T (λk=>b<=k/\k<w.heap.size) w v (ps.map (·.2)) :=
 eB ps (λp d=>T.wider _ _ _ _ _ (λ_ a=>⟨a.2,a.1.1⟩) (h.2.1 p d)) f h.1 rfl (λg c=>⟨h.2.2 g c,h.1.lt c⟩) h.rowL.big
end
noncomputable def aQ (d:bG) (l:List Ev) (most:Int):List (List Int):=if dec (WfP d l)=true/\0<=most/\most<=3/\(aV l).length<=14 then (bY (aV l) (min most.toNat (aV l).length)).filter (λS=>dec (Poss d (dB l S))) else []
noncomputable def bU (d:bG) (l:List Ev) (most:Int):Int:=if dec (WfP d l)=true/\0<=most/\most<=3 then (if (aV l).length<=14 then (if aQ d l most= [] then 280 else 0) else 2) else 1
theorem ui (l:List Ev) (S:List Int):(dB l S).Sublist l:=List.filter_sublist
theorem WfP.rest (h:WfP d l) (S:List Int):jX d (dB l S)↔Poss d (dB l S) :=
 ⟨λh=>h.2,λa=>⟨⟨h.wd,by have:=(ui l S).length_le; have:=h.few; omega,λe b=>h.each e ((ui l S).subset b)⟩,a⟩⟩
theorem vZ {dv ev:Value} {most:Int} (hd:SD w dv d) (hl:SE w ev l) (bj: ∀e∈l,e.needs.length<=1000) :
  Gives prog 35 #[dv,ev,ZU most] w λx w'=>ZT w w'/\ ∃v,x= .tuple #[v,ZU (bU d l most)]/\SL (sliceT aS) (λk=>w.heap.size<=k/\k<w'.heap.size) w' v (aQ d l most):=by
 obtain ⟨A,ak,rfl,c9⟩:=hd.form;obtain ⟨B,K,rfl,bl⟩:=hl.form;refine Tv func35 ntmps35 ?_;refine aB ?_;refine bS rfl rfl rfl rfl ?_;rintro g3 w1 f1;refine bS rfl rfl rfl rfl ?_;rintro g4 w2 f2;refine aB ?_;have N:=f1.below.step f2.below;refine aG rfl ((f1.blk.next f2.below).cell 0) ?_;refine aG rfl (f2.blk.cell 0) ?_;refine aN rfl (PM (fI hd N) (dW hl N)) ?_;rintro y3 w3 ⟨a,rfl⟩;have y:=N.step a;refine aB ?_;refine aK rfl (λz=> ?_) (λO=> ?_)
 .refine aB ?_;refine LD results35 rfl rfl ⟨y,.slice none 0 0,?_,?_⟩
  .unfold bU;rw [if_neg];rintro ⟨F,h2,h3⟩;rw [F] at z;simp at z;omega
  .unfold aQ;rw [if_neg]
   .exact SL.nil _ _ _
   rintro ⟨F,h2,h3,_⟩;rw [F] at z;simp at z;omega
 have hW:WfP d l:=dec_iff.1 (by cases hq:dec (WfP d l)<;>simp_all);have hm:0<=most/\most<=3:=by
  rw [aD hW] at O;simp at O;omega
 have cm:=hW.few;refine aB ?_;refine aG rfl (((f2.blk.next a).cell 0)) ?_;refine aN rfl (Ci (dW hl y) ZJ bj) ?_;rintro y4 w4 ⟨aa,o4,q4⟩;have ag:=y.step aa;obtain ⟨R4,c4,rfl,cn,_⟩:=o4.form;have al: ∀x∈aV l,fF x:=λx hx=>by
  obtain ⟨e,he,bm⟩:=mem_recsS.1 hx;obtain ⟨i,hi,bn⟩:=List.getElem_of_mem he;obtain ⟨ad,cs,_,_,⟨nv,_,_,_,_,hn⟩,_⟩:=hl.at (i:=i) (x:=e) (by rw [<-bn]; exact ZD hi);obtain ⟨j,hj,bo⟩:=List.getElem_of_mem bm;exact hn.rngI (i:=j) (x:=x) (by rw [<-bo]; exact ZD hj)
 refine aB ?_;refine dC [0,1,2,3,4,6,7,8,29] rfl ?_;refine aI rfl (λca=> ?_) (λbk=> ?_)
 .refine aB ?_;refine LD results35 rfl rfl ⟨ag,.slice none 0 0,?_,?_⟩
  .unfold bU;rw [if_pos ⟨aD hW,hm⟩,if_neg ZJ]
  .unfold aQ;rw [if_neg (by rintro ⟨_,_,_,h⟩; omega)];exact SL.nil _ _ _
 have am:(aV l).length<=14:=ZJ;refine aB ?_;refine gq rfl rfl Ws ?_;rintro r w5 f5;refine aB ?_;refine aM xK rfl ⟨ct,ct,trivial⟩ (λ_=>trivial) ?_;have b2:min most ((aV l).length:Int)=((min most.toNat (aV l).length:Nat):Int):=ZJ;rw [b2];refine aN rfl (sets_c) ?_;rintro y6 w6 ⟨G,gs,gl,rfl,an,b3,cb,cc⟩;have b4:=ag.step f5.below;have b5:=b4.step G;refine aB ?_;obtain ⟨n,hn⟩: ∃n,n=min most.toNat (aV l).length:=⟨_,rfl⟩;rw [<-hn] at an;have cd:=aa.size;have ce:=y.size;have cf:=f5.below.size;have cg:=G.size;have co:=f5.at_;have ch:=f5.size;have bp:SL aS (λk=>(Value.slice R4 (aV l).length c4).ownBlock=some k) w6 (.slice R4 (aV l).length c4) (aV l):=(dO (o4.below (f5.below.step G)) al (λg hg=>hg) ZJ);have ao: ∀k,(Value.slice R4 (aV l).length c4).ownBlock=some k->k<w4.heap.size/\w3.heap.size<=k:=λk o=>⟨o4.lt o,q4 k o⟩;have bq:=I9 n bp (λk o=>by have:=(ao k o).1; omega) ZJ ZJ an b3;have cp:=f1.at_;have cq:=f2.at_;have cr:=f1.size;have cu:=f2.size;have b6:=a.size;have B3:Blk w6 g3 40 [.slice A d.length ak]:=f1.blk.next (f2.below.step (a.step (aa.step (f5.below.step G))));have B4:Blk w6 g4 39 [.slice B l.length K]:=f2.blk.next (a.step (aa.step (f5.below.step G)))
 have B9:Blk w6 r 40 [.slice none 0 0]:=f5.blk.next G;refine qi rfl Rq bq rfl (λ_=>rfl)
  (λH M W=>ZT w W/\w6.heap.size<=W.heap.size/\Blk W g3 40 [.slice A d.length ak]/\Blk W g4 39 [.slice B l.length K]/\ ∃s C,Blk W r 40 [s]/\RowN (sliceT aS) W 66 w6.heap.size s C/\C.map (·.2)=(H.map (·.2)).filter (λS=>dec (Poss d (dB l S)))/\M=λk=>k=r\/s.ownBlock=some k)
  (λc H M W=>False) (λk=>k=r) ?_ ?_ ?_ (λ_ _ _ _ _ h _=>h) ?_ ?_ ?_ ?_
 .rintro k rfl;refine ⟨ZJ,?_⟩;rintro (rfl|rfl|h)
  .omega
  .omega
  .have:=ao _ h; omega
 .rintro k (rfl|rfl|h)
  .exact an.lt
  .exact b3.lt
  .have:=ao k h; omega
 .rintro H M W1 W2 ⟨a1,a2,a3,a4,s,C,a5,a6,a7,a8⟩ hx;exact ⟨(hx.less ZJ).below a1 ZC,Nat.le_trans a2 hx.size,a3.ext hx,a4.ext hx,s,C,a5.ext hx,a6.ext hx,a7,a8⟩
 .exact ⟨b5,ZC,B3,B4,.slice none 0 0,[],B9,RowN.nil _ _ _ _,rfl,by funext k; simp [Value.ownBlock]⟩
 .rintro D L H ⟨xv,xl⟩ M W hD hL ⟨a1,a2,a3,a4,s,C,a5,a6,a7,rfl⟩ ⟨⟨cw,ah⟩,ap⟩ ci aq ab b7;dsimp only at ah ap;obtain ⟨Ax,cx,rfl,_⟩:=ap.form;have cy:C.length<=3375:=by
   have e1:C.length=(C.map (·.2)).length:=ZM;rw [e1,a7];have e2:=List.length_filter_le (λS=>dec (Poss d (dB l S))) (H.map (·.2));have e3:=pO (aV l) n;rw [ah] at e3;simp at e3 e2;have e4:((aV l).length+1) ^ n<=15 ^ n:=Nat.pow_le_pow_left ZJ n;have e5:15 ^ n<=15 ^ 3:=Nat.pow_le_pow_right ZJ ZJ;simp;omega
  refine aB ?_;refine ni b7 λW2 I cj b9 t=> ?_;have ar:ZT w W2:=(I.less ZJ).below a1 ZC;have au:=a3.ext I;have av:=a4.ext I;have br:=a5.ext I;have aw:=a6.ext I;have ai:=ap.ext I;refine aB ?_;refine gV mixed ZK ?_;refine dF rfl (au.cell 0) ?_;refine dF rfl (av.cell 0) ?_;refine jE ?_;refine xW (.pr (λu W=>SE W u (dB l xl))) ?_ rfl (λ_ w' ac=>LK (dW hl (ar.step ac)) (ai.below ac) ZJ (λe he=>by have:=bj e he; omega)) ?_
  .exact λ_ _ _ hb h=>dW h hb
  refine Ey (.pr λu _=> ∃v,u= .tuple #[v,.bool (dec (jX d (dB l xl)))]) (gL _) rfl rfl Xl rfl ct (bC rfl ct (bC rfl ct (bC rfl ct eO))) (λ_ w' ac vs hs=> ?_) ?_
  .obtain ⟨_,u,_,rfl,rfl,hu,rfl⟩:=rA hs;exact (Dr (fI hd (ar.step ac)) hu).mono λx cz ⟨F,h2⟩=>⟨F,h2⟩
  refine OI rfl rfl rfl ct (gL _) ?_;refine vw (λ_ _=>True) rfl rfl rfl ct (gL _) (λu w' ⟨v',F⟩=>⟨_,v',F,rfl,trivial⟩) ?_;refine vw (λu _=>u= .bool (dec (jX d (dB l xl)))) rfl rfl rfl ct (gL _) (λu w' ⟨v',F⟩=>⟨_,_,F,rfl,rfl⟩) ?_;refine lS rfl rfl rfl ct (gL _) ?_;refine lS rfl rfl rfl ct (gL _) ?_;refine gJ (qg [9,10,12] rfl λvs W3 a b6=>aL ?_);obtain ⟨v9,d0,bs,rfl,h9,bt,bu⟩:=rA b6;refine aB ?_;refine dC [9,10,12,45] rfl ?_;cases h9;cases bt;obtain rfl:bs=_:=bu;rw [dJ (hW.rest xl)];have bv:L<W2.heap.size:=t.lt;have aj:W3.heap[L]?=W2.heap[L]?:=a.block L bv;have s3:=a.size;have R:=ar.step a;have U:=br.next a;have Y:=aw.step a;have ax:=ai.below a;have b: ∀q,s.ownBlock=some q->w6.heap.size<=q/\q<W2.heap.size:=λq hq=>⟨aw.2.2 q hq,aw.1.lt hq⟩;have ba:s.ownBlock≠some L:=λe=>aq (.inr e);have bw:s.ownBlock≠some D:=λe=>ab (.inr e);have bb:L≠r:=λe=>aq (.inl e);have bx:D≠r:=λe=>ab (.inl e);refine aK rfl (λbc=> ?_) (λbz=> ?_)
  .refine dK ?_;refine aG rfl (U.cell 0) ?_;refine aB ?_;refine bI 66 _ rfl rfl rfl Qp (aA rfl ct aJ) rfl rfl rfl rfl rfl ?_;rintro c0 w7 J;have o7:=Y.1.below J.below;refine aT [.slice Ax xl.length cx] rfl rfl Qg rfl o7 rfl rfl (λj v hj=>⟨⟨c0,0,none⟩,rfl,J.blk.fld hj⟩) (λv hv=>by simp at hv; subst hv; rfl) ZJ ZJ ?_;rintro m w8 o8 p bd;have s7:=J.below.size;have s8:=p.size;have b8:Blk w8 r 40 [s]:=Blk.keptO (U.next J.below) p (λe=>by have:=b _ e; omega);obtain ⟨A8,c8,c1,_⟩:=o8.form;have c2:m.oneCell'=true:=by rw [c1]; rfl
   refine fu rfl is40.q rfl rfl (b8.cell 0) (b8.frozen 0) c2 ?_;refine aB ?_;have r8:RowN (sliceT aS) w8 66 w6.heap.size m (C++ [([.slice Ax xl.length cx],xl)]):=by
    refine RowN.app (Y.step J.below) o8 p bd ⟨_,rfl,?_⟩ ZJ;refine ((ax.below J.below).nb AA).wider λk o=>⟨⟨o.2,λe=>o.1.2 (.inr e)⟩,o.1.1⟩
   have r9:=r8.setCell (g:=r) (i:=0) ZJ m;have Z: ∀q,m.ownBlock=some q->s.ownBlock=some q\/q=w7.heap.size:=λq hq=>by
    rcases bd with h|h
    .exact .inl (by rw [<-h]; exact hq)
    .rw [h] at hq; cases hq; exact .inr rfl
   have be:w8.heap[L]?=W2.heap[L]?:=(p.block L ZJ (λe=>ba e.symm)).trans ((J.below.block L ZJ).trans aj);have ay: ∀k,k<W.heap.size-> ¬(k=r\/s.ownBlock=some k)->k≠L->w8.heap[k]?=W.heap[k]?:=λk F h2 h3 =>
    (p.block k ZJ (λe=>h2 (.inr e.symm))).trans ((J.below.block k ZJ).trans ((a.block k ZJ).trans (b9 k h3)))
   have bf:ZT w w8:=(R.step J.below).grown p (R.step J.below).size (λq hq=>by have:=b q hq; omega);have c3:Blk w8 g3 40 [.slice A d.length ak]:=Blk.keptO ((au.next a).next J.below) p (λe=>by have:=b _ e; omega);have c5:Blk w8 g4 39 [.slice B l.length K]:=Blk.keptO ((av.next a).next J.below) p (λe=>by have:=b _ e; omega);refine my (t.kept ((Below.heap_setCell _ _ _ _ (by show L≠r; exact bb)).trans be)) λW9 a0 bg c6 az=> ?_;have d1:W9.heap.size=w8.heap.size:=by rw [bg]; simp
   refine ⟨ZJ,λk F h2 h3=>(c6 k h3).trans ((Below.heap_setCell _ _ _ _ (λe=>h2 (.inl e))).trans (ay k F h2 h3)),λ_=>⟨λk=>k=r\/m.ownBlock=some k,⟨⟨(a0.less ZJ).below (bf.setCell (by show w.heap.size<=r; omega) _) ZC,ZJ,(c3.far (by show g3≠r; omega) m).ext a0,(c5.far (by show g4≠r; omega) m).ext a0,m,_,(b8.set 0 m).ext a0,r9.ext a0,?_,rfl⟩,?_,?_,az⟩,λk o=> ?_⟩,λh=>by cases h⟩
   .rw [List.map_append,a7,List.map_append,List.filter_append];simp [bc]
   .rintro (h|h)
    .exact bb h
    .rcases Z L h with h|h
     .exact ba h
     .omega
   .rintro (h|h)
    .exact bx h
    .rcases Z D h with h|h
     .exact bw h
     .omega
   .rcases o with rfl|o
    .exact ⟨.inl (.inl rfl),ZJ⟩
    .rcases Z k o with h|h
     .exact ⟨.inl (.inr h),by have:=b k h; omega⟩
     .refine ⟨.inr ZJ,?_⟩;have:=o8.lt o;omega
  .refine aB ?_;refine my (t.kept aj) λW8 a9 ck c7 b0=> ?_;refine ⟨ZJ,λk F h2 h3=>(c7 k h3).trans ((a.block k ZJ).trans (b9 k h3)),λ_=>⟨λk=>k=r\/s.ownBlock=some k,⟨⟨(a9.less ZJ).below R ZC,ZJ,(au.next a).ext a9,(av.next a).ext a9,s,C,U.ext a9,Y.ext a9,?_,rfl⟩,aq,ab,b0⟩,λk o=> ?_⟩,λh=>by cases h⟩
   .rw [a7];simp [List.filter_append,bz]
   .refine ⟨.inl o,?_⟩;rcases o with rfl|o
    .omega
    .have:=b k o; omega
 .rintro D xs M W hD b1 ⟨a1,a2,a3,a4,s,C,a5,a6,a7,rfl⟩ ab E;have ae:xs.map (·.2)=bY (aV l) n:=b1;obtain ⟨Av,cv,hv⟩:=a6.rowL.form;subst hv;have af:aQ d l most=C.map (·.2):=by
   unfold aQ;rw [if_pos ⟨aD hW,hm.1,hm.2,am⟩,a7,ae,hn]
  have d2:D<W.heap.size:=(Array.getElem?_eq_some_iff.1 E).1;have bh:ExtF w6.heap.size W (W.putObj D (.deferred none)):=ExtF.putObj E rfl hD;have bi:ZT w (W.putObj D (.deferred none)):=jy a1 ZJ;refine fB (aL ?_);refine aB ?_;refine aG rfl (a5.cell 0) ?_;refine aB ?_;refine aI rfl (λhz=> ?_) (λd3=> ?_)
  .refine aB ?_;refine Q5 results35 rfl rfl E ⟨bi,.slice none 0 0,?_,?_⟩
   .unfold bU;rw [if_pos ⟨aD hW,hm⟩,if_pos am,if_pos];rw [af,List.map_eq_nil_iff,<-List.length_eq_zero_iff];omega
   .rw [af,show C= [] from List.length_eq_zero_iff.1 ZJ];exact SL.nil _ _ _
  .refine aB ?_;refine aG rfl (a5.cell 0) ?_;refine aB ?_;refine Q5 results35 rfl rfl E ⟨bi,.slice Av C.length cv,?_,?_⟩
   .unfold bU;rw [if_pos ⟨aD hW,hm⟩,if_pos am,if_neg];rw [af,List.map_eq_nil_iff,<-List.length_eq_zero_iff];omega
   .rw [af];exact ((a6.ext bh).sl (by show 0<1; omega)).wider λ_ h=>⟨by have:=h.1; omega,h.2⟩
 .rintro D c H M W hD h;exact h.elim
theorem KT {dv ev:Value} {most:Int} (i:SD w dv d) (hl:SE w ev l) (b: ∀e∈l,e.needs.length<=1000) :
  Gives prog 35 #[dv,ev,ZU most] w λx a=>ZT w a/\ ∃v,x= .tuple #[v,ZU (bU d l most)]/\SL (sliceT aS) (λk=>k<a.heap.size) a v (aQ d l most) :=
 (vZ i hl b).mono λx a ⟨c,v,f,g⟩=>⟨c,v,f,g.wider λ_ h=>h.2⟩
end
def Upto {α:Type} (p:α->Prop) (l:List α) (k:Nat):Prop:= ∀(i:Nat) (e:α),i<k->l[i]?=some e->p e
theorem Upto.zero {l:List α}:Upto p l 0:=λi e a=>ZJ
theorem Upto.succ {l:List α} {x:α} (h:Upto p l k) (c:l[k]?=some x) (hp:p x):Upto p l (k+1):=λi e d a=>by
 rcases ZI i k with b|b
 .exact h i e b a
 .obtain rfl:i=k:=ZJ;rw [c] at a; cases a;exact hp
theorem Upto.all {l:List α} (h:Upto p l k) (d:l.length<=k): ∀e∈l,p e:=λe b=>by
 obtain ⟨i,c,a⟩:=List.getElem_of_mem b;exact h i e ZJ (by rw [<-a]; exact ZD c)
theorem eP {l:List α} (h:k<l.length): ∃x,l[k]?=some x/\x∈l:=⟨l[k],ZD h,List.getElem_mem h⟩
abbrev SI (w:World) (v:Value) (l:List Int):Prop:=SL aS (λk=>k<w.heap.size) w v l
theorem pM {w':World} {l:List Int} (h:SI w v l) (hb:ZT w w'):SI w' v l:=h.step fV hb
theorem yM {l l':List α} {x y:α} (h:l.take k=l'.take k) (a:l[k]?=some x) (b:l'[k]?=some y) (e:x=y):l.take (k+1)=l'.take (k+1):=by
 rw [ZG,ZG,h,a,b,e]
theorem BK {l l':List α} (h:l.take k=l'.take k) (hl:l.length=l'.length) (c:l.length<=k):l=l':=by
 have a:=List.take_of_length_le ZJ;have b:=List.take_of_length_le (l:=l') (i:=k) ZJ;rw [<-a,<-b,h]
theorem Px {G:Nat->Prop} {u:Value} {a b:List Int} (i:SL aS F w v a) (hb:SL aS G w u b):Gives prog 57 #[v,u] w λx q=>ZT w q/\x= .bool (decide (a=b)):=by
 obtain ⟨A,r,rfl,_⟩:=i.form;obtain ⟨B,n,rfl,_⟩:=hb.form;have o:=i.len.2.2;refine gv func57 ntmps57 ?_;refine aB ?_;refine aI rfl (λj=> ?_) (λs=> ?_)
 .refine aB ?_;refine aO rfl ⟨ZA,by rw [decide_eq_false (λe=>j (by rw [e]))]⟩
 have d:a.length=b.length:=ZJ;refine aB ?_;refine dA [0,1] (λk:Nat=> [(5,none,ZU (k:Int))])
  (λk W=>k<=a.length/\ZT w W/\a.take k=b.take k) (λk=>a.length-k) 0 ⟨ZJ,ZA,ZM⟩ ?_
 rintro k W ⟨H,g,c⟩;refine aB ?_;refine dC [0,1,5,14] rfl ?_;refine aI rfl (λt=> ?_) (λz=> ?_)
 .obtain ⟨x,m,C⟩:=eP (l:=a) (k:=k) ZJ;obtain ⟨y,h,D⟩:=eP (l:=b) (k:=k) ZJ;obtain ⟨I,rfl⟩:=i.addr ZJ;obtain ⟨J,rfl⟩:=hb.addr ZJ;refine aB ?_;refine gV mixed ZK ?_;refine jE ?_;refine dF rfl ((i.below g).getI m) ?_;refine jE ?_;refine dF rfl ((hb.below g).getI h) ?_;refine jE ?_;refine qG [0,1,5,25] rfl λK p=> ?_;refine aL ?_;refine aI rfl (λE=> ?_) (λL=> ?_)
  .refine aB ?_;refine aO rfl ⟨g.step p,by rw [decide_eq_false (λe=>by subst e; rw [m] at h; cases h; exact E rfl)]⟩
  refine aB ?_;refine cK (k+1) ⟨ZJ,g.step p,yM c m h ZJ⟩
 .refine aB ?_;refine aO rfl ⟨g,by rw [decide_eq_true (BK c d ZJ)]⟩
theorem Ho {G:Nat->Prop} {u:Value} {a b:List (List Int)} (j:SL (sliceT aS) F w v a) (hb:SL (sliceT aS) G w u b):Gives prog 20 #[v,u] w λx s=>ZT w s/\x= .bool (decide (a=b)):=by
 obtain ⟨A,D,rfl,_⟩:=j.form;obtain ⟨B,t,rfl,_⟩:=hb.form;have z:=j.len.2.2;refine gv func20 ntmps20 ?_;refine aB ?_;refine aI rfl (λm=> ?_) (λE=> ?_)
 .refine aB ?_;refine aO rfl ⟨ZA,by rw [decide_eq_false (λe=>m (by rw [e]))]⟩
 have d:a.length=b.length:=ZJ;refine aB ?_;refine dA [0,1] (λk:Nat=> [(5,none,ZU (k:Int))])
  (λk W=>k<=a.length/\ZT w W/\a.take k=b.take k) (λk=>a.length-k) 0 ⟨ZJ,ZA,ZM⟩ ?_
 rintro k W ⟨S,g,c⟩;refine aB ?_;refine dC [0,1,5,14] rfl ?_;refine aI rfl (λH=> ?_) (λI=> ?_)
 .obtain ⟨x,n,J⟩:=eP (l:=a) (k:=k) ZJ;obtain ⟨y,i,K⟩:=eP (l:=b) (k:=k) ZJ;obtain ⟨U,rfl⟩:=j.addr ZJ;obtain ⟨Y,rfl⟩:=hb.addr ZJ;obtain ⟨Z,o,p⟩:=(j.below g).row n;obtain ⟨yv,q,r⟩:=(hb.below g).row i;refine aB ?_;refine gV mixed ZK ?_;refine jE ?_;refine dF rfl o ?_;refine jE ?_;refine dF rfl q ?_;refine xW (.ex (.bool (decide (x=y)))) trivial rfl (λ_ s h=>(Px (p.below h) (r.below h)).mono λu L ⟨M,N⟩=>⟨M,N⟩) ?_;refine jE ?_;refine qG [0,1,5,26] rfl λw2 C=> ?_;refine aL ?_;refine aK rfl (λO=> ?_) (λR=> ?_)
  .refine aB ?_;refine aO rfl ⟨g.step C,by rw [decide_eq_false (λe=>by subst e; rw [n] at i; cases i; simp at O)]⟩
  refine aB ?_;refine cK (k+1) ⟨ZJ,g.step C,yM c n i (by simpa using R)⟩
 .refine aB ?_;refine aO rfl ⟨g,by rw [decide_eq_true (BK c d ZJ)]⟩
structure FewD (d:bG) (l:List Ev) (o m:Int):Prop where
 d1:(d.length:Int)<=o
 l1:(l.length:Int)<=m
 r1: ∀r∈d,(r.length:Int)<=o
structure FewP (d:bG) (l:List Ev):Prop where
 fd:FewD d l 5 8
 nd: ∀e∈l,e.needs.length<=6
def WU:List Int->List Int->Bool
 | x::a,y::b=>if x=y then WU a b else decide (x<y)
 | _,_=>false
def Yv (e:Ev) (t:Int):Prop:=0<=t/\t<=1000000/\e.low<=t/\t<=e.high
def Two (d:bG) (l:List Ev) (ts:List Int) (j i:Nat):Prop:= ∀a s b t,l[j]?=some a->ts[j]?=some s->l[i]?=some b->ts[i]?=some t->yI d (a,s) (b,t)\/yI d (b,t) (a,s)
structure HoldsI (d:bG) (l:List Ev) (ts:List Int):Prop where
 wf:WfE d l
 len:ts.length=l.length
 win: ∀(i:Nat) e t,l[i]?=some e->ts[i]?=some t->Yv e t
 two: ∀j i,j<i->Two d l ts j i
theorem HoldsI.n (h:HoldsI d l ts):HoldsN d (l.zip ts):=by
 refine ⟨λx f=> ?_,List.pairwise_iff_getElem.2 λi j c g e=> ?_⟩
 .obtain ⟨i,c⟩:=List.mem_iff_getElem?.1 f;rw [List.getElem?_zip_eq_some] at c;exact h.win i _ _ c.1 c.2
 .have a:=ZD c;have b:=ZD g;rw [List.getElem?_zip_eq_some] at a b;exact h.two i j e _ _ _ _ a.1 a.2 b.1 b.2
theorem HoldsI.poss (h:HoldsI d l ts):Poss d l:=⟨l.zip ts,by rw [List.map_fst_zip]; exact Nat.le_of_eq h.len.symm,h.n⟩
theorem Two.symm {d:bG} {l:List Ev} {ts:List Int} {j i:Nat} (h:Two d l ts j i):Two d l ts i j:=λa s b t c e f g=>(h b t a s f g c e).symm
def Yz (d:bG) (a:Nat) (x:Int) (b:Nat) (y:Int):Prop:=at2 d a b≠ -1/\at2 d a b<=y-x
structure Nd where
 first:Int
 second:Int
 office:Int
 low:Int
 high:Int
 gap:Int
 endo:Int
def Nd.cells (x:Nd):List Value:= [ZU x.first,ZU x.second,ZU x.office,ZU x.low,ZU x.high,ZU x.gap,ZU x.endo]
def Nd.u (x:Nd):U:=⟨x.low,x.high,x.gap,x.office.toNat,x.endo.toNat⟩
def YB:Ty Nd where
 n:=7
 rep:=λ_ _ cs x=>cs=x.cells
 len:=λ_ _ _ _ h=>by rw [h]; rfl
 mono:=λ_ _ _ _ _ _ h=>h
 wider:=λ_ _ _ _ _ _ h=>h
def Po (s:RS):List Value:= [ZU s.time,ZU (s.last:Int),ZU (s.set:Int),ZU s.frm]
def YA:Ty RS where
 n:=4
 rep:=λ_ _ cs x=>cs=Po x
 len:=λ_ _ _ _ h=>by rw [h]; rfl
 mono:=λ_ _ _ _ _ _ h=>h
 wider:=λ_ _ _ _ _ _ h=>h
structure NdOK (d:bG) (m:Nat) (x:Nd):Prop where
 o0:0<=x.office
 e0:0<=x.endo
 g0:0<=x.gap
 g1:x.gap<=1000000
 w0:0<=x.low
 w1:x.low<=x.high
 w2:x.high<=1000000
 uok:UOK d x.u
 f0:0<=x.first
 f1:x.first<m
 s1:x.second<m
theorem NdOK.o1 {x:Nd} (h:NdOK d m x):x.office.toNat<d.length:=h.uok.e1
theorem NdOK.e1 {x:Nd} (h:NdOK d m x):x.endo.toNat<d.length:=h.uok.e2
abbrev Yg (ns:List Nd):List U:=ns.map Nd.u
end Go.Proofs.YtoleahhfkpkcjaaGreatDoor
namespace Go.Proofs.YtoleahhfkpkcjaaGreatDoor
open Go.Proofs.Tryz
open Go.Ord
def Mm (x:Nat):Nat:=(x >>> 1 &&& 6148914691236517205)+(x &&& 6148914691236517205)
def PU (x:Nat):Nat:=(x >>> 2 &&& 3689348814741910323)+(x &&& 3689348814741910323)
def SA (x:Nat):Nat:=(x >>> 4)+x &&& 1085102592571150095
def UP (x:Nat):Nat:=x+x >>> 8
def WN (x:Nat):Nat:=x+x >>> 16
def Yi (x:Nat):Nat:=x+x >>> 32
def oc (x:Nat):Nat:=Yi (WN (UP (SA (PU (Mm x)))))
def UK:Nat->Nat->Nat
 | 0,_=>0
 | f+1,n=>n%2+UK f (n / 2)
theorem L9: ∀(f n:Nat),n<2 ^ f->UK f n=pc n
 | 0,n,h=>by
  have:n=0:=by simpa using h
  subst this
  simp [UK,pc]
 | f+1,n,h=>by
  rw [Q8,UK,L9 f (n / 2) (by rw [Nat.pow_succ] at h; omega)]
def Sy (x:Nat):Bool:=Nat.beq (oc x &&& 127) (UK 14 x)&&Nat.ble (Mm x) 65535&&Nat.ble (PU (Mm x)) 65535&&Nat.ble (SA (PU (Mm x))) 65535&&Nat.ble (UP (SA (PU (Mm x)))) 65535&&Nat.ble (WN (UP (SA (PU (Mm x))))) 65535&&Nat.ble (oc x) 65535
def NZ:Nat->Nat->Bool
 | 0,b=>Sy b
 | d+1,b=>NZ d b&&NZ d (b+2 ^ d)
theorem uz: ∀(d b:Nat),NZ d b=true-> ∀x,b<=x->x<b+2 ^ d->Sy x=true
 | 0,b,h,x,c,a=>by
  have:x=b:=by simp at a; omega
  rw [this]; exact h
 | d+1,b,h,x,c,a=>by
  simp only [NZ,Bool.and_eq_true] at h;by_cases e:x<b+2 ^ d
  .exact uz d b h.1 x c e
  .exact uz d _ h.2 x ZJ ZJ
theorem VO:NZ 14 0=true:=by decide +kernel
theorem UO (h:x<16384):(oc x &&& 127)=pc x/\Mm x<=65535/\PU (Mm x)<=65535/\SA (PU (Mm x))<=65535/\UP (SA (PU (Mm x)))<=65535/\WN (UP (SA (PU (Mm x))))<=65535/\oc x<=65535:=by
 have a:=uz 14 0 VO x ZB (by simpa using h);unfold Sy at a;simp only [Bool.and_eq_true] at a;obtain ⟨⟨⟨⟨⟨⟨b,c⟩,d⟩,e⟩,f⟩,g⟩,i⟩:=a;exact ⟨(Nat.eq_of_beq_eq_true b).trans (L9 14 x (by simpa using h)),Nat.le_of_ble_eq_true c,Nat.le_of_ble_eq_true d,Nat.le_of_ble_eq_true e,Nat.le_of_ble_eq_true f,Nat.le_of_ble_eq_true g,Nat.le_of_ble_eq_true i⟩
theorem pN {a n:Nat} (h:a<=65535):a >>> n<=65535:=by
 rw [Nat.shiftRight_eq_div_pow];exact Nat.le_trans (Nat.div_le_self _ _) h
section
open Go.PF Go.RowKit
attribute [local irreducible] TW CW KW DW
theorem Mk (h:x<16384):Gives prog 256 #[.int .u64 (x:Int)] w λu e=>ZT w e/\u= ZU (pc x:Int):=by
 obtain ⟨g,b,a,l,i,j,c⟩:=UO h;have d:x<=65535:=ZJ;refine gv func256 ntmps256 ?_;refine fQ (dK ?_);refine aM eQ rfl ⟨ct,trivial⟩ (λ_=>trivial) ?_;refine dG (bD [0,2] [(0,_,_),(2,_,_)] rfl (aL ?_));refine fQ (dK ?_);refine aM bX rfl ⟨ct,trivial⟩ (λ_=>trivial) ?_;refine nV rfl rfl rfl ct rfl ct (λ_=>ZL) ?_;refine tL rfl rfl rfl ct rfl ct (λ_=>⟨Nat.lt_of_le_of_lt (pN d) ZL,ZL⟩) ?_;refine aM bX rfl ⟨ct,trivial⟩ (λ_=>trivial) ?_;refine tL rfl rfl rfl ct rfl ct (λ_=>⟨Nat.lt_of_le_of_lt d ZL,ZL⟩) ?_;refine qd rfl rfl rfl ct rfl ct (λ_=>Nat.lt_of_le_of_lt b ZL) ?_;refine aM eQ rfl ⟨ct,trivial⟩ (λ_=>trivial) ?_;refine dG (bD [0,2] [(0,_,_),(2,_,_)] rfl (aL ?_));refine fQ (dK ?_);refine aM bX rfl ⟨ct,trivial⟩ (λ_=>trivial) ?_;refine nV rfl rfl rfl ct rfl ct (λ_=>ZL) ?_;refine tL rfl rfl rfl ct rfl ct (λ_=>⟨Nat.lt_of_le_of_lt (pN b) ZL,ZL⟩) ?_;refine aM bX rfl ⟨ct,trivial⟩ (λ_=>trivial) ?_;refine tL rfl rfl rfl ct rfl ct (λ_=>⟨Nat.lt_of_le_of_lt b ZL,ZL⟩) ?_;refine qd rfl rfl rfl ct rfl ct (λ_=>Nat.lt_of_le_of_lt a ZL) ?_;refine aM eQ rfl ⟨ct,trivial⟩ (λ_=>trivial) ?_;refine dG (bD [0,2] [(0,_,_),(2,_,_)] rfl (aL ?_));refine fQ (dK ?_);refine aM bX rfl ⟨ct,trivial⟩ (λ_=>trivial) ?_
 refine nV rfl rfl rfl ct rfl ct (λ_=>ZL) ?_;refine aM bX rfl ⟨ct,trivial⟩ (λ_=>trivial) ?_;refine qd rfl rfl rfl ct rfl ct (λ_=>Nat.lt_of_le_of_lt (Nat.add_le_add (pN a) a) ZL) ?_;refine tL rfl rfl rfl ct rfl ct (λ_=>⟨Nat.lt_of_le_of_lt (Nat.add_le_add (pN a) a) ZL,ZL⟩) ?_;refine aM eQ rfl ⟨ct,trivial⟩ (λ_=>trivial) ?_;refine dG (bD [0,2] [(0,_,_),(2,_,_)] rfl (aL ?_));refine fQ (dK ?_);refine aM bX rfl ⟨ct,trivial⟩ (λ_=>trivial) ?_;refine aM bX rfl ⟨ct,trivial⟩ (λ_=>trivial) ?_;refine nV rfl rfl rfl ct rfl ct (λ_=>ZL) ?_;refine qd rfl rfl rfl ct rfl ct (λ_=>Nat.lt_of_le_of_lt i ZL) ?_;refine aM eQ rfl ⟨ct,trivial⟩ (λ_=>trivial) ?_;refine dG (bD [0,2] [(0,_,_),(2,_,_)] rfl (aL ?_));refine fQ (dK ?_);refine aM bX rfl ⟨ct,trivial⟩ (λ_=>trivial) ?_;refine aM bX rfl ⟨ct,trivial⟩ (λ_=>trivial) ?_;refine nV rfl rfl rfl ct rfl ct (λ_=>ZL) ?_;refine qd rfl rfl rfl ct rfl ct (λ_=>Nat.lt_of_le_of_lt j ZL) ?_;refine aM eQ rfl ⟨ct,trivial⟩ (λ_=>trivial) ?_;refine dG (bD [0,2] [(0,_,_),(2,_,_)] rfl (aL ?_));refine fQ (dK ?_);refine aM bX rfl ⟨ct,trivial⟩ (λ_=>trivial) ?_;refine aM bX rfl ⟨ct,trivial⟩ (λ_=>trivial) ?_;refine nV rfl rfl rfl ct rfl ct (λ_=>ZL) ?_
 refine qd rfl rfl rfl ct rfl ct (λ_=>Nat.lt_of_le_of_lt c ZL) ?_;refine aM eQ rfl ⟨ct,trivial⟩ (λ_=>trivial) ?_;refine dG (bD [0,2] [(0,_,_),(2,_,_)] rfl (aL ?_));refine fQ (dK ?_);refine aM bX rfl ⟨ct,trivial⟩ (λ_=>trivial) ?_;refine aM (uB rfl) rfl ⟨ct,trivial⟩ (λ_=>trivial) ?_;have k:IntKind.i64.wrap ((oc x:Nat):Int)=((oc x:Nat):Int):=eG ZJ
 erw [k]
 refine QM rfl rfl rfl ct rfl ct (λ_=>⟨Nat.lt_of_le_of_lt c ZL,ZL⟩) ?_;refine aB ?_;refine aO rfl ⟨ZA,?_⟩;exact congrArg (λn:Nat=>Value.int .i64 (n:Int)) g
theorem Su (h:x<16384):Gives prog 170 #[.int .u64 (x:Int)] w λu a=>ZT w a/\u= ZU (pc x:Int):=by
 refine gv func170 ntmps170 ?_;refine aB ?_;refine aK rfl (λb=> ?_) (λd=> ?_)
 .cases b
 refine aB ?_;refine aN rfl (Mk h) ?_;rintro y e ⟨c,rfl⟩;refine aB ?_;refine aO rfl ⟨c,rfl⟩
end
def gM:List Int->Nat->List Int
 | [],_=> []
 | x::l,m=>(if m.testBit l.length then [x] else [])++gM l m
theorem wP: ∀(l:List Int) (m a:Nat),(∀i,i<l.length->m.testBit i=a.testBit i)->gM l m=gM l a
 | [],_,_,_=>rfl
 | x::l,m,a,h=>by
  unfold gM;rw [h l.length ZM,wP l m a (λi b=>h i ZO)]
theorem rX: ∀(l:List Int) (m:Nat),(gM l m).Sublist l
 | [],_=>List.Sublist.refl _
 | x::l,m=>by
  unfold gM
  split
  .exact (rX l m).cons_cons x
  .exact (rX l m).cons x
def desc (n:Nat):List Nat:=(List.range (2 ^ n)).map λi=>2 ^ n-1-i
theorem Ka (n:Nat):desc (n+1)=(desc n).map (· +2 ^ n)++desc n:=by
 unfold desc;have e:2 ^ (n+1)=2 ^ n+2 ^ n:=by rw [Nat.pow_succ]; omega
 rw [e,List.range_add,List.map_append,List.map_map,List.map_map]
 congr 1
 .refine List.map_congr_left λi a=> ?_;have:=List.mem_range.1 a;simp only [Function.comp];omega
 .refine List.map_congr_left λi a=> ?_;simp only [Function.comp];omega
theorem rY {n:Nat} (h:m∈desc n):m<2 ^ n:=by
 obtain ⟨i,a,rfl⟩:=List.mem_map.1 h;have:=List.mem_range.1 a;omega
theorem wM {n:Nat} (h:m<2 ^ n):pc (m+2 ^ n)=pc m+1:=by
 have a:=Nat.testBit_lt_two_pow h;have:=Q7 (us:=List.replicate (n+1) ⟨0,0,0,0,0⟩) ZM (by simp; rw [Nat.pow_succ]; omega) a;rw [Bg a];exact this.1
def gF (n k:Nat):List Nat:=(desc n).filter λm=>pc m==k
theorem CJ {x:Int} {l:List Int} (h:m<2 ^ l.length):gM (x::l) (m+2 ^ l.length)=x::gM l m/\gM (x::l) m=gM l m:=by
 have a:=Nat.testBit_lt_two_pow h;constructor
 .rw [gM];have b:(m+2 ^ l.length).testBit l.length=true:=by rw [Bg a,Nat.testBit_or,Nat.one_shiftLeft,Nat.testBit_two_pow_self]; simp
  rw [b,if_pos rfl];rw [wP l (m+2 ^ l.length) m (λi c=>by
   rw [Bg a,Nat.testBit_or,Nat.one_shiftLeft,Nat.testBit_two_pow];have: ¬l.length=i:=ZJ;simp [this])]
  rfl
 .rw [gM,a];rfl
theorem qO: ∀(l:List Int) (k:Nat),(gF l.length k).map (gM l)=bY l k
 | [],0=>by
  have:desc 0= [0]:=rfl
  simp [gF,this,pc,gM,bY]
 | [],k+1=>by
  have:desc 0= [0]:=rfl
  simp [gF,this,pc,bY]
 | x::l,k=>by
  have b: ∀k,((desc l.length).filter λm=>pc m==k).map (gM (x::l))=bY l k:=λk=>by
   rw [<-qO l k];exact List.map_congr_left λm a=>(CJ (rY (List.mem_filter.1 a).1)).2
  have e:gF (x::l).length k=((desc l.length).map (· +2 ^ l.length)).filter (λm=>pc m==k)++(desc l.length).filter λm=>pc m==k:=by
   unfold gF;rw [List.length_cons,Ka,List.filter_append]
  rw [e,List.map_append,b k,List.filter_map,List.map_map]
  cases k with
  | zero =>
   have c:(desc l.length).filter ((λm=>pc m==0) ∘ (· +2 ^ l.length))= []:=by
    rw [List.filter_eq_nil_iff];intro m a;simp [wM (rY a)]
   rw [c]
   cases l<;>rfl
  | succ k =>
   have d:(desc l.length).filter ((λm=>pc m==k+1) ∘ (· +2 ^ l.length))=gF l.length k:=by
    refine List.filter_congr λm a=> ?_;simp [wM (rY a)]
   rw [d];show _=(bY l k).map (x:: ·)++bY l (k+1);rw [<-qO l k,List.map_map]
   congr 1
   exact List.map_congr_left λm a=>(CJ (rY (List.mem_filter.1 a).1)).1
def vG (l:List Int):List (List Int):=(List.range (l.length+1)).flatMap λk=>bY l k
def kJ (l:List Int) (k i:Nat):List (List Int):=((List.range k).flatMap λk=>bY l k)++(((desc l.length).take i).filter λm=>pc m==k).map (gM l)
theorem yQ (l:List Int) (k:Nat):kJ l k (2 ^ l.length)=(List.range (k+1)).flatMap λk=>bY l k:=by
 unfold kJ;rw [List.range_succ,List.flatMap_append,List.take_of_length_le (by simp [desc])]
 congr 1
 rw [List.flatMap_singleton,<-qO];rfl
theorem EU (l:List Int) (k:Nat):kJ l k 0=(List.range k).flatMap λk=>bY l k:=by simp [kJ]
theorem NE {n:Nat} (h:i<2 ^ n):(desc n)[i]?=some (2 ^ n-1-i):=by
 unfold desc;rw [List.getElem?_map,List.getElem?_range h];rfl
theorem EV (l:List Int) (k:Nat) (h:i<2 ^ l.length):kJ l k (i+1)=kJ l k i++if pc (2 ^ l.length-1-i)==k then [gM l (2 ^ l.length-1-i)] else []:=by
 unfold kJ;rw [ZG,NE h,List.filter_append,List.map_append,List.append_assoc]
 congr 2
 by_cases a:(pc (2 ^ l.length-1-i)==k)=true
 .simp [a]
 .simp [a]
theorem I8 (l:List Int) (f:k<=l.length): ∃a,vG l=kJ l k i++a:=by
 have b: ∃c,kJ l k (2 ^ l.length)=kJ l k i++c:=by
  unfold kJ;refine ⟨(((desc l.length).drop i).filter λm=>pc m==k).map (gM l),?_⟩;rw [List.append_assoc,<-List.map_append,<-List.filter_append,List.take_append_drop,List.take_of_length_le (by simp [desc])]
 obtain ⟨c,b⟩:=b;have d: ∃e,vG l=((List.range (k+1)).flatMap λk=>bY l k)++e:=by
  unfold vG;refine ⟨(List.range' (k+1) (l.length+1-(k+1))).flatMap λk=>bY l k,?_⟩;rw [<-List.flatMap_append,List.range_eq_range',List.range_eq_range']
  congr 1
  have:=List.range'_append_1 (s:=0) (m:=k+1) (n:=l.length+1-(k+1));rw [Nat.zero_add,show k+1+(l.length+1-(k+1))=l.length+1 by omega] at this;exact this.symm
 obtain ⟨e,d⟩:=d;exact ⟨c++e,by rw [d,<-yQ,b,List.append_assoc]⟩
section
open Go.PF Go.RowKit
attribute [local irreducible] TW CW KW DW
theorem Qy (m k:Nat):decide (((m &&& 2 ^ k:Nat):Int)≠0)=m.testBit k:=by
 have h:m &&& 2 ^ k=if m.testBit k then 2 ^ k else 0:=by
  apply Nat.eq_of_testBit_eq;intro j;rw [Nat.testBit_and,Nat.testBit_two_pow];by_cases e:k=j
  .subst e;cases a:m.testBit k<;>simp
  .cases a:m.testBit k<;>simp [e]
 rw [h]
 cases m.testBit k with
 | false=>simp
 | true =>
  have:=Nat.two_pow_pos k;exact decide_eq_true (λe=>by have b:(2 ^ k:Nat)=0:=Int.ofNat.inj e; omega)
theorem JG {n c:Nat}:Gives prog 172 #[.slice A n c,.int .u64 (m:Int)] w λu d=>ZT w d/\ ∃a b,u= .func (.func 258) #[] [.pointer (some ⟨a,0,none⟩),.pointer (some ⟨b,0,none⟩)].toArray/\Blk d a 66 [.slice A n c]/\Blk d b 176 [.int .u64 (m:Int)]:=by
 refine gv func172 ntmps172 ?_;refine aB ?_;refine bS rfl rfl rfl rfl ?_;rintro a h g;refine bS rfl rfl rfl rfl ?_;rintro b i e;refine aB ?_;refine dN rfl rfl (aA rfl ct (aA rfl ct aJ)) ?_;refine aB ?_;refine aO rfl ⟨g.below.step e.below,a,b,rfl,g.blk.next e.below,e.blk⟩
theorem Ap {g1 g2:Nat} {l:List Int} (hl:SL aS F w v l) (ab:l.length<=14) (hm:m<2 ^ 64) (H:Blk w g1 66 [v]) (I:Blk w g2 176 [.int .u64 (m:Int)]) :
  IterOK prog 258 [.pointer (some ⟨g1,0,none⟩),.pointer (some ⟨g2,0,none⟩)] (λx:Int=> [ZU x]) (λd x=> ∃L,gM l m=d++x::L) (λxs=>xs=gM l m) (λk=>k=g1\/k=g2\/F k) w:=by
 intro yl J Jx W M q a4 a5 hM u hJ a6 hy h0;obtain ⟨A,r,rfl,_⟩:=hl.form;have y: ∀n:World,(∀k,(k=g1\/k=g2\/F k)->k<w.heap.size->n.heap[k]?=w.heap[k]?)->Blk n g1 66 [.slice A l.length r]/\Blk n g2 176 [.int .u64 (m:Int)]/\SL aS F n (.slice A l.length r) l:=λn h =>
  ⟨(h g1 (.inl rfl) H.lt).trans H,(h g2 (.inr (.inl rfl)) I.lt).trans I,hl.mono (Kept.of_blocks λk c a=>h k (.inr (.inr c)) a)⟩
 obtain ⟨m1,m2,m3⟩:=y W q;refine gv func258 ntmps258 ?_;refine aB ?_;refine aG rfl (m1.cell 0) ?_;refine aB ?_;refine bT (λx:Nat×List Int×(Nat->Prop)=> [(0,none,.func (.yield yl) #[] #[]),(1,none,.pointer (some ⟨g1,0,none⟩)),(2,none,.pointer (some ⟨g2,0,none⟩)),(6,none,.slice A l.length r),(7,none,ZU (l.length:Int)),(8,none,ZU (x.1:Int))])
  (λx n=>x.1<=l.length/\J x.2.1 x.2.2 n/\gM l m=x.2.1++gM (l.drop x.1) m/\W.heap.size<=n.heap.size/\(∀k,x.2.2 k->k<n.heap.size)/\ ∀k,(k=g1\/k=g2\/F k)->k<w.heap.size->n.heap[k]?=w.heap[k]?/\ ¬x.2.2 k) (λx=>l.length-x.1) (0,[],M) [0,1,2,6,7,8]
  ⟨ZB,h0,rfl,ZC,u,λk c a=>⟨q k c a,(hM k c).1⟩⟩ rfl ?_
 rintro ⟨i,d,z⟩ W1 ⟨hi,N,e,a3,s,o⟩;dsimp only at hi N e s o;obtain ⟨n1,n2,n3⟩:=y W1 (λk c a=>(o k c a).1);refine aB ?_;refine aI rfl (λa=> ?_) (λa7=> ?_)
 .obtain ⟨x,hx,a8⟩:=eP (l:=l) (k:=i) ZJ;obtain ⟨ad,rfl⟩:=n3.addr ZJ;obtain ⟨O,R⟩:=ZE hx;have b:gM (l.drop i) m=(if m.testBit (l.length-1-i) then [x] else [])++gM (l.drop (i+1)) m:=by
   rw [List.drop_eq_getElem_cons O,gM,R,List.length_drop,show l.length-(i+1)=l.length-1-i by omega]
  have S:((l.length:Int)-1-(i:Int))=((l.length-1-i:Nat):Int):=ZJ;have B:(2:Nat) ^ (l.length-1-i)<2 ^ 64:=Nat.pow_lt_pow_right ZL ZJ;refine aB ?_;refine aG rfl (n3.getI hx) ?_;refine aB ?_;refine dP mixed λW2 U=> ?_;refine iP .weak 12 ZK ZK rfl rfl U ?_;refine dF rfl (n2.cell 0) ?_;refine dF rfl (n1.cell 0) ?_;refine bM V.lenSlice rfl ⟨ct,trivial⟩ (λ_=>trivial) ?_;refine bM uY rfl ⟨ct,ct,trivial⟩ (λ_=>by (try dsimp only); omega) ?_;refine bM bX rfl ⟨ct,trivial⟩ (λ_=>trivial) ?_;refine bM uY rfl ⟨ct,ct,trivial⟩ (λ_=>by (try dsimp only); omega) ?_;rw [S];refine QS rfl rfl rfl ct rfl ct (λ_=>ZJ) ?_;refine QW rfl rfl rfl ct rfl ct (λ_=>⟨hm,B⟩) ?_;refine jE ?_;refine gJ (Bv [0,1,2,4,5,6,7,8,22,23,24] [(0,_,_),(1,_,_),(2,_,_),(4,_,_),(5,_,_),(6,_,_),(7,_,_),(8,_,_),(22,_,_),(23,_,_),(24,_,_)] rfl (λC Y=>gy ?_));refine eu ZK ZK rfl ?_;rw [Qy];have a9:=Y.size;have D:J d z C:=hJ _ _ _ _ N (.of_below Y);have p: ∀k,(k=g1\/k=g2\/F k)->k<w.heap.size->C.heap[k]?=w.heap[k]?/\ ¬z k:=λk c a=>⟨(Y.block k ZJ).trans (o k c a).1,(o k c a).2⟩;by_cases g:m.testBit (l.length-1-i)=true
  .rw [g] at b;rw [g];refine aP rfl rfl ?_;refine dD ?_;refine kE rfl rfl rfl (aA rfl ct aJ) (hy d x z C D ⟨gM (l.drop (i+1)) m,by rw [e,b]; rfl⟩ (λk c=>by have:=s k c; omega) ZJ) ?_;rintro yb W4 K;refine dG (bD [0,1,2,4,5,6,7,8,22,25] [(0,_,_),(1,_,_),(2,_,_),(4,_,_),(5,_,_),(6,_,_),(7,_,_),(8,_,_),(22,_,_),(25,_,_)] rfl (iB ?_));refine eu ZK ZK rfl ?_;refine aP rfl rfl ?_;refine aM zJ rfl ⟨(by simp_all [aF]),trivial⟩ (λ_=>trivial) ?_;refine dG (bD [0,1,2,4,5,6,7,8,22,26] [(0,_,_),(1,_,_),(2,_,_),(4,_,_),(5,_,_),(6,_,_),(7,_,_),(8,_,_),(22,_,_),(26,_,_)] rfl (iB ?_));refine eu ZK ZK rfl ?_;refine jS rfl rfl rfl ct rfl pT ?_;refine dG (bD [0,1,2,4,5,6,7,8,27] [(0,_,_),(1,_,_),(2,_,_),(4,_,_),(5,_,_),(6,_,_),(7,_,_),(8,_,_),(27,_,_)] rfl (iB ?_));refine kG rfl (bD [0,1,2,4,5,6,7,8,27] [(0,_,_),(1,_,_),(2,_,_),(4,_,_),(5,_,_),(6,_,_),(7,_,_),(8,_,_),(27,_,_)] rfl (aL ?_));refine aK rfl (λt=> ?_) (λE=> ?_)
   .refine aB ?_;refine Cb results258 (.inr ?_);obtain ⟨Z,a0⟩:=K.no (by simpa using t);exact ⟨_,Z,a0⟩
   .refine aB ?_;obtain ⟨Z,a1,G⟩:=K.yes (by simpa using E);have aa:=K.size;refine bH (i+1,d++ [x],Z) [0,1,2,6,7,8] rfl ⟨by show i+1<=l.length; omega,a1,?_,by show W.heap.size<=W4.heap.size; omega,λk c=>(G k c).2,λk c a=>⟨(K.kept k ZJ (p k c a).2 (hM k c).2).trans (p k c a).1,λh=> ?_⟩⟩ (by show l.length-(i+1)<l.length-i; omega)
    .show gM l m=(d++ [x])++gM (l.drop (i+1)) m;rw [e,b];simp
    .rcases (G k h).1 with h|h
     .exact (p k c a).2 h
     .omega
  .have j:m.testBit (l.length-1-i)=false:=by simpa using g
   rw [j] at b;rw [j];refine bJ (.bool false) rfl (by simp [aF]) rfl ?_;refine dG (bD [0,1,2,4,5,6,7,8,22,25] [(0,_,_),(1,_,_),(2,_,_),(4,_,_),(5,_,_),(6,_,_),(7,_,_),(8,_,_),(22,_,_),(25,_,_)] rfl (iB ?_));refine eu ZK ZK rfl ?_;refine bJ (.bool false) rfl (by simp [aF]) rfl ?_;refine dG (bD [0,1,2,4,5,6,7,8,22,26] [(0,_,_),(1,_,_),(2,_,_),(4,_,_),(5,_,_),(6,_,_),(7,_,_),(8,_,_),(22,_,_),(26,_,_)] rfl (iB ?_));refine eu ZK ZK rfl ?_;refine jS rfl rfl rfl ct rfl qA ?_;refine dG (bD [0,1,2,4,5,6,7,8,27] [(0,_,_),(1,_,_),(2,_,_),(4,_,_),(5,_,_),(6,_,_),(7,_,_),(8,_,_),(27,_,_)] rfl (iB ?_));refine kG rfl (bD [0,1,2,4,5,6,7,8,27] [(0,_,_),(1,_,_),(2,_,_),(4,_,_),(5,_,_),(6,_,_),(7,_,_),(8,_,_),(27,_,_)] rfl (aL ?_));refine aK rfl (λt=> ?_) (λE=> ?_)
   .exact absurd t ZM
   .refine aB ?_;refine bH (i+1,d,z) [0,1,2,6,7,8] rfl ⟨by show i+1<=l.length; omega,D,?_,by show W.heap.size<=C.heap.size; omega,λk c=>by have:=s k c; show k<C.heap.size; omega,p⟩ (by show l.length-(i+1)<l.length-i; omega);show gM l m=d++gM (l.drop (i+1)) m;rw [e,b];rfl
 .have a2:i=l.length:=ZJ;subst a2;refine aB ?_;refine oU results258 (.inl ⟨d,z,?_,N⟩);rw [e,List.drop_length];simp [gM]
end
end Go.Proofs.YtoleahhfkpkcjaaGreatDoor
