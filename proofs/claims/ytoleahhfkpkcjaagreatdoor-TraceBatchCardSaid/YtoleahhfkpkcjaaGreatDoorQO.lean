/- Texts of this claim,joined. -/
import Derived.Test.YtoleahhfkpkcjaaGreatDoorQN
set_option linter.unusedSimpArgs false
set_option linter.unusedVariables false
set_option maxRecDepth 100000
set_option maxHeartbeats 4000000
variable {w:Go.World} {F G I:Nat->Prop} {s:ByteArray} {N:Go.Ord.Net} {k i b g n:Nat} {t:Go.TypeId} {ps:List (List Go.Value×Go.Ord.Rc)} {parts:Array (Nat×Go.Operand)} {x:Go.Ord.Rc} {nm:List ByteArray} {r:List Int} {l:List Go.Ord.Sc} {u lv:Go.Value} {vs:List Go.Value} {most:Int}
namespace Go.PF
open Go.RowKit
section
open Go
section
variable {P:Program} {N:Nat} {ds:List Deferred} {ops rest:List Oper} {w:World} {Fin:DE->Prop} {D:DE} {G:Option Bool} {d:Option Tmp} {ty:TypeId} {pos:String} {af:Array Edge} {gu:Option (Nat×Bool)}
theorem Yt {es:List Ent} {q:Prop} (ψ:Value->World->Prop) (hm:Ent.mono (.pr ψ)) (hg:(fD ops D gu,aC N d)=(some G,true))
  (hx:PArgs (Oper.looksAt ops.toArray ⟨d,.build t parts,ty,pos,af,gu⟩) N ds D G (parts.toList.map (·.2)) es)
  (h: ∀vs w,Sats es vs w-> ∃cs,P.built t ((parts.toList.map (·.1)).zip vs)=some (List.toArray cs)/\ψ (.agg cs.toArray) w)
  (next:q) (imp:Wp q->DW P N ds .weak ops w Fin rest (bE D d G (.pr ψ)):=by exact λh=>Hz h):DW P N ds .weak ops w Fin (⟨d,.build t parts,ty,pos,af,gu⟩::rest) D:=by
 simp only [Prod.mk.injEq] at hg;refine pG hg.1 hg.2 rfl hm (λhG a w' hb ha=> ?_) (imp ⟨next⟩);have hs:=hx (λt ht=>bB (by simpa [Op.operands] using ht)) a w' ha hG;obtain ⟨cs,h1,h2⟩:=h _ _ hs;have hz: ∀l:List (Nat×Operand),l=(l.map (·.1)).zip (l.map (·.2)):=λl=>by
  induction l with
  | nil=>rfl
  | cons a l ih=>rw [List.map_cons,List.map_cons,List.zip_cons_cons,<-ih]
 exact ⟨_,w',vR (hz _) rfl h1,ZA,h2⟩
end
end
end Go.PF
namespace Go.Proofs.YtoleahhfkpkcjaaGreatDoor
open Go.Proofs.Tryz
open Go.PF Go.RowKit Go.Ord
attribute [local irreducible] TW CW KW DW
noncomputable def dV (N:Net):bG:=mU (eH (dZ N)) N.offs.length
structure TrS where
 N:Net
 L:List Sc
 most:Int
 recs:List Rc
structure TrS.Right (S:TrS):Prop where
 snd:SoundOK keys11 S.N
 few:S.L.length<=24
 m0:0<=S.most
 m3:S.most<=3
noncomputable def TrS.ans (S:TrS) (s:ByteArray):Ans:=⟨bO S.L S.recs s,aQ (dV S.N) (bO S.L S.recs s) S.most,bU (dV S.N) (bO S.L S.recs s) S.most⟩
def TrS.Fit (S:TrS) (x:Rc):Prop:=Val S.L x/\(qm S.L x).off<(S.N.offs.length:Int)
structure TrS.OK (S:TrS):Prop where
 right:S.Right
 srt:mK S.recs
 few:S.recs.length<=400
 val: ∀x∈S.recs,S.Fit x
structure TrO (I:Nat->Prop) (w:World) (p gm:Nat) (lv:Value) (nv:NV) (sv dv:Value) (m:List (ByteArray×Value)) (ps:List (List Value×Rc)) (S:TrS):Prop where
 ok:S.OK
 blk:Blk w p 93 [.bool true,nv.c,nv.n,nv.o,nv.f,nv.l,nv.k,sv,ZU S.most,dv,lv,.map (some gm)]
 net:NetIn I w nv S.N
 scn:SL yh I w sv S.L
 dst:SL (sliceT aS) I w dv (dV S.N)
 eq:ps.map (·.2)=S.recs
 own:OwnS w 57 6 lv ps.length (ps.flatMap (·.1))
 reps: ∀q∈ps,rcT.rep I w q.1 q.2
 map:MapL sK w gm m
 ans: ∀q∈m,∃cs,q.2= .agg (List.toArray cs)/\RepA I w cs (S.ans q.1)
 hI: ∀k,I k->k<w.heap.size/\k≠p/\k≠gm/\lv.ownBlock≠some k
 pm:p≠gm
 lp:lv.ownBlock≠some p/\lv.ownBlock≠some gm
def Tr (M F:Nat->Prop) (w:World) (p:Nat) (S:TrS):Prop:= ∃(I:Nat->Prop) (gm:Nat) (lv:Value) (nv:NV) (sv dv:Value) (m:List (ByteArray×Value)) (ps:List (List Value×Rc)),
 TrO I w p gm lv nv sv dv m ps S/\M p/\M gm/\(∀g,lv.ownBlock=some g->M g)/\(∀k,I k->F k)/\(∀k,M k->F k)/\ ∀k,F k->k<w.heap.size
def TrBad (M F:Nat->Prop) (w:World) (p:Nat) (S:TrS):Prop:= ¬S.Right/\S.recs= []/\(∃cs,Blk w p 93 (.bool false::cs)/\cs.length=11/\cs[9]?=some (.slice none 0 0))/\M p/\(∀k,M k->F k)/\ ∀k,F k->k<w.heap.size
def TrA (M F:Nat->Prop) (w:World) (p:Nat) (S:TrS):Prop:=Tr M F w p S\/TrBad M F w p S
theorem jI {w':World} {v:NV} (h:NetIn F w v N) (a:Kept F w w'):NetIn F w' v N:=⟨h.c.mono a,h.n.mono a,h.o.mono a,h.f.mono a,h.l.mono a,h.k.mono a⟩
theorem Mv {v:NV} {L:List Sc} {F0:Nat->Prop} (ht:Tabs w) (a5:NetIn F0 w v N) (s: ∀k,F0 k->k<w.heap.size) (hL:SS w lv L) (hm:fF most) :
  Gives prog 11 #[.agg v.cells.toArray,lv,ZU most] w λu J=>ZT w J/\ ∃p,u= .pointer (some ⟨p,0,none⟩)/\TrA (λk=>w.heap.size<=k/\k<J.heap.size) (λk=>F0 k\/w.heap.size<=k/\k<J.heap.size) J p ⟨N,L,most,[]⟩:=by
 have hN:iA w v N:=NetIn.wider a5 s;have a6:=NetIn.form hN;obtain ⟨R,S,U,Y,Z,vk⟩:=v;obtain ⟨A,aj,rfl,_⟩:=hL.form;refine gw func11 ntmps11 ?_;refine nw (cs:= [R,S,U,Y,Z,vk]) rfl λg3 w3 f3=> ?_;refine eZ sK rfl rfl ?_;intro gm w4 t s4 b4 a7;refine eD [.bool false,.slice none 0 0,.slice none 0 0,.slice none 0 0,.slice none 0 0,.slice none 0 0,.slice none 0 0,.slice none 0 0,ZU 0,.slice none 0 0,.slice none 0 0,.map (some gm)] rfl ?_;refine nw rfl λp w5 D=> ?_;have K:ZT w w5:=(f3.below.step b4).step D.below;have a8:iA w5 ⟨R,S,U,Y,Z,vk⟩ N:=bA hN K;refine aN rfl (Io (v:=⟨R,S,U,Y,Z,vk⟩) (ht.below K) a8) ?_;rintro u i ⟨b6,C,n,c,rfl,hn⟩;clear K;have q3:=f3.at_;have q5:=D.at_;have z3:=f3.size;have z5:=D.size;have z6:=b6.size;have ak:=hL.len.2.2;refine rn ?_;refine iG rfl (λa0=> ?_) λM=> ?_
 .have a9: ¬TrS.Right ⟨N,L,most,[]⟩:=λh=>by
   have E:=hn.2 h.snd;have G:=h.few;have H:=h.m0;have t:=h.m3;dsimp only at G H t;simp [E] at a0;omega
  exact aO rfl ⟨bK,p,rfl,.inr ⟨a9,rfl,⟨_,D.blk.next b6,rfl,rfl⟩,ZJ,λk a=> .inr a,λk a=>a.elim (λh=>by have:=s k h; omega) λh=>h.2⟩⟩
 have hg:n=0/\L.length<=24/\0<=most/\most<=3:=by
  simp at M;omega
 obtain ⟨e0,a1,aa,ab⟩:=hg;have r:=hn.1 e0;have hR:TrS.Right ⟨N,L,most,[]⟩:=⟨r,a1,aa,ab⟩;have ac:SmallN N:=by
  have c:=r.cons;have E:=c.len;have G:=c.cals.few;have H:=c.ops.few;have t:=c.offs.few;have e5:=c.lines.few;have e6:=c.classes.few;refine ⟨ZJ,ZJ,ZJ,ZJ,ZJ,ZJ,λx y=> ?_,λx y=> ?_⟩
  .have:=c.cals.good x y;have h1:=this.wk;have h2:=this.few;omega
  .have:=(c.offs.good x y).few;omega
 have m:ZT w i:=((f3.below.step b4).step D.below).step b6;have ad:=bA hN m;have ae:=ht.below m;have af:=hL.below m;have ag:NetIn F0 i ⟨R,S,U,Y,Z,vk⟩ N:=NetIn.below a5 m;have zw:w.heap.size<=i.heap.size:=m.size;clear m;refine rn ?_;refine NB 9 ?_;refine dp (cap:= []) (λx W=> ∃d:NV,x= .agg d.cells.toArray/\NetIn (λk=>(F0 k\/i.heap.size<=k)/\k<W.heap.size) W d N) (λv w1 w2 j ⟨d,e,h⟩=>⟨d,e,(h.below j).wider λk a=>⟨a.1,Nat.lt_of_lt_of_le a.2 j.size⟩⟩) ZK rfl (λ_ J b=>(Kb (v:=⟨R,S,U,Y,Z,vk⟩) (F:=F0) (ag.below b) (λk a=>by have:=s k a; have:=b.size; omega) ac).mono λx a2 ⟨h1,d,e,h⟩=>⟨h1,d,e,h.wider λk a=>⟨a.1.imp id λh=>by have:=b.size; omega,a.2⟩⟩) ?_;refine dp (cap:= []) (λx W=>SL yh (λk=>i.heap.size<=k/\k<W.heap.size) W x L) (λv w1 w2 j h=>(h.below j).wider λk a=>⟨a.1,Nat.lt_of_lt_of_le a.2 j.size⟩) ZK rfl (λ_ J b=>(Gt (af.below b) ZJ).mono λx a2 y=>⟨y.1,((y.sl ZL (λ_ _ _ _ _ _ h=>h) ZJ).2).wider λk a=>⟨by have:=b.size; omega,a.2⟩⟩) ?_
 refine dp (cap:= []) (λx W=>SL (sliceT aS) (λk=>i.heap.size<=k/\k<W.heap.size) W x (dV N)) (λv w1 w2 j h=>(h.below j).wider λk a=>⟨a.1,Nat.lt_of_lt_of_le a.2 j.size⟩) ZK rfl (λ_ J b=>(NC (v:=⟨R,S,U,Y,Z,vk⟩) (ae.below b) (bA ad b) r.cons).mono λx a2 y=>⟨y.1,y.2.wider λk a=>⟨by have:=b.size; omega,a.2⟩⟩) ?_;refine Yt (λx W=> ∃(d:NV) (sv dv:Value),x= .agg (List.toArray [.bool true,d.c,d.n,d.o,d.f,d.l,d.k,sv,ZU most,dv])/\NetIn (λk=>(F0 k\/i.heap.size<=k)/\k<W.heap.size) W d N/\SL yh (λk=>i.heap.size<=k/\k<W.heap.size) W sv L/\SL (sliceT aS) (λk=>i.heap.size<=k/\k<W.heap.size) W dv (dV N)) (λv w1 w2 j ⟨d,sv,dv,e,h1,h2,h3⟩=>⟨d,sv,dv,e,(h1.below j).wider λk a=>⟨a.1,Nat.lt_of_lt_of_le a.2 j.size⟩,(h2.below j).wider λk a=>⟨a.1,Nat.lt_of_lt_of_le a.2 j.size⟩,(h3.below j).wider λk a=>⟨a.1,Nat.lt_of_lt_of_le a.2 j.size⟩⟩) rfl (bC rfl id (bC rfl id (bC rfl id (bC rfl id (bC rfl id eO))))) (λvs W hs=> ?_) ?_
 .obtain ⟨v1,v2,v3,v4,v5,rfl,s1,s2,s3,s4,s5⟩:=KC hs;obtain ⟨d,rfl,a3⟩:=s2
  replace s3:SL yh (λk=>i.heap.size<=k/\k<W.heap.size) W v3 L:=s3
  replace s5:SL (sliceT aS) (λk=>i.heap.size<=k/\k<W.heap.size) W v5 (dV N):=s5
  cases s1;cases s4;obtain ⟨⟨A1,c1,E⟩,⟨A2,c2,G⟩,⟨A3,c3,H⟩,⟨A4,c4,t⟩,⟨A5,c5,e5⟩,⟨A6,c6,e6⟩⟩:=NetIn.form a3;obtain ⟨A7,c7,e7,_⟩:=SL.form s3;obtain ⟨A8,c8,e8,_⟩:=SL.form s5;obtain ⟨x1,x2,x3,x4,x5,x6⟩:=d;dsimp only at E G H t e5 e6;subst E G H t e5 e6 e7 e8;exact ⟨[.bool true,.slice A1 N.cals.length c1,.slice A2 N.names.length c2,.slice A3 N.ops.length c3,.slice A4 N.offs.length c4,.slice A5 N.lines.length c5,.slice A6 N.classes.length c6,.slice A7 L.length c7,ZU most,.slice A8 (dV N).length c8],ZK,⟨.slice A1 N.cals.length c1,.slice A2 N.names.length c2,.slice A3 N.ops.length c3,.slice A4 N.offs.length c4,.slice A5 N.lines.length c5,.slice A6 N.classes.length c6⟩,.slice A7 L.length c7,.slice A8 (dV N).length c8,rfl,a3,s3,s5⟩
 refine Qq 37 [7,29,34] rfl λal z b7 e7=> ?_;obtain ⟨d,sv,dv,rfl,n7,s7,d7⟩:=e7;obtain ⟨⟨A1,c1,E⟩,⟨A2,c2,G⟩,⟨A3,c3,H⟩,⟨A4,c4,t⟩,⟨A5,c5,e5⟩,⟨A6,c6,e6⟩⟩:=NetIn.form n7;obtain ⟨A7,c7,e7,_⟩:=SL.form s7;obtain ⟨A8,c8,e8,_⟩:=SL.form d7;obtain ⟨x1,x2,x3,x4,x5,x6⟩:=d;dsimp only at E G H t e5 e6;subst E G H t e5 e6 e7 e8;have z7:=b7.size;have B7:=(D.blk.next b6).next b7;have M7:MapL sK z gm []:=((a7.below D.below).below b6).below b7;refine rn ?_;refine Bn (off:=0) (n:=10) rfl rfl rfl B7 rfl rfl ZM rfl λw8 B8 O am=> ?_;refine rn ?_;have a4:ZT w z:=(((f3.below.step b4).step D.below).step b6).step b7;have ah:ZT w w8:=a4.grown O a4.size (λq hq=>by cases hq; omega);have K8: ∀(I:Nat->Prop),(∀k,I k->k<z.heap.size/\k≠p)->Kept I z w8:=λI hI=>Kept.of_blocks λk a ai=>O.block k ai λe=>(hI k a).2 (by cases e; rfl);have B: ∀k,(F0 k\/i.heap.size<=k)/\k<z.heap.size->(k<w.heap.size\/i.heap.size<=k)/\k<z.heap.size:=λk a=>⟨a.1.imp (s k) id,a.2⟩
 refine aO rfl ⟨ah,p,rfl,.inl ⟨λk=>(F0 k\/i.heap.size<=k)/\k<z.heap.size,gm,.slice none 0 0,⟨.slice A1 N.cals.length c1,.slice A2 N.names.length c2,.slice A3 N.ops.length c3,.slice A4 N.offs.length c4,.slice A5 N.lines.length c5,.slice A6 N.classes.length c6⟩,_,_,[],[],⟨⟨hR,.nil,ZM,ZM⟩,B8,?_,?_,?_,rfl,?_,ZM,?_,ZM,(λk a=>by have:=B k a; exact ⟨ZJ,ZJ,ZJ,λh=>by cases h⟩),ZJ,⟨(λh=>by cases h),λh=>by cases h⟩⟩,ZJ,ZJ,(λg h=>by cases h),(λk a=>a.1.imp id λh=>ZJ),(λk a=> .inr a),λk a=>a.elim (λh=>by have:=s k h; omega) λh=>h.2⟩⟩
 .exact jI n7 (K8 _ λk a=>by have:=B k a; omega)
 .exact (s7.wider (F':=λk=>(F0 k\/i.heap.size<=k)/\k<z.heap.size) λk a=>⟨.inr a.1,a.2⟩).mono (K8 _ λk a=>by have:=B k a; omega)
 .exact (d7.wider (F':=λk=>(F0 k\/i.heap.size<=k)/\k<z.heap.size) λk a=>⟨.inr a.1,a.2⟩).mono (K8 _ λk a=>by have:=B k a; omega)
 .exact OwnS.nil _ _ _
 .exact M7.but O ZJ
section
section
variable {I:Nat->Prop} {w w':World} {p gm:Nat} {lv:Value} {nv:NV} {sv dv:Value} {m:List (ByteArray×Value)} {ps:List (List Value×Rc)} {S:TrS}
theorem TrO.sr (h:TrO I w p gm lv nv sv dv m ps S):SL rcT (λk=>k<w.heap.size) w lv S.recs:=by
 rw [<-h.eq];exact eB ps (λq a=>rcT.wider _ _ _ _ _ (λk b=>(h.hI k b).1) (h.reps q a)) ZL h.own rfl (λq a=>h.own.lt a) (by have c:=congrArg List.length h.eq; have:=h.ok.few; rw [List.length_map] at c; omega)
theorem TrO.lst (h:TrO I w p gm lv nv sv dv m ps S):LstAt (λk=>k<w.heap.size) w p S.recs:=⟨h.blk.lt,lv,h.blk.fld rfl,h.sr⟩
theorem TrO.mapAt (h:TrO I w p gm lv nv sv dv m ps S):MapAt w p gm m:=⟨h.blk.fld rfl,h.map,λq a=>by
 obtain ⟨c,e,b⟩:=h.ans q a;rw [e];exact b.ansV⟩
theorem TrO.kept (h:TrO I w p gm lv nv sv dv m ps S) (hs:w.heap.size<=w'.heap.size) (d: ∀k,k<w.heap.size->(I k\/k=p\/k=gm\/lv.ownBlock=some k)->w'.heap[k]?=w.heap[k]?):TrO I w' p gm lv nv sv dv m ps S:=by
 have c:=Kept.of_blocks λk a f=>d k f (.inl a);exact ⟨h.ok,(d p h.blk.lt (.inr (.inl rfl))).trans h.blk,jI h.net c,h.scn.mono c,h.dst.mono c,h.eq,h.own.kept λq b=>d q (h.own.lt b) (.inr (.inr (.inr b))),λq b=>rcT.mono _ _ _ _ _ c (h.reps q b),h.map.kept (d gm h.map.lt (.inr (.inr (.inl rfl)))),λq b=>by
  obtain ⟨g,e,i⟩:=h.ans q b;exact ⟨g,e,i.mono c⟩,λk a=>by have:=h.hI k a; exact ⟨ZJ,this.2⟩,h.pm,h.lp⟩
theorem TrO.below (h:TrO I w p gm lv nv sv dv m ps S) (hb:ZT w w'):TrO I w' p gm lv nv sv dv m ps S:=h.kept hb.size λk a _=>hb.block k a
theorem TrO.wider {J:Nat->Prop} (h:TrO I w p gm lv nv sv dv m ps S) (a: ∀k,I k->J k) (f: ∀k,J k->k<w.heap.size/\k≠p/\k≠gm/\lv.ownBlock≠some k):TrO J w p gm lv nv sv dv m ps S :=
 ⟨h.ok,h.blk,h.net.wider a,h.scn.wider a,h.dst.wider a,h.eq,h.own,λq b=>rcT.wider _ _ _ _ _ a (h.reps q b),h.map,λq b=>by
  obtain ⟨c,e,d⟩:=h.ans q b;exact ⟨c,e,d.wider a⟩,f,h.pm,h.lp⟩
theorem TrO.put {m':List (ByteArray×Value)} (h:TrO I w p gm lv nv sv dv m ps S) (hb:w.grownBy w' (some gm)) (hm:MapL sK w' gm m') (i: ∀q∈m',∃g,q.2= .agg (List.toArray g)/\RepA (λk=>I k\/w.heap.size<=k/\k<w'.heap.size) w' g (S.ans q.1)) :
  TrO (λk=>I k\/w.heap.size<=k/\k<w'.heap.size) w' p gm lv nv sv dv m' ps S:=by
 have b:=Kept.of_blocks λk a f=>hb.block k f λe=>by cases e; exact (h.hI _ a).2.2.1 rfl
 have c: ∀k,I k->I k\/w.heap.size<=k/\k<w'.heap.size:=λk a=> .inl a;have j:=h.map.lt;have l:=h.blk.lt;have n:=hb.size;exact ⟨h.ok,GB.blk hb h.blk (λe=>by cases e; exact h.pm rfl),(jI h.net b).wider c,(h.scn.mono b).wider c,(h.dst.mono b).wider c,h.eq,h.own.kept λq d=>hb.block q (h.own.lt d) (λe=>by cases e; exact h.lp.2 d),λq d=>rcT.wider _ _ _ _ _ c (rcT.mono _ _ _ _ _ b (h.reps q d)),hm,i,λk a=>by
  rcases a with a|a
  .have:=h.hI k a;exact ⟨ZJ,this.2⟩
  .exact ⟨a.2,ZJ,ZJ,λe=>by have:=h.own.lt e; omega⟩,h.pm,h.lp⟩
end
instance:FnT yh (λs=> [ZU s.op,ZU s.off,ZU s.err]):=⟨λ_ _ _ _ h=>h.1⟩
theorem O6 {p gm:Nat} {nv:NV} {sv dv:Value} {m:List (ByteArray×Value)} {S:TrS} {xv:Value} (h:TrO I w p gm lv nv sv dv m ps S) (k:RcOK G w xv x) :
  Gives prog 60 #[.pointer (some ⟨p,0,none⟩),.agg (iq x xv).toArray] w λu g=>ZT w g/\u= .bool (dec (S.Fit x)):=by
 have E:=h.blk;have b:=h.scn;have o:=h.net;obtain ⟨_,_,_,⟨F,H,n⟩,_,_⟩:=NetIn.form o;obtain ⟨J,K,M,O,R,U⟩:=nv;subst n;refine gw func60 ntmps60 ?_;refine nw rfl λW Y e=> ?_;by_cases a:Val S.L x
 .obtain ⟨c,t⟩:=a.sc;have Z:=(ZE c).1;have y:=a.comp.s1;refine dx ?_;refine dc ZK rfl (λ_ g d=>aD a ▸ vJ (b.below (e.below.step d)) (k.below (e.below.step d))) ?_;refine vW ?_;refine dz λC D=> ?_;refine aO rfl ⟨bK,?_⟩;rw [Bool.true_and,dJ (⟨λh=>h.2,λh=>⟨a,h⟩⟩:S.Fit x↔(qm S.L x).off<(S.N.offs.length:Int))];unfold dec;simp
 .refine dx ?_;refine dc ZK rfl (λ_ g d=>aH a ▸ vJ (b.below (e.below.step d)) (k.below (e.below.step d))) ?_;have hG: ¬aF (some false):=by simp [aF]
  refine rd ?_;refine dz λC D=> ?_;exact aO rfl ⟨bK,by rw [aH λh:S.Fit x=>a h.1]; rfl⟩
end
section
theorem Gb {r:List Rc} {lab:ByteArray}: ∀e∈bO l r lab,∀n∈e.needs,n<(r.length:Int):=λe b n d=>by
 obtain ⟨c,a,i,x,f,g,o,p,rfl⟩:=(mem_folL.1 (mem_canon.1 (List.mem_of_mem_take b))).has;obtain ⟨j,k,rfl⟩:=mem_recI.1 d;rcases ZH k with h|h
 .obtain ⟨y,m,_⟩:=f.lt j h;have:=(ZE m).1;omega
 .simp at h;have:=(ZE g).1;omega
theorem IU {d:bG} {l:List Ev} {S:List Int} (h:S∈aQ d l most):S.Sublist (aV l)/\S.length<=3:=by
 unfold aQ at h
 split at h
 .obtain ⟨a,b⟩:=mem_setsS.1 (List.mem_filter.1 h).1;exact ⟨a,ZJ⟩
 .cases h
theorem EJ {d:bG} {l:List Ev}:(aQ d l most).length<=3375:=by
 unfold aQ
 split
 .refine Nat.le_trans (List.length_filter_le _ _) (Nat.le_trans (pO _ _) (Nat.le_trans (Nat.pow_le_pow_left (show (aV l).length+1<=15 by omega) _) (Nat.pow_le_pow_right (j:=3) ZL ZJ)))
 .simp
theorem xG {S:TrS} (h:S.recs.length<=400):(S.ans s).Fine S.recs.length where
 e:=Ii
 n:=λx a=>⟨by have:=jL x a; omega,λn d=>⟨vO x a n d,Gb x a n d⟩⟩
 w:=Nat.le_trans EJ ZL
 s:=λx a=>by
  obtain ⟨g,i⟩:=IU a;refine ⟨ZJ,λn d=> ?_⟩;obtain ⟨e,f,c⟩:=mem_recsS.1 (g.subset d);exact ⟨vO e f n c,Gb e f n c⟩
 b:=ZJ
theorem Hw {l:List Int} {p:Nat} (h: ∀n∈l,0<=n/\n<(b:Int)) (hp:b<=p):dS (sh p) l=l:=by
 refine (List.map_congr_left λn a=> ?_).trans (List.map_id l);have:=h n a;unfold sh;rw [if_pos ZJ];show ((n.toNat:Nat):Int)=n;omega
theorem Si {a:Ans} {p:Nat} (h:a.Fine b) (hp:b<=p):a.ren (sh p)=a:=by
 obtain ⟨c,d,i⟩:=a;unfold Ans.ren
 congr 1
 .refine (List.map_congr_left λe f=> ?_).trans (List.map_id c);show iR (sh p) e=e;unfold iR;rw [Hw (h.n e f).2 hp]
 .exact (List.map_congr_left λS g=>Hw (h.s S g).2 hp).trans (List.map_id d)
open Classical in
noncomputable def TrS.put (S:TrS) (x:Rc):TrS:=⟨S.N,S.L,S.most,eY S.recs x⟩
open Classical in
noncomputable def TrS.addE (S:TrS) (x:Rc):Int:=if S.Right/\S.Fit x then (if x∈S.recs\/S.recs.length<400 then 0 else 2) else 1
open Classical in
noncomputable def TrS.add (S:TrS) (x:Rc):TrS:=if S.addE x=0 then S.put x else S
theorem wJ {S:TrS} (a:x ∉ S.recs):(S.put x).recs=ky S.recs (lT S.recs x) x:=if_neg a
theorem Sq {S:TrS} (a:x∈S.recs):S.put x=S:=by
 unfold TrS.put eY;rw [if_pos a]
theorem Ir {S:TrS} (g:x ∉ S.recs) (h: ¬Tch S.recs x 3 s):(S.put x).ans s=(S.ans s).ren (sh (lT S.recs x)):=by
 have b:=(j6 S.recs x).le;have c:=Qi (l:=S.L) (AP b) λi a=>yu b h a;obtain ⟨e,f⟩:=EI (Hf (lT S.recs x)) vO;unfold TrS.ans Ans.ren;rw [wJ g];show Ans.mk (bO S.L _ s) (aQ (dV S.N) (bO S.L _ s) S.most) (bU (dV S.N) (bO S.L _ s) S.most)=_;rw [c,e,f]
theorem Sn {S:TrS} (h:S.OK) (b:x ∉ S.recs) (c:S.Fit x) (hl:S.recs.length<400):(S.put x).OK where
 right:=⟨h.right.snd,h.right.few,h.right.m0,h.right.m3⟩
 srt:=uI h.srt
 few:=by
  rw [wJ b];unfold ky;rw [List.length_append,List.length_cons,List.length_take,List.length_drop];omega
 val:=λy a=>by
  rcases mem_insertR.1 a with rfl|a
  .exact c
  .exact h.val y a
theorem pK (h:Val l x):x.cont.length<=40:=by
 rcases h.comp.kinds with ⟨_,e⟩|⟨_,e,_⟩
 .rw [e]; decide
 .exact e
end
end Go.Proofs.YtoleahhfkpkcjaaGreatDoor
namespace Go.PF
open Go.RowKit
theorem Yr {P:Program} {N:Nat} {ds:List Deferred} {ops rest:List Oper} {D:DE} {G:Option Bool} {Fin:DE->Prop} {d:Option Tmp} {ty:TypeId} {pos:String} {af:Array Edge} {gu:Option (Nat×Bool)} (e:TypeId) {sz len:Nat} {cx:List (Option Bool)} {q:Prop} (he:cB P t e sz=true)
  (h:(fD ops D gu,aC N d,vF D (parts.toList.map (·.2)))=(some G,true,some (cx,vs))) (next:q) (hp:parts.toList=number (parts.toList.map (·.2)):=by rfl) (hl:len=vs.length:=by rfl)
  (hv:vs.all (λv=>Nat.beq v.cells.size sz)=true:=by rfl) (hsm:Nat.ble (vs.length*sz) 16777216=true:=by rfl) (hpos:Nat.blt 0 vs.length=true:=by rfl) (hi:uF G cx:=by repeat (first|exact trivial|(apply And.intro; (first|exact ct|exact id|exact cZ|(simp_all [aF]; done)))))
  (imp:Wp q->DW P N ds .weak ops w Fin rest (bE D d G (.pr (Lies e len (vs.flatMap λv=>v.cells.toList)))):=by exact λh=>Hz h):DW P N ds .weak ops w Fin (⟨d,.buildSlice t len parts,ty,pos,af,gu⟩::rest) D:=by
 simp only [Prod.mk.injEq] at h;exact kw e (parts.toList.map (·.2)) h.1 h.2.1 hp he (λhL a w' ha hG=>jm ha hG hL h.2.2 hi) hl hv hsm hpos rfl (imp ⟨next⟩)
end Go.PF
namespace Go.Proofs.YtoleahhfkpkcjaaGreatDoor
open Go.Proofs.Tryz
open Go.PF Go.RowKit Go.Ord
attribute [local irreducible] TW CW KW DW
theorem AY: ∀ {a b:List ByteArray} {i:Nat} {s t:ByteArray},(∀j s t,j<i->a[j]?=some s->b[j]?=some t->ic s t=0)->a[i]?=some s->b[i]?=some t->ic s t≠0->ow a b=ic s t
 | [],_,_,_,_,_,h,_,_=>by simp at h
 | _::_,[],_,_,_,_,_,h,_=>by simp at h
 | x::a,y::b,0,s,t,_,c,d,e=>by
  simp at c d;subst c d
  exact if_neg e
 | x::a,y::b,i+1,s,t,f,c,d,e=>by
  have:=f 0 x y ZJ rfl rfl;unfold ow;rw [if_pos this];exact AY (i:=i) (λj s t l g k=>f (j+1) s t ZJ (by simpa using g) (by simpa using k)) (by simpa using c) (by simpa using d) e
theorem Im: ∀ {a b:List ByteArray},a.length=b.length->(∀(j:Nat) s t,a[j]?=some s->b[j]?=some t->ic s t=0)->ow a b=0
 | [],[],_,_=>rfl
 | [],_::_,h,_=>by simp at h
 | _::_,[],h,_=>by simp at h
 | x::a,y::b,d,c=>by
  unfold ow;rw [if_pos (c 0 x y rfl rfl)];exact Im (by simpa using d) λj s t e f=>c (j+1) s t (by simpa using e) (by simpa using f)
theorem rU {m n:Int}:Gives prog 67 #[ZU m,ZU n] w λu b=>ZT w b/\u= ZU (jP m n):=by
 refine gw func67 ntmps67 ?_;refine cd rfl (λh=> ?_) λh=> ?_
 .exact aO rfl ⟨bK,by unfold jP; rw [if_pos h]⟩
 refine cd rfl (λa=> ?_) λa=> ?_
 .exact aO rfl ⟨bK,by unfold jP; rw [if_neg h,if_pos a]⟩
 exact aO rfl ⟨bK,by unfold jP; rw [if_neg h,if_neg a]⟩
theorem Hm {t:ByteArray}:Gives prog 68 #[.string s,.string t] w λu c=>ZT w c/\u= ZU (ic s t):=by
 refine gw func68 ntmps68 ?_;have d:ic s t= -1\/ic s t=0\/ic s t=1:=sJ _ _;have b:=um s t;refine iG rfl (λh=> ?_) λh=> ?_
 .rw [b,decide_eq_true_eq] at h;exact aO rfl ⟨bK,by rw [show ic s t= -1 by omega]⟩
 rw [b,decide_eq_false_iff_not] at h;refine iG rfl (λa=> ?_) λa=> ?_
 .have:ic s t≠0:=λe=>by simp [(MF s t).2 (cmpS_eq.1 e)] at a
  exact aO rfl ⟨bK,by rw [show ic s t=1 by omega]⟩
 have:ic s t=0:=by
  refine cmpS_eq.2 ((MF s t).1 ?_);cases q:(s.toList==t.toList)
  .rw [b,decide_eq_false h,q] at a;cases a
  .rfl
 exact aO rfl ⟨bK,by rw [this]⟩
theorem lX {v:Value} {a b:Rc} (y:RcOK F w u a) (hb:RcOK G w v b):Gives prog 30 #[.agg (iq a u).toArray,.agg (iq b v).toArray] w λx k=>ZT w k/\x= ZU (mI a b):=by
 obtain ⟨A,I,rfl,_⟩:=y.ct.form;obtain ⟨B,J,rfl,_⟩:=hb.ct.form;refine gw func30 ntmps30 ?_;refine nw rfl λg2 w2 M=> ?_;refine nw rfl λg3 N O=> ?_;have bb:Wp (ZT w N):=⟨M.below.step O.below⟩;refine dx ?_;refine dc (cap:= []) ZK rfl (λ_ k hb=>rU) ?_;refine dc (cap:= []) ZK rfl (λ_ k hb=>rU) ?_;refine dc (cap:= []) ZK rfl (λ_ k hb=>rU) ?_;refine dc (cap:= []) ZK rfl (λ_ k hb=>rU) ?_;refine dc (cap:= []) ZK rfl (λ_ k hb=>Hm) ?_;refine dc (cap:= []) ZK rfl (λ_ k hb=>rU) ?_;refine Yr 3 kC rfl ?_;refine lS rfl rfl rfl ct (Lies.mono _ _ _) ?_;refine gJ (vX [2,3] _ rfl [5] rfl λvs R b4 S=> ?_);obtain ⟨v5,rfl,U,rfl,Y⟩:=Sats.one S;have n: ∀i,i<6-> [Value.int .i64 (jP a.scn b.scn),ZU (jP a.num b.num),ZU (jP a.kind b.kind),ZU (jP a.time b.time),ZU (ic a.label b.label),ZU (jP a.cont.length b.cont.length)][i]?=some (ZU (mD a b i)):=λi K=>by
  match i,K with
  | 0,_=>rfl
  | 1,_=>rfl
  | 2,_=>rfl
  | 3,_=>rfl
  | 4,_=>rfl
  | 5,_=>rfl
 refine rn ?_;refine UR [2,3,5] 6 6 (λi _=> ∀j,j<i->mD a b j=0) (λj h=>ZJ) ?_;intro i W K hW o;refine cd rfl (λz=> ?_) λC=> ?_
 .have c:i<6:=ZJ;have D:R.cell? (Addr.add ⟨U,0,none⟩ ((i:Int).toNat*1))=some (ZU (mD a b i)):=Y.fld (by rw [Nat.mul_one]; exact n i c);refine rn ?_;refine cd rfl (λd=> ?_) λl=> ?_
  .exact aO rfl ⟨bK,by rw [Az ZJ o d]⟩
  refine ou λj L=> ?_;rcases ZI j i with q|q
  .exact o j q
  .rw [show j=i by omega]; exact Classical.byContradiction l
 have E:i=6:=ZJ;subst E;have p:a.cont.length=b.cont.length:=by
  have:=o 5 ZL;simp only [mD,jP] at this
  split at this
  .omega
  .split at this<;>omega
 have Z:=y.ct.len.2.2;refine UR [2,3] 7 a.cont.length (λi _=> ∀j s t,j<i->a.cont[j]?=some s->b.cont[j]?=some t->ic s t=0) (λj s t h=>ZJ) ?_;intro i W2 a0 a1 g;refine cd rfl (λz=> ?_) λC=> ?_
 .have c:i<a.cont.length:=ZJ;obtain ⟨A0,rfl⟩:=y.ct.addr ZJ;obtain ⟨B0,rfl⟩:=hb.ct.addr ZJ;have a2:=y.ct;have a3:=hb.ct;refine dx ?_;refine dc (cap:= []) ZK rfl (λ_ k hb=>Hm) ?_;refine dz λw7 b7=> ?_;refine cd rfl (λd=> ?_) λl=> ?_
  .exact aO rfl ⟨bK,by rw [Az (i:=6) ZJ o (by rw [show mD a b 6=ow a.cont b.cont from rfl,AY g (ZD c) (ZD ZJ) d]; exact d)]; exact congrArg _ (AY g (ZD c) (ZD ZJ) d).symm⟩
  have hn: ∀j s t,j<i+1->a.cont[j]?=some s->b.cont[j]?=some t->ic s t=0:=λj s t L m r=>by
   rcases ZI j i with q|q
   .exact g j s t q m r
   .have e:j=i:=ZJ;subst e;rw [ZD c] at m;rw [ZD ZJ] at r;cases m;cases r;exact Classical.byContradiction l
  exact ou hn
 have H:i=a.cont.length:=ZJ;subst H;exact aO rfl ⟨bK,by rw [H9 λj L=>by
  rcases ZI j 6 with q|q
  .exact o j q
  .rw [show j=6 by omega];exact Im p λj s t m r=>g j s t (ZE m).1 m r]⟩
end Go.Proofs.YtoleahhfkpkcjaaGreatDoor
namespace Go.PF
open Go.RowKit
theorem qY {α:Type} {n:Nat}: ∀ {a:List (List Value×α)} (_: ∀q∈a,q.1.length=n) (i:Nat),(a.flatMap (·.1)).take (i*n)=(a.take i).flatMap (·.1)/\(a.flatMap (·.1)).drop (i*n)=(a.drop i).flatMap (·.1)
 | [],_,i=>by simp
 | q::a,h,0=>by simp
 | q::a,h,i+1=>by
  have b:=h q ZM;obtain ⟨c,d⟩:=qY (λp e=>h p (List.mem_cons_of_mem _ e)) i;rw [List.flatMap_cons,Nat.succ_mul,Nat.add_comm,List.take_add,List.drop_append,List.take_append,List.take_succ_cons,List.drop_succ_cons,List.flatMap_cons,<-c,<-d];subst b;constructor
  .simp
  .simp
section
def TyB (w:World) (k:Nat) (t:TypeId):Prop:= ∃cs,w.heap[k]?=some (.cells cs t)
theorem TyB.next {w':World} (h:TyB w k t) (hb:w'.heap[k]?=w.heap[k]?):TyB w' k t:=by
 obtain ⟨a,e⟩:=h;exact ⟨a,hb.trans e⟩
theorem TyB.lt (h:TyB w k t):k<w.heap.size:=by
 obtain ⟨a,e⟩:=h;exact (Array.getElem?_eq_some_iff.1 e).1
theorem TyB.ne {t':TypeId} {cs:List Value} (h:TyB w k t) (a:Blk w g t' cs) (d:t≠t'):k≠g:=λe=>by
 obtain ⟨b,c⟩:=h;subst e;unfold Blk at a;rw [c] at a;cases a;exact d rfl
theorem OwnS.ty {e:TypeId} {sz:Nat} {v:Value} {xs:List Value} (h:OwnS w e sz v n xs) (a:v.ownBlock=some g):TyB w g e:=by
 rcases h.2 with ⟨rfl,_⟩|⟨f,c,b,rfl,_,d,_⟩
 .cases a
 .cases a;exact ⟨_,d⟩
structure StepN (w0:World) (t:TypeId) (w w':World):Prop where
 os:w'.os=w.os
 tape:w'.tape=w.tape
 output:w'.output=w.output
 size:w.heap.size<=w'.heap.size
 block: ∀k,k<w.heap.size->(k<w0.heap.size\/ ¬TyB w k t)->w'.heap[k]?=w.heap[k]?
 ty: ∀k cs,Blk w k t cs-> ∃cs',Blk w' k t cs'/\cs'.length=cs.length
theorem StepN.of_below {w0 w':World} (h:ZT w w'):StepN w0 t w w':=⟨h.os,h.tape,h.output,h.size,λk a _=>h.block k a,λk b a=>⟨b,a.next h,rfl⟩⟩
def PG (w0:World) (sx sy:Nat) (t:TypeId):Disc w0 where
 rel:=Below w0.heap.size w0
 tok:=wY
 lock:=λ_=>True
 still:=λw w'=>ZT w w'
 lock_still:=λ_ _ _ h=>h
 still_refl:=λw=>Below.refl _ w
 fs:= [sx,sy]
 fin:=λa w=> ∃g cs,a.tmps.getD sx undef= .pointer (some ⟨g,0,none⟩)/\w0.heap.size<=g/\a.tmps.getD sy undef= .agg (List.toArray cs)/\Blk w g t cs
 fin_still:=λa a' w w' hs hb ⟨g,cs,h1,h2,h3,h4⟩=>⟨g,cs,(hs sx ZM).trans h1,h2,(hs sy ZM).trans h3,h4.next hb⟩
 good:=λ_ e=> ∀v w w',StepN w0 t w w'->e.sat v w->e.sat v w'
 foot:=λ_ _ _ _=>False
 step:=λw w' _=>StepN w0 t w w'
 foot_ex:=λ_ _ _ _ h=>h
 step_refl:=λw _=> .of_below (Below.refl _ w)
 rel_step:=λw w' _ hr h=>⟨h.os.trans hr.os,h.tape.trans hr.tape,h.output.trans hr.output,Nat.le_trans hr.size h.size,λk hk=>(h.block k (Nat.lt_of_lt_of_le hk hr.size) (.inl hk)).trans (hr.block k hk)⟩
 keep:=λ_ e hg v w w' _ _ hs _ _ h=>hg v w w' hs h
 back:=λ_ _ _ _ _ _ _ _ _ _ _ _ _ h=>h.elim
 bound:=λ_ _ _ _ _ _ _ h=>h.elim
 inv:=λ_=>True
 inv_step:=λ_ _ _ _ _=>trivial
section
variable {P:Program} {r:Option Nat} {Q:Exit->Act->World->Prop} {N:Nat} {ds:List Deferred} {ops rest:List Oper} {D:DE} {w:World} {sx sy:Nat} {bt:TypeId} {G:Option Bool} {Fin:DE->Prop}
def DN (P:Program) (N:Nat) (ds:List Deferred) (ops:List Oper) (w0:World) (sx sy:Nat) (bt:TypeId) (Fin:DE->Prop):List Oper->DE->Prop
 | [],D=>Fin D
 | p::rest,D=> ∃G e,tQ P N ds ops (PG w0 sx sy bt) p D G e []/\DN P N ds ops w0 sx sy bt Fin rest (bE D p.dst G e)
theorem DN.entries: ∀ {a:List Oper} {D:DE},DN P N ds ops w sx sy bt Fin a D ->
  ∃ b:List Lay,b.length=a.length/\Fin (fT D a b) /\
   ∀ i p G e s,a[i]?=some p->b[i]?=some (G,e,s)->tQ P N ds ops (PG w sx sy bt) p (fT D (a.take i) (b.take i)) G e s
 | [],D,h=>⟨[],rfl,h,λi p G e s f _=>by simp at f⟩
 | p::a,D,h=>by
  obtain ⟨G,e,f,g⟩:=h;rw [<-fq D] at g;obtain ⟨b,j,k,l⟩:=DN.entries g;refine ⟨(G,e,[])::b,by simp [j],k,?_⟩;intro i m n o q c d
  cases i with
  | zero =>
   simp at c d;obtain ⟨rfl,rfl,rfl⟩:=d;subst c
   simpa [fT] using f
  | succ i =>
   simpa [fT] using l i m n o q c d
def Xq (ops:List Oper) (sx sy:Nat):Bool:=ops.all λo=> !wY o||ops.zipIdx.all λ(p,j)=>match p.dst with
 | none=>true
 | some d=> !(Nat.beq d sx||Nat.beq d sy)||o.after.any λe=>Region.binds .any e&&Nat.beq e.on j
theorem OR {id:Nat} {E:Env} (M O:Nat) (bt:TypeId) [Mx P] (z:HY ops=true) (H:Xq ops M O=true) (a4:fU ops=true)
  (h:DN P N ds ops w M O bt (λD=> ∀a R g cs,ZT w R->a.tmps.getD M undef= .pointer (some ⟨g,0,none⟩)->w.heap.size<=g->a.tmps.getD O undef= .agg (List.toArray cs)->Blk R g bt cs->FitD N ds D a R->Q .normal a R) ops (lift E)):CW P r Q N ds (.region id ops.toArray true) E w:=by
 refine dP Mx.q λW hb a ha b u S I a5=> ?_;obtain ⟨U,hl,hF,v⟩:=DN.entries h;have Y:bN ops 0 ops.length=ops:=by unfold bN; simp
 have Z:iL ops 0 ops.length=true:=by
  unfold iL;have a7:(gF ops).length=ops.length:=by unfold gF; rw [iX]; simp
  rw [List.drop_eq_nil_of_le ZJ];rfl
 unfold HY at z;rw [Bool.and_eq_true] at z;obtain ⟨m,J⟩:=z;have m:=Nat.le_of_ble_eq_true m;have y: ∀k,b.getD k false=false:=λk=>by
  rcases ZI k ops.length with h|h
  .rw [I k h]; simp
  .simp [Array.getElem?_eq_none (show b.size<=k by omega)]
 refine lG (N:=N) (ds:=ds) (a0:=a) (D0:=lift E) (PG w M O bt) a4 Z ZB ZC ZJ ?_ (λi j p p' _ _ n hj K A=> ?_) (λi j o o' ho ht hj x hx hd=> ?_) ?_ ?_ u b a W S ?_ ?_
 .intro i p G e E n hg;rw [Nat.zero_add] at n;rw [Y];exact v i p G e E n hg
 .rw [Nat.zero_add] at n hj;exact ko m n K hj A
 .have K:=List.all_eq_true.1 H o (ZF ho);have ht:wY o=true:=ht;rw [ht] at K;have A:=List.all_eq_true.1 K (o',j) (by rw [List.mem_zipIdx_iff_getElem?]; simpa using hj);simp only [hd] at A;have hx:x=M\/x=O:=by
   have:x∈ [M,O]:=hx;simpa using this
  have h3:(Nat.beq x M||Nat.beq x O)=true:=by
   rcases hx with rfl|rfl
   .rw [ig]; rfl
   . simp
  rw [h3] at A;simp only [Bool.not_true,Bool.false_or] at A;rw [Array.any_eq_true'] at A;obtain ⟨e,C,h5⟩:=A;simp only [Bool.and_eq_true] at h5;exact ⟨e,C,h5.1,Nat.eq_of_beq_eq_true h5.2⟩
 .intro i c e C;rw [jM] at C
  cases l:look E i with
  | none=>rw [l] at C; cases C
  | some p =>
   rw [l] at C;obtain ⟨rfl,rfl⟩:=C;exact ⟨_,rfl,ha.slots i p.1 p.2 l⟩
 .intro u b a R S I a5 a6 _ a1 _ F;rw [Y] at F;obtain ⟨p,hp,L⟩:=List.any_eq_true.1 J;rw [Bool.and_eq_true] at L;obtain ⟨i,n⟩:=List.mem_iff_getElem?.1 hp;have a8:=(ZE n).1;obtain ⟨G,e,E,a2⟩: ∃G e E,U[i]?=some (G,e,E):=⟨_,_,_,ZD ZJ⟩;have a3:=(v i p G e E n a2).1;have hn:p.guard=none:=by simpa using L.2
  rw [hn] at a3;cases a3;obtain ⟨g,cs,q1,q2,q3,q4⟩:=a1 i p none e E (by rw [Nat.zero_add]; exact n) a2 L.1 trivial;have hr:Region.ready .any ops.toArray b= []:=by
   unfold Region.ready;rw [List.filter_eq_nil_iff];intro k B;have B:k<ops.length:=by simpa using B
   have K:=I k B;have:k<b.size:=ZJ;have A:b.getD k true=true:=by simpa [this,B] using K
   simp [A]
  have:=hF a R g cs a6 q1 q2 q3 q4 F
  cases u with
  | zero=>exact ⟨hr,this⟩
  | succ f=>exact ⟨λ_=>this,λi n=>by rw [hr] at n; cases n⟩
 .refine Nat.le_trans (List.length_filter_le _ _) ?_;simp; omega
 .refine ⟨hb,(λk p _ _ _ _=>trivial),trivial,(λk p G e E _ _ _ l _=>by rw [y] at l; cases l),ha.size,ha.defers,λk B=>ZJ,λk B=>y k,?_,?_,λ_ _ _ _ _ _ _=>rfl,λ_ _=>rfl,?_⟩
  .intro k o d G e E B _ _ l;rw [y] at l; cases l
  .intro k o d G e E k' o' d' G' e' E' B _ _ l;rw [y] at l; cases l
  .intro k o B l;rw [y] at l; cases l
theorem DN.nil (h:Fin D):DN P N ds ops w sx sy bt Fin [] D:=h
theorem DN.gen {p:Oper} {e:Ent} (f:wY p=false) (r:fD ops D p.guard=some G) (t:aC N p.dst=true) (hn:dX p.op=true) (hm: ∀v i j,StepN w bt i j->e.sat v i->e.sat v j)
  (d:aF G-> ∀a c,ZT w c->FitL N ds (p.looksAt ops.toArray) D a c-> ∃v b,(execOp a.eval p).run P c= .ok (.value v) b/\ZT c b/\e.sat v b) (next:DN P N ds ops w sx sy bt Fin rest (bE D p.dst G e)):DN P N ds ops w sx sy bt Fin (p::rest) D :=
 ⟨G,e,⟨r,t,hn,hm,rfl,λs k=>by simp at k,λl a c m _ n=>by
  obtain ⟨v,b,o,g,q⟩:=d l a c m n;exact .inl ⟨v,b,.inl o,.of_below g,⟨λ_=>g,λh=>by rw [show (PG w sx sy bt).tok p=wY p from rfl,f] at h; cases h⟩,q,λ_ h=>h.elim⟩⟩,next⟩
theorem DN.val {p:Oper} {v:Value} (d:wY p=false) (j:fD ops D p.guard=some G) (k:aC N p.dst=true) (hn:dX p.op=true)
  (c:aF G-> ∀a b,ZT w b->FitL N ds (p.looksAt ops.toArray) D a b->(execOp a.eval p).run P b= .ok (.value v) b) (next:DN P N ds ops w sx sy bt Fin rest (bE D p.dst G (.ex v))):DN P N ds ops w sx sy bt Fin (p::rest) D :=
 DN.gen (e:= .ex v) d j k hn (λ_ _ _ _ h=>h) (λf a b g i=>⟨v,b,c f a b g i,ZA,rfl⟩) next
variable {d:Option Tmp} {ty:TypeId} {pos:String} {af:Array Edge} {gu:Option (Nat×Bool)} {x:Operand} {cx:Option Bool}
theorem DN.v {op:Op} {xs:List Operand} {C:Prop} {v:Value} {cs:List (Option Bool)} (hv:Val P ⟨d,op,ty,pos,af,gu⟩ xs vs C v) (h:(fD ops D gu,aC N d,vF D xs)=(some G,true,some (cs,vs))) (hi:uF G cs) (hC:aF G->C) (hns:wY ⟨d,op,ty,pos,af,gu⟩=false:=by rfl)
  (next:DN P N ds ops w sx sy bt Fin rest (bE D d G (.ex v))):DN P N ds ops w sx sy bt Fin (⟨d,op,ty,pos,af,gu⟩::rest) D:=by
 simp only [Prod.mk.injEq] at h;exact DN.val hns h.1 h.2.1 hv.nd (λhG a w' _ ha=>hv.run (hC hG) a.eval w' (jm ha hG (λt ht=>bB (hv.mem _ ht)) h.2.2 hi)) next
theorem DN.loadS {t:TypeId} {ad:Addr} {fs:Array Field} {n:Nat} (cs:List Value) (g:fD ops D gu=some G) (h:aC N d=true) (i:P.underlying t=some (.struct fs)) (hs:(P.info? t).map (·.size)=some n)
  (k:dev D x=some (cx,.ex (.pointer (some ad)))) (l:aF G->aF cx) (c:aF G-> ∀j v,cs[j]?=some v->w.cell? (ad.add j)=some v) (hl:cs.length=n)
  (next:DN P N ds ops w sx sy bt Fin rest (bE D d G (.ex (.agg cs.toArray)))):DN P N ds ops w sx sy bt Fin (⟨d,.load t x,ty,pos,af,gu⟩::rest) D :=
 DN.val rfl g h rfl (λa _ _ e f=>vQ i (hl ▸ hs) (f.eval k ZQ (l a)) (λj v b=>(e.cell (block_lt_of_cell (c a j v b))).trans (c a j v b))) next
theorem DN.call {f:Operand} {k:FuncId} {cap:List Value} {cf:Option Bool} {xs:List Operand} {vs:List Value} {cs:List (Option Bool)} {ts:Array TypeId} (φ:Value->World->Prop) (hm: ∀v j l,StepN w bt j l->φ v j->φ v l) (he:enters P k=true)
  (h:(fD ops D gu,aC N d,dev D f,vF D xs)=(some G,true,some (cf,.ex (.func (.func k) #[] cap.toArray)),some (cs,vs))) (r:aF G->aF cf) (x:uF G cs)
  (y:aF G-> ∀c,ZT w c->Gives P k (vs++cap).toArray c λu b=>ZT c b/\φ u b)
  (next:DN P N ds ops w sx sy bt Fin rest (bE D d G (.pr φ))):DN P N ds ops w sx sy bt Fin (⟨d,.call ⟨.value f,xs.toArray,ts⟩,ty,pos,af,gu⟩::rest) D:=by
 simp only [Prod.mk.injEq] at h;refine ⟨G,.pr φ,⟨h.1,h.2.1,rfl,hm,rfl,λs m=>by simp at m,λe a c n _ g=> .inr ⟨_,_,lK he (g.eval h.2.2.1 ZP (r e)) (jm g e (λt p=>bB (by simp [Op.operands,Call.operands,p])) h.2.2.2 x),(y e c n).mono λv b ⟨i,q⟩=>⟨.of_below i,⟨λ_=>i,λh=>(by cases h)⟩,q,λ_ h=>h.elim⟩⟩⟩,next⟩
theorem DN.move {φ:Value->World->Prop} (hm: ∀v b c,StepN w bt b c->φ v b->φ v c) (h:(fD ops D gu,aC N d,dev D x)=(some G,true,some (cx,.pr φ))) (j:aF G->aF cx)
  (next:DN P N ds ops w sx sy bt Fin rest (bE D d G (.pr φ))):DN P N ds ops w sx sy bt Fin (⟨d,.move x,ty,pos,af,gu⟩::rest) D:=by
 simp only [Prod.mk.injEq] at h;exact DN.gen (e:= .pr φ) rfl h.1 h.2.1 rfl hm (λf a g _ i=>⟨_,g,by simp [execOp],ZA,i.evalP h.2.2 ZQ (j f)⟩) next
theorem DN.assign {φ:Value->World->Prop} (hm: ∀v b c,StepN w bt b c->φ v b->φ v c) (h:(fD ops D gu,aC N d,dev D x)=(some G,true,some (cx,.pr φ))) (j:aF G->aF cx)
  (next:DN P N ds ops w sx sy bt Fin rest (bE D d G (.pr φ))):DN P N ds ops w sx sy bt Fin (⟨d,.assign x,ty,pos,af,gu⟩::rest) D:=by
 simp only [Prod.mk.injEq] at h;exact DN.gen (e:= .pr φ) rfl h.1 h.2.1 rfl hm (λf a g _ i=>⟨_,g,by simp [execOp],ZA,i.evalP h.2.2 ZQ (j f)⟩) next
theorem DN.extract {φ:Value->World->Prop} {i:Nat} (ψ:Value->World->Prop) (hm: ∀v c f,StepN w bt c f->ψ v c->ψ v f) (h:(fD ops D gu,aC N d,dev D x)=(some G,true,some (cx,.pr φ))) (p:aF G->aF cx)
  (q: ∀u w,φ u w-> ∃b v,u= .tuple b/\b[i]?=some v/\ψ v w)
  (next:DN P N ds ops w sx sy bt Fin rest (bE D d G (.pr ψ))):DN P N ds ops w sx sy bt Fin (⟨d,.extract x i,ty,pos,af,gu⟩::rest) D:=by
 simp only [Prod.mk.injEq] at h;refine DN.gen (e:= .pr ψ) rfl h.1 h.2.1 rfl hm (λg a j _ k=> ?_) next
 obtain ⟨b,v,l,m,n⟩:=q _ _ (k.evalP h.2.2 ZQ (p g));exact ⟨v,j,uA m l,ZA,n⟩
def QQ (w0:World) (bt:TypeId) (n:Nat) (v:Value) (w:World):Prop:= ∃g cs,v= .pointer (some ⟨g,0,none⟩)/\w0.heap.size<=g/\Blk w g bt cs/\cs.length=n
theorem DN.alloc {cs:List Value} (f:zeroCells P bt=some cs) (t:aC N d=true)
  (next:DN P N ds ops w sx sy bt Fin rest (bE D d none (.pr (QQ w bt cs.length)))):DN P N ds ops w sx sy bt Fin (⟨d,.alloc bt,ty,pos,af,none⟩::rest) D:=by
 refine DN.gen (e:= .pr (QQ w bt cs.length)) rfl rfl t rfl (λv u x l ⟨g,j,m,n,o,p⟩=> ?_) (λy a c q z=> ?_) next
 .obtain ⟨k,r,s⟩:=l.ty g j o;exact ⟨g,k,m,n,r,s.trans p⟩
 .refine ⟨.pointer (some ⟨c.heap.size,0,none⟩),c.alloc (.cells cs.toArray bt),?_,ii c _,c.heap.size,cs,rfl,q.size,Blk.new c bt cs,rfl⟩;unfold zeroCells at f
  cases h:P.info? bt with
  | none=>simp [h] at f
  | some i =>
   cases b:i.zero with
   | none=>simp [h,b] at f
   | some A =>
    simp [h,b] at f;simp [execOp,Instr.alloc,zeroValue,typeInfo,h,b,Go.newVar,newRow,<-f]
theorem DN.store {t:TypeId} {n:Nat} [Sz P t n] {ψ:Value->World->Prop} (u:(bR D sx,bR D sy)=(some (none,.pr (QQ w bt n)),some (none,.pr ψ))) (G: ∀v w,ψ v w-> ∃b:List Value,v= .agg b.toArray/\b.length=n/\b.all (·.oneCell')=true)
  (next:DN P N ds ops w sx sy bt Fin rest D):DN P N ds ops w sx sy bt Fin (⟨none,.store t (.tmp sx) (.tmp sy),ty,pos,af,none⟩::rest) D:=by
 simp only [Prod.mk.injEq] at u;refine ⟨none,.pr λ_ _=>True,⟨rfl,rfl,rfl,λ_ _ _ _ _=>trivial,rfl,λs C=>by simp at C,λH a d I _ x=> .inl ?_⟩,next⟩;obtain ⟨g,f,y,m,j,E⟩:QQ w bt n (a.tmps.getD sx undef) d:=(x.slots sx (bB ZQ) none _ u.1).1 trivial;obtain ⟨b,z,A,F⟩:=G _ _ ((x.slots sy (bB ZQ) none _ u.2).1 trivial);have l:=setRow_heap d g f.toArray b.toArray bt (0,0) j;refine ⟨undef,d.setRow g b.toArray,.inr ⟨rfl,?_⟩,⟨rfl,rfl,rfl,ZM,λk c p=> ?_,λk r c=> ?_⟩,⟨λh=>(by cases h),λ_=>⟨g,b,y,m,z,l⟩⟩,trivial,λ_ h=>h.elim⟩
 .simp only [execOp];have B: ∀i,a.eval (.tmp i)=a.tmps.getD i undef:=λ_=>rfl;rw [B,B,y,z];have h:=run_storeVar_row (P:=P) d g bt t f.toArray b.toArray j (by rw [Sz.q]; simp [A]) (by simp [A,E]) (by simpa using F);simp [Instr.storeAt,Instr.sureAddr,h]
 .have:g≠k:=λe=>by
   subst e;rcases p with h|h
   .omega
   .exact h ⟨_,j⟩
  simp [World.setRow,Array.getElem?_modify,this]
 .rcases Nat.decEq g k with h|h
  .exact ⟨r,by unfold Blk at c ⊢; simp [World.setRow,Array.getElem?_modify,h]; exact c,rfl⟩
  .subst h;refine ⟨b,l,?_⟩;unfold Blk at j c;rw [j] at c;cases c
   simp_all
theorem DN.fin {K:Act->World->Prop} (is:List Nat) {E:Env} {ψ:Value->World->Prop} (p:bR D sy=some (none,.pr ψ)) (hp:lH D is=some E)
  (h: ∀b g d,ZT w b->w.heap.size<=g->Blk b g bt d->ψ (.agg d.toArray) b->KW N ds K ((sx,none,.pointer (some ⟨g,0,none⟩))::E) b): ∀a b g d,ZT w b->a.tmps.getD sx undef= .pointer (some ⟨g,0,none⟩)->w.heap.size<=g->a.tmps.getD sy undef= .agg (List.toArray d)->Blk b g bt d->FitD N ds D a b->K a b:=λa b g d l m j n o i=>by
 have e:=(i.slots sy none _ p).1 trivial;rw [n] at e;refine h b g d l j o e a ⟨i.size,i.defers,λk c v f=> ?_⟩;simp only [look] at f
 cases e:Nat.beq sx k with
 | true =>
  rw [e] at f;cases f;rw [<-Nat.eq_of_beq_eq_true e]
  exact ⟨λ_=>m,λh=>absurd trivial h⟩
 | false =>
  rw [e] at f;exact (i.pick hp).slots k c v f
end
end
end Go.PF
namespace Go.Proofs.YtoleahhfkpkcjaaGreatDoor
open Go.Proofs.Tryz
open Go.PF Go.RowKit Go.Ord
attribute [local irreducible] TW CW KW DW
theorem Sk (h: ∀q∈ps,rcT.rep I w q.1 q.2): ∀u∈ps.flatMap (·.1),u.oneCell'=true:=λu a=>by
 obtain ⟨q,b,a⟩:=List.mem_flatMap.1 a;obtain ⟨v,e,_,_,_,_,_,c⟩:=h q b;rw [e] at a;obtain ⟨Z,d,rfl,_⟩:=c.form;simp at a;rcases a with rfl|rfl|rfl|rfl|rfl|rfl<;>rfl
theorem Ff {v:Value} {l:List Rc} (hl:SL rcT F w v l) (H:RcOK F w u x) (hs:mK l) (ak:l.length<=1000) (hF: ∀k,F k->k<w.heap.size) :
  Gives prog 59 #[v,.agg (iq x u).toArray] w λy R=>ZT w R/\SL rcT (λk=>F k\/w.heap.size<=k/\k<R.heap.size/\TyB R k 57) R y (eY l x):=by
 obtain ⟨A,a0,rfl,_⟩:=hl.form;obtain ⟨X,r,rfl,_⟩:=H.ct.form;refine gw func59 ntmps59 ?_;refine nw rfl λg3 S U=> ?_;refine OQ (λk:Nat=> [(0,none,.slice A l.length a0),(3,none,.pointer (some ⟨g3,0,none⟩)),(5,none,ZU (k:Int))]) (λk W=>ZT S W/\k<=l.length/\lT l x=k) (λK=> ?_) λk W ⟨s,Y,I⟩=> ?_;rotate_left 1
 .have a:=(j6 l x).found hs;rw [I] at a;refine fQ ?_;refine Bz [(0,none,.slice A l.length a0),(3,none,.pointer (some ⟨g3,0,none⟩)),(5,none,ZU (k:Int))] (λW'=>ZT S W'/\x ∉ l) (λK=> ?_) λW' ⟨a5,a6⟩=> ?_
  .by_cases n:k<l.length
   .have N:l[k]?=some l[k]:=ZD n;obtain ⟨ad,rfl⟩:=hl.addr ZJ;obtain ⟨zv,a7,t⟩:=SR.get (hl.below (U.below.step s)) N;obtain ⟨Z,a1,rfl,_⟩:=t.ct.form;refine rn ?_;refine dx ?_;refine dc (cap:= []) ZK rfl (λ_ R hb=>lX (t.below hb) (H.below ((U.below.step s).step hb))) ?_;refine dz λw4 G=> ?_;refine aI (p:=mI l[k] x=0) (by rw [decide_eq_true (ZJ:(k:Int)<(l.length:Int)),Bool.true_and]; rfl) (λhe=> ?_) λa8=> ?_
    .have B:x∈l:=a.2 (by rw [N,cmpR_eq.1 he]);refine rn ?_;refine aO rfl ⟨bK,?_⟩;unfold eY;rw [if_pos B];exact ((hl.below (U.below.step s)).below G).wider λk Y=> .inl Y
    .refine oh ?_;refine aL ?_;exact dC [0,3,5] rfl (K _ ⟨s.step G,λB=>a8 (cmpR_eq.2 (by have:=a.1 B; rw [N] at this; simpa using this))⟩)
   .have hd:decide ((k:Int)<(l.length:Int))=false:=decide_eq_false ZJ;have hG: ¬aF (some (decide ((k:Int)<(l.length:Int)))):=by rw [hd]; simp [aF]
    refine rn ?_;refine dx ?_;refine dz λw4 G=> ?_;refine aK (b:=false) (by rw [hd]; rfl) (λh=>by cases h) λ_=> ?_;refine oh ?_;refine aL ?_;exact dC [0,3,5] rfl (K _ ⟨s.step G,λB=>n (ZE (a.1 B)).1⟩)
  obtain ⟨E,a2,C,a3,d⟩:=SL.flat ZL hl;have a9: ∀q∈E,q.1.length=6:=λq D=>rcT.len _ _ _ _ (C q D);refine rn ?_;refine x8 mixed ZK ?_;refine lQ 57 rfl rfl Gf ?_;refine rd ?_;have aa:(E.flatMap (·.1)).length=l.length*6:=a3;have J:=Sk C;have o:Wp (ZT w W'):=⟨U.below.step a5⟩;refine jW (m:=k) ((E.flatMap (·.1)).take (k*6)) rfl rfl Dk rfl rfl rfl ct (λj u O=> ?_) (by rw [List.length_take]; omega) (λu hu=>J u (List.mem_of_mem_take hu)) ZJ ZJ ?_
  .rw [List.getElem?_take_of_lt (by have:=(ZE O).1; simp at this; omega)] at O;obtain ⟨ad,e,h⟩:=d j u O;exact ⟨ad,e,Rb h o.q⟩
  refine rd ?_;refine iN 57 [.tmp 40] rfl rfl rfl Gf (cO rfl ct dR) rfl rfl rfl rfl rfl ?_;refine nY (iq x (.slice X x.cont.length r)) rfl rfl Dk rfl rfl rfl ct (λu hu=> ?_) ZJ ZJ rfl ?_
  .simp [iq] at hu;rcases hu with rfl|rfl|rfl|rfl|rfl|rfl<;>rfl
  refine rd ?_;refine jW (m:=l.length-k) ((E.flatMap (·.1)).drop (k*6)) rfl rfl Dk rfl rfl rfl ct (λj u O=> ?_) (by rw [List.length_drop]; omega) (λu hu=>J u (List.mem_of_mem_drop hu)) ZJ ZJ ?_
  .rw [List.getElem?_drop] at O;obtain ⟨ad,rfl,h⟩:=d _ u O;have ah:=(ZE O).1;have af:=hl.len.1;refine ⟨ad.add (k*6),?_,by rw [Addr.add_add]; exact Rb h o.q⟩;rw [show ((k:Int)).toNat=k from rfl,if_neg ZJ];rfl
  refine uD rfl rfl rfl ct (gX _ _ _ _ _) rfl ?_;refine gJ (vX [3] _ rfl [4] rfl λvs w9 b9 ab=> ?_);obtain ⟨y,rfl,hO,hn⟩:=Sats.one ab;have ai:=o.q.size;have ag:=b9.size;have aj:E.length=l.length:=by rw [<-a2,List.length_map]
  obtain ⟨f1,f2⟩:=qY a9 k;have e1:(E.take k++(iq x (.slice X x.cont.length r),x)::E.drop k).length=0+k+1+(l.length-k):=by
   rw [List.length_append,List.length_cons,List.length_take,List.length_drop]; omega
  rw [List.nil_append,f1,f2,<-e1] at hO;refine rn ?_;refine aO rfl ⟨o.q.step b9,?_⟩;have a4:=eB (T:=rcT) (F:=λj=>F j\/w.heap.size<=j/\j<w9.heap.size/\TyB w9 j 57) (E.take k++(iq x (.slice X x.cont.length r),x)::E.drop k) (λq D=> ?_) ZL (by rw [List.flatMap_append,List.flatMap_cons,<-List.append_assoc]; exact hO) rfl (λg hg=> .inr ⟨by have:=hn g hg; omega,hO.lt hg,hO.ty hg⟩) ZJ
  .rw [List.map_append,List.map_cons,List.map_take,List.map_drop,a2] at a4;unfold eY;rw [if_neg a6,I];exact a4
  have L: ∀q∈E,rcT.rep (λj=>F j\/w.heap.size<=j/\j<w9.heap.size/\TyB w9 j 57) w9 q.1 q.2:=λq D=>rcT.wider _ _ _ _ _ (λ_ h=> .inl h) (rcT.mono _ _ _ _ _ (Kept.of_below (o.q.step b9)) (C q D));rcases ZH D with D|D
  .exact L q (List.mem_of_mem_take D)
  .rcases List.mem_cons.1 D with rfl|D
   .exact ⟨_,rfl,H.i1,H.i2,H.i3,H.i4,H.lb,(H.ct.below (o.q.step b9)).wider λ_ h=> .inl h⟩
   .exact L q (List.mem_of_mem_drop D)
 refine dA [0,3] (λk:Nat=> [(5,none,ZU (k:Int))]) (λk W=>k<=l.length/\ZT S W/\ ∀i z,i<k->l[i]?=some z->wT z x) (λk=>l.length-k) 0 ⟨ZB,ZA,λi z h=>ZJ⟩ ?_;rintro k W ⟨Y,s,hJ⟩;have M:(∀z,l[k]?=some z-> ¬wT z x)->lT l x=k:=λh=>(j6 l x).uniq ⟨Y,hJ,h⟩;by_cases n:k<l.length
 .have N:l[k]?=some l[k]:=ZD n;obtain ⟨ad,rfl⟩:=hl.addr ZJ;obtain ⟨zv,a7,t⟩:=SR.get (hl.below (U.below.step s)) N;obtain ⟨Z,a1,rfl,_⟩:=t.ct.form;refine rn ?_;refine dx ?_;refine dc (cap:= []) ZK rfl (λ_ R hb=>lX (t.below hb) (H.below ((U.below.step s).step hb))) ?_;refine dz λw4 G=> ?_;refine aI (p:=mI l[k] x<0) (by rw [decide_eq_true (ZJ:(k:Int)<(l.length:Int)),Bool.true_and]; rfl) (λac=> ?_) λae=> ?_
  .refine rn ?_;refine cK (k+1) ⟨n,s.step G,λi z hi c=> ?_⟩;rcases ZI i k with q|q
   .exact hJ i z q c
   .obtain rfl:i=k:=ZJ;rw [N] at c;cases c;exact ac
  .refine qj ?_;refine iO ?_;refine iO ?_;refine kV ?_;refine aL ?_;exact dC [0,3,5] rfl (K k _ ⟨s.step G,Y,M λz c=>by rw [N] at c; cases c; exact ae⟩)
 .have hd:decide ((k:Int)<(l.length:Int))=false:=decide_eq_false ZJ;have hG: ¬aF (some (decide ((k:Int)<(l.length:Int)))):=by rw [hd]; simp [aF]
  refine rn ?_;refine dx ?_;refine dz λw4 G=> ?_;refine aK (b:=false) (by rw [hd]; rfl) (λh=>by cases h) λ_=> ?_;refine qj ?_;refine iO ?_;refine iO ?_;refine kV ?_;refine aL ?_;exact dC [0,3,5] rfl (K k _ ⟨s.step G,Y,M λz c=>absurd (ZE c).1 n⟩)
theorem BZ {v:Value} {a b:List Rc} (l:SL rcT F w u a) (hb:SL rcT G w v b):Gives prog 22 #[u,v] w λx n=>ZT w n/\x= .bool (dec (a=b)):=by
 obtain ⟨A,o,rfl,_⟩:=l.form;obtain ⟨B,p,rfl,_⟩:=hb.form;have D:=l.len.2.2;refine gw func22 ntmps22 ?_;refine cd rfl (λc=> ?_) λd=> ?_
 .exact aO rfl ⟨bK,by rw [aH λe=>c (by rw [e])]⟩
 refine UR [0,1] 5 a.length (λi _=> ∀j,j<i->a[j]?=b[j]?) (λj h=>ZJ) ?_;intro i W M r s;refine cd rfl (λE=> ?_) λH=> ?_
 .have m:i<a.length:=ZJ;obtain ⟨N,rfl⟩:=l.addr ZJ;obtain ⟨O,rfl⟩:=hb.addr ZJ;have t:=ZD m;have y:b[i]?=some b[i]:=ZD ZJ;obtain ⟨R,I,g⟩:=SR.get (l.below r) t;obtain ⟨S,J,k⟩:=SR.get (hb.below r) y;refine dx ?_;refine dc ZK rfl (λ_ n hb=>lX (g.below hb) (k.below hb)) ?_;refine dz λU Z=> ?_;refine cd rfl (λc=> ?_) λd=> ?_
  .exact aO rfl ⟨bK,by rw [aH λe=>c (cmpR_eq.2 (by subst e; rfl))]⟩
  have K: ∀j,j<i+1->a[j]?=b[j]?:=λj hj=>by
   rcases ZI j i with q|q
   .exact s j q
   .rw [show j=i by omega,t,y,cmpR_eq.1 (Classical.byContradiction d)]
  exact ou K
 exact aO rfl ⟨bK,by rw [aD (List.ext_getElem? λj=>by
  rcases ZI j a.length with q|q
  .exact s j ZJ
  .rw [List.getElem?_eq_none q,List.getElem?_eq_none ZJ])]⟩
theorem VJ:Gives prog 311 #[.int .u8 (b:Int)] w λu a=>ZT w a/\u= .bool (decide (65<=b/\b<=90)):=by
 refine gv func311 ntmps311 ?_;refine aB ?_;refine aO rfl ⟨ZA,?_⟩;by_cases c:65<=b<;>by_cases d:b<=90<;>simp [c,d]<;>omega
theorem B6 (hs:s.size<=9223372036854775807):Gives prog 273 #[.string s] w λu o=>ZT w o/\u= .bool (dec (gK s)):=by
 refine gv func273 ntmps273 ?_;refine aB ?_;refine bT (λk:Nat=> [(0,none,.string s),(3,none,ZU (k:Int))])
  (λk W=>k<=s.size/\ZT w W/\ ∀i,i<k->okB (gP s i)) (λk=>s.size-k) 0 [0,3] ⟨ZB,ZA,λi q=>ZJ⟩ rfl ?_
 rintro k W ⟨v,g,b⟩;refine aB ?_;refine aI rfl (λr=> ?_) (λt=> ?_)
 .have j:k<s.size:=ZJ;refine aB ?_;have c:(((s.data.getD (k:Int).toNat 0).toNat:Nat))=gP s k:=rfl;rw [c];refine aN rfl (VJ) ?_;rintro x y ⟨d,rfl⟩;refine aB ?_;refine dC [0,3,32] rfl ?_;rw [c];refine aK rfl (λe=> ?_) (λa=> ?_)
  .refine aB ?_;refine aO rfl ⟨g.step d,?_⟩;rw [aH λh=> ?_];have l:=h.2.2 k j;unfold okB at l;simp at e;omega
  .have l:okB (gP s k):=by
    unfold okB;simp at a;omega
   refine aB ?_;refine bH (k+1) [0,3] rfl ⟨ZJ,g.step d,λi q=> ?_⟩ ZJ;rcases ZI i k with h|h
   .exact b i h
   .have:i=k:=ZJ;subst this;exact l
 .have m:k=s.size:=ZJ;subst m;refine aB ?_;refine aO rfl ⟨g,?_⟩;by_cases h:1<=s.size/\s.size<=20
  .rw [aD (p:=gK s) ⟨h.1,h.2,b⟩];simp;omega
  .rw [aH (p:=gK s) λn=>h ⟨n.1,n.2.1⟩];simp;omega
theorem EZ {s:Sc}:Gives prog 188 #[.agg [Value.int .i64 s.op,ZU s.off,ZU s.err].toArray] w λu c=>ZT w c/\u= .bool (dec (ScOK s)):=by
 refine gv func188 ntmps188 ?_;refine aB ?_;refine bS rfl rfl rfl rfl ?_;rintro j k a;refine aB ?_;refine aG rfl (a.blk.fld rfl) ?_;refine aB ?_;refine aG rfl (a.blk.fld rfl) ?_;refine aB ?_;refine aG rfl (a.blk.fld rfl) ?_;refine aB ?_;refine aG rfl (a.blk.fld rfl) ?_;refine aB ?_;refine aO rfl ⟨a.below,?_⟩;by_cases b:ScOK s
 .rw [aD b];obtain ⟨d,e,g,i⟩:=b;simp [d,e,g,i]
 .rw [aH b,Value.bool.injEq,Bool.eq_false_iff];intro h;simp at h;exact b ⟨ZJ,ZJ,ZJ,ZJ⟩
theorem Cn {v:Value} {r:Rc} (h:RcOK F w v r) :
  Gives prog 187 #[.agg (iq r v).toArray] w (ZS w (.bool (dec (Comp r)))):=by
 have q:=h.ct;obtain ⟨A,ae,rfl,_⟩:=q.form;have aa:=q.len.2.2;refine gv func187 ntmps187 ?_;refine aB ?_;refine bS rfl rfl rfl rfl ?_;rintro g1 w1 s;refine aB ?_;refine aG rfl (s.blk.fld rfl) ?_;refine aB ?_;refine aG rfl (s.blk.fld rfl) ?_;refine aB ?_;refine aG rfl (s.blk.fld rfl) ?_;refine aB ?_;refine aG rfl (s.blk.fld rfl) ?_;refine aB ?_;refine aG rfl (s.blk.fld rfl) ?_;refine aB ?_;refine aG rfl (s.blk.fld rfl) ?_;refine aB ?_;refine aG rfl (s.blk.fld rfl) ?_;refine il (cap:= []) rfl rfl Vi rfl ct (aA rfl id aJ) (λ_=>B6 h.lb) ?_;rintro w2 b2;refine aB ?_;refine dC [0,1,2,38] rfl ?_;have I:=s.blk.next b2;have d:=s.below.step b2;have K:=q.below d;refine aK rfl (λt=> ?_) (λg=> ?_)
 .refine aB ?_;refine aO rfl ⟨d,?_⟩;rw [aH λb=> ?_];have h1:=b.lab;have:=b.s1; have:=b.s2; have:=b.n1; have:=b.n2; have:=b.t1; have:=b.t2;rw [aD h1] at t;simp at t;omega
 have hq:(0<=r.scn/\r.scn<=1000000)/\(0<=r.num/\r.num<=1000000)/\(0<=r.time/\r.time<=1000000)/\gK r.label:=by
  by_cases hl:gK r.label
  .rw [aD hl] at g;simp at g;exact ⟨ZJ,ZJ,ZJ,hl⟩
  .rw [aH hl] at g;simp at g
 obtain ⟨⟨s1,s2⟩,⟨n1,n2⟩,⟨t1,t2⟩,z⟩:=hq;refine aB ?_;refine aG rfl (I.fld rfl) ?_;refine aB ?_;refine aI rfl (λm=> ?_) (λm=> ?_)
 .refine aB ?_;refine aG rfl (I.fld rfl) ?_;refine aB ?_;refine aO rfl ⟨d,?_⟩;by_cases h0:r.cont= []
  .rw [aD ⟨s1,s2,n1,n2,t1,t2,z,.inl ⟨m,h0⟩⟩];simp [h0]
  .rw [aH λb=> ?_]
   .simp [h0]
   .rcases b.kinds with ⟨_,h⟩|⟨h,_⟩
    .exact h0 h
    .omega
 .refine aB ?_;refine aG rfl (I.fld rfl) ?_;refine aB ?_;refine aG rfl (I.fld rfl) ?_;refine aB ?_;refine dC [0,1,2,54] rfl ?_;refine aK rfl (λa1=> ?_) (λL=> ?_)
  .refine aB ?_;refine aO rfl ⟨d,?_⟩;rw [aH λb=> ?_];rcases b.kinds with ⟨h,_⟩|⟨h1,h2,_⟩
   .exact m h
   .simp at a1;omega
  have M:r.kind=2/\r.cont.length<=40:=by
   simp at L;omega
  refine aB ?_;refine bT (λi:Nat=> [(1,none,.pointer (some ⟨g1,0,none⟩)),(3,none,ZU (i:Int))])
   (λi W=>i<=r.cont.length/\ZT w2 W/\(∀c∈r.cont.take i,gK c/\c≠r.label)/\(r.cont.take i).Nodup) (λi=>r.cont.length-i) 0 [1,3] ⟨ZB,ZA,λc b=>(by simp at b),ZM⟩ rfl ?_
  rintro i W ⟨hi,hB,n,E⟩;have N:=I.next hB;have O:=d.step hB;have G:=K.below hB;refine aB ?_;refine aG rfl (N.fld rfl) ?_;refine aB ?_;refine aI rfl (λaf=> ?_) (λag=> ?_)
  .obtain ⟨x,R,S⟩:=eP (l:=r.cont) (k:=i) ZJ;obtain ⟨ad,rfl⟩:=G.addr ZJ;have U:=G.getT R;refine aB ?_;refine gV mixed ZK ?_;refine jE ?_;refine dF rfl (N.fld rfl) ?_;refine jE ?_;refine dF rfl U ?_;refine xW (.ex (.bool (dec (gK x)))) trivial rfl (λ_ w' ah=>(B6 (q.sizeT x S)).mono λu ai h=>h) ?_;refine jE ?_;refine dF rfl (N.fld rfl) ?_;refine jE ?_;refine dF rfl U ?_;refine jE ?_;refine dF rfl (N.fld rfl) ?_;refine jE ?_;refine qG [1,3,78] rfl λw3 b3=> ?_;refine aL ?_;have a2:=hB.step b3;have f3:=N.next b3;have aj:=G.below b3;have a3:=O.step b3;refine aK rfl (λB=> ?_) (λj=> ?_)
   .refine aB ?_;refine aO rfl ⟨a3,?_⟩;rw [aH λb=> ?_];rcases b.kinds with ⟨h,_⟩|⟨_,_,h3,_⟩
    .exact m h
    .obtain ⟨J,h5⟩:=h3 x S;rw [aD J,xC,decide_eq_false h5] at B;simp at B
   have a4:gK x/\x≠r.label:=by
    by_cases J:gK x
    .refine ⟨J,λh5=> ?_⟩;rw [xC,decide_eq_true h5] at j;simp at j
    .rw [aH J] at j;simp at j
   refine aB ?_;refine bT (λk:Nat=> [(1,none,.pointer (some ⟨g1,0,none⟩)),(3,none,ZU (i:Int)),(4,none,ZU (k:Int))])
    (λk W'=>k<=i/\ZT w2 W'/\x ∉ r.cont.take k) (λk=>i-k) 0 [1,3,4] ⟨ZB,a2,ZM⟩ rfl ?_
   rintro k W' ⟨hk,o,C⟩;have Y:=I.next o;have D:=K.below o;refine aB ?_;refine aI rfl (λab=> ?_) (λac=> ?_)
   .obtain ⟨y,hy,ak⟩:=eP (l:=r.cont) (k:=k) ZJ;refine aB ?_;refine gV mixed ZK ?_;refine jE ?_;refine dF rfl (Y.fld rfl) ?_;refine jE ?_;refine dF rfl (D.getT hy) ?_;refine jE ?_;refine dF rfl (Y.fld rfl) ?_;refine jE ?_;refine dF rfl (D.getT R) ?_;refine jE ?_;refine qG [1,3,4,94] rfl λw4 b4=> ?_;refine aL ?_;refine aK rfl (λZ=> ?_) (λa0=> ?_)
    .have H:y=x:=by rw [xC] at Z; exact of_decide_eq_true Z
     refine aB ?_;refine aO rfl ⟨(d.step o).step b4,?_⟩;rw [aH λb=> ?_];rcases b.kinds with ⟨h,_⟩|⟨_,_,_,J⟩
     .exact m h
     .obtain ⟨a5,a6⟩:=ZE R;obtain ⟨a7,a8⟩:=ZE hy;have:=List.pairwise_iff_getElem.1 (List.nodup_iff_pairwise_ne.1 J) k i a7 a5 ZJ;exact this (by rw [a6,a8,H])
    .have H: ¬y=x:=by rw [xC] at a0; exact of_decide_eq_false a0
     refine aB ?_;refine bH (k+1) [1,3,4] rfl ⟨ZJ,o.step b4,?_⟩ ZJ;rw [ZG,hy];simp;exact ⟨C,λe=>H e.symm⟩
   .have a9:k=i:=ZJ;subst a9;refine aB ?_;refine bH (k+1) [1,3] rfl ⟨ZJ,o,λc b=> ?_,?_⟩ ZJ
    .rw [ZG,R] at b;rcases ZH b with h|h
     .exact n c h
     .simp at h;subst h;exact a4
    .rw [ZG,R];refine List.nodup_append.2 ⟨E,ZM,λa ha c b e=> ?_⟩;simp at b;subst b;subst e;exact C ha
  .refine aB ?_;refine aO rfl ⟨O,?_⟩;rw [show i=r.cont.length by omega,List.take_length] at n E;rw [aD (p:=Comp r) ⟨s1,s2,n1,n2,t1,t2,z,.inr ⟨M.1,M.2,n,E⟩⟩]
section
open Go.Sort
theorem wE {v:Value} {r:Rc} (hl:SL yh G w u l) (h:RcOK F w v r) :
  Gives prog 114 #[u,.agg (iq r v).toArray] w λx L=>ZT w L/\x= .bool (dec (Val l r)):=by
 have t:=h.ct;obtain ⟨A,M,N,_⟩:=t.form;subst N;obtain ⟨B,I,O,_⟩:=hl.form;subst O;have J:=hl.len.2.2;refine gv func114 ntmps114 ?_;refine aB ?_;refine bS rfl rfl rfl rfl ?_;rintro Y Z o;refine aB ?_;refine fP rfl (λ_ _ g=>o.blk.fld g) ?_;refine il (cap:= []) rfl rfl Vu rfl ct (aA rfl id aJ) (λ_=>Cn (h.below o.below)) ?_;rintro w2 K;refine aB ?_;have y:=o.blk.next K;have c:=o.below.step K;have i:=hl.below c;by_cases z:l.length<=24/\Comp r/\r.scn<l.length
 .obtain ⟨j,C,R⟩:=z;have S:=C.s1;obtain ⟨s,m,U⟩:=eP (l:=l) (k:=r.scn.toNat) ZJ;obtain ⟨ad,rfl⟩:=i.addr ZJ;obtain ⟨b,i1,i2,i3⟩:=SS.get i m;have W:((r.scn.toNat:Nat):Int)=r.scn:=ZJ;rw [W] at b;have d:decide ((l.length:Int)<=24)=true:=ZO;have e:decide (r.scn<(l.length:Int))=true:=ZO;have e3:(l.length:Int)<=24:=ZJ;rw [aD C];refine aP rfl (by simp only [aF,d,e,Bool.and_true]) ?_;refine aG rfl (y.fld rfl) ?_;refine aP rfl (by simp only [aF,d,e,Bool.and_true]) ?_;refine aM bX rfl ⟨ct,trivial⟩ (λ_=>trivial) ?_;refine aP rfl (by simp only [aF,d,e,Bool.and_true]) ?_;refine aM V.lenSlice rfl ⟨ct,trivial⟩ (λ_=>trivial) ?_;refine aP rfl (by simp only [aF,d,e,Bool.and_true]) ?_;refine aM ve rfl ⟨ct,ct,trivial⟩ (λ_=>trivial) ?_;refine jS rfl rfl rfl ct rfl pT ?_;refine aM bX rfl ⟨ct,trivial⟩ (λ_=>trivial) ?_;refine aP rfl (by simp only [aF,d,e,Bool.and_true]) ?_;refine aM bX rfl ⟨ct,trivial⟩ (λ_=>trivial) ?_;refine aP rfl (by simp only [aF,d,e,Bool.and_true]) ?_;refine aB ?_;refine aP rfl (by simp only [aF,d,e,Bool.and_true]) ?_;refine aG rfl (y.fld rfl) ?_;refine aP rfl (by simp only [aF,d,e,Bool.and_true]) ?_;refine aB ?_;refine aP rfl (by simp only [aF,d,e,Bool.and_true]) ?_;refine fP rfl (b) ?_
  refine aP rfl (by simp only [aF,d,e,Bool.and_true]) ?_;refine aN rfl (EZ) ?_;rintro y3 w3 ⟨D,rfl⟩;refine aB ?_;refine aO rfl ⟨c.step D,?_⟩;by_cases q:ScOK s
  .rw [aD q,aD (p:=Val l r) ⟨j,C,s,m,q⟩,d,e];rfl
  .rw [aH q,aH (p:=Val l r) λg=>q ?_]
   .simp
   .obtain ⟨s',n,E⟩:=g.scan;rw [m] at n;cases n;exact E
 .have H: ¬Val l r:=λg=>z ⟨g.few,g.comp,by
   obtain ⟨s,m,_⟩:=g.scan;have:=(ZE m).1;have:=g.comp.s1;omega⟩
  have a:(decide ((l.length:Int)<=24)&&dec (Comp r)&&decide (r.scn<(l.length:Int)))=false:=by
   rw [Bool.eq_false_iff];intro h;simp at h;exact z ⟨ZJ,dec_iff.1 h.1.2,ZJ⟩
  refine aG rfl (y.fld rfl) ?_;refine aM bX rfl ⟨ct,trivial⟩ (λ_=>trivial) ?_;refine aM V.lenSlice rfl ⟨id,trivial⟩ (λ_=>trivial) ?_;refine aM ve rfl ⟨id,id,trivial⟩ (λ_=>trivial) ?_;refine jS rfl rfl rfl ct rfl qA ?_;refine aM bX rfl ⟨ct,trivial⟩ (λ_=>trivial) ?_;refine bJ (.bool false) rfl (by simp only [aF]; rw [a]; simp) rfl ?_;refine bJ (.bool false) rfl (by simp only [aF]; rw [a]; simp) rfl ?_;refine bJ (.bool false) rfl (by simp only [aF]; rw [a]; simp) rfl ?_;refine bJ (.bool false) rfl (by simp only [aF]; rw [a]; simp) rfl ?_;refine bJ (.bool false) rfl (by simp only [aF]; rw [a]; simp) rfl ?_;refine bJ (.bool false) rfl (by simp only [aF]; rw [a]; simp) rfl ?_;refine aB ?_;refine aO rfl ⟨c,?_⟩;rw [aH H,Bool.and_false]
end
theorem Cm:Gives prog 313 #[.int .u8 (b:Int)] w λu a=>ZT w a/\u= .bool (dec (yt b)):=by
 refine gw func313 ntmps313 ?_;exact rB rfl (by unfold yt; simp; omega)
theorem fG {v a b:Int}:Gives prog 317 #[ZU v,ZU a,ZU b] w λu c=>ZT w c/\u= .bool (decide (a<=v/\v<=b)):=by
 refine gw func317 ntmps317 ?_;exact aO rfl ⟨bK,ZM⟩
theorem Iq (s:ByteArray) (k:Nat):(s.data.getD ((k:Nat):Int).toNat 0).toNat=gH s k:=by rw [Int.toNat_natCast]; rfl
theorem Rw (s:ByteArray):(s.data.getD (Int.toNat 0) 0).toNat=gH s 0:=rfl
theorem PK:Gives prog 332 #[.string s] w λu g=>ZT w g/\u= .bool (dec (CodeOK s)):=by
 refine gw func332 ntmps332 ?_;refine iG rfl (λc=> ?_) λd=> ?_
 .exact rF λh=>by have:=h.n1; have:=h.n2; simp at c; omega
 have a:1<=s.size/\s.size<=8:=by simp at d; omega
 refine BA [0] 3 s.size (Seen λi=>(65<=gH s i/\gH s i<=90)\/yt (gH s i)) Seen.zero (λi W j k e=> ?_) λW k e=> ?_
 .refine cg rfl (λ_=>Cm) λl m=> ?_;refine iG rfl (λc=> ?_) λd=> ?_
  .rw [Iq] at c;exact rF λh=>by have:=h.all i j; rcases this with h|h<;>simp [h,qF] at c; omega
  .rw [Iq] at d;exact ou (e.go (Classical.byContradiction λh=>by simp at h; simp [aH h.2] at d; omega))
 .exact rT ⟨a.1,a.2,e⟩
theorem Pw:Gives prog 331 #[] w λu a=>ZT w a/\ ∃g,u= .slice (some ⟨g,0,none⟩) 17 17/\Blk a g 9 (keys11.map Value.string):=by
 refine gw func331 ntmps331 ?_;refine bs (keys11.map Value.string) yx rfl λg c b=> ?_;exact aO rfl ⟨b.below,g,rfl,b.blk⟩
theorem R9:Gives prog 312 #[.string s] w λu p=>ZT w p/\u= .bool (dec (s∈keys11)):=by
 refine gw func312 ntmps312 ?_;refine cr rfl Pw λr t v h=> ?_;obtain ⟨g,rfl,q⟩:=h;refine BA [0,3] 4 17 (Seen λi=> ∀x,keys11[i]?=some x->s≠x) Seen.zero (λi W a m b=> ?_) λW m b=> ?_
 .obtain ⟨x,n,c⟩:=eP (l:=keys11) a;have y:W.cell? (Addr.add ⟨g,0,none⟩ ((i:Int).toNat*1))=some (.string x):=by
   rw [show (i:Int).toNat*1=i by omega];exact (q.next m).fld (by rw [List.getElem?_map,n]; rfl)
  refine rn ?_;rw [Qx];refine cd rfl (λd=> ?_) λj=> ?_
  .exact rT (d ▸ c)
  .exact ou (b.go λz o e=>by rw [n] at o; cases o; exact j e.symm)
 .exact rF λh=>by
   obtain ⟨i,a⟩:=List.mem_iff_getElem?.1 h;exact b i (ZE a).1 s a rfl
theorem Pq:Gives prog 277 #[.string s] w λu g=>ZT w g/\u= .bool (dec (NameOK keys11 s)):=by
 refine gw func277 ntmps277 ?_;refine cg rfl (λ_=>R9 (s:=s)) λm n=> ?_;refine iG rfl (λd=> ?_) λc=> ?_
 .exact rF λh=>by
   have o:=h.n1;have p:=h.n2;have j:=h.fst;rw [Rw,aH h.nokey] at d;unfold vD at j;simp at d;omega
 have a:(1<=s.size/\s.size<=16/\vD (gH s 0))/\dec (s∈keys11)=false:=by
  rw [Rw] at c;unfold vD;simp only [Bool.or_eq_false_iff,decide_eq_false_iff_not] at c;exact ⟨ZJ,c.2⟩
 refine BA [0] 3 s.size (Seen λi=>vD (gH s i)\/yt (gH s i)\/gH s i=95) Seen.zero (λi W k l e=> ?_) λW l e=> ?_
 .refine cg rfl (λ_=>Cm) λq r=> ?_;refine iG rfl (λd=> ?_) λc=> ?_
  .rw [Iq] at d;exact rF λh=>by have:=h.all i k; unfold vD at this; rcases this with h|h|h<;>simp [h,qF] at d; omega
  .rw [Iq] at c;exact ou (e.go (Classical.byContradiction λh=>by simp [not_or,vD] at h; simp [aH h.2.1] at c; omega))
 .exact rT ⟨a.1.1,a.1.2.1,a.1.2.2,e,λh=>by rw [aD h] at a; cases a.2⟩
theorem Co:T9 314:=NK (.inr rfl)
theorem Lv {v:Value} {c:Cal} (h:CalIn F w u v c):Gives prog 93 #[.agg (VL c u v).toArray] w λx a=>ZT w a/\x= .bool (decide (c.week.length<=20/\c.hol.length<=60)):=by
 have b:=h.wk;have d:=h.hol;refine gw func93 ntmps93 ?_;refine nw rfl λg e i=> ?_;exact aO rfl ⟨bK,by congr 1; rw [<-Bool.decide_and]; exact decide_eq_decide.2 ZJ⟩
def dU (N:Net) (k:Nat):List ByteArray:=if k=1 then o9 N else if k=2 then N.ops else if k=3 then N.offs.map (·.name) else if k=4 then N.lines.map (·.name) else N.classes.map (·.name)
def CZ (k:Nat):Nat:=if k=3 then 12 else if k=4 then 40 else if k=5 then 4 else 6
def Mr (N:Net) (k i:Nat):Prop:=if k=1 then∀x,N.cals[i]?=some x->CalOK x else if k=2 then True else if k=3 then∀x,N.offs[i]?=some x->OfOK N x else if k=4 then∀x,N.lines[i]?=some x->LiOK N x else∀x,N.classes[i]?=some x->ClaOK x
def Ru (N:Net) (k i:Nat):Prop:= ∀s,(dU N k)[i]?=some s->NameOK keys11 s/\s ∉ (dU N k).take i/\Mr N k i
def ng (N:Net) (k:Nat):Prop:=(dU N k).length<=CZ k/\ ∀j,j<min (dU N k).length (CZ k)->Ru N k j
theorem Nt {α:Type} {l:List α} {G:α->Prop} (g:dU N k=nm) (hl:nm.length=l.length) (a:Mr N k i↔ ∀x,l[i]?=some x->G x):Ru N k i↔GoodAt nm l G i:=by
 unfold Ru GoodAt;rw [g,a];constructor
 .intro h x s b c;obtain ⟨d,e,f⟩:=h s c;exact ⟨d,e,f x b⟩
 .intro h s c;have j:=(ZE c).1;obtain ⟨d,e,f⟩:=h l[i] s (ZD ZJ) c;refine ⟨d,e,λx b=> ?_⟩;rw [ZD ZJ] at b;cases b;exact f
theorem oO {α:Type} {l:List α} {G:α->Prop} (b:dU N k=nm) (hl:nm.length=l.length) (a: ∀i,Mr N k i↔ ∀x,l[i]?=some x->G x):ng N k↔KindOK keys11 (CZ k) nm l G:=by
 rw [C7 hl];unfold ng;rw [b,hl];constructor
 .rintro ⟨c,d⟩;exact ⟨c,λj e=>(Nt b hl (a j)).1 (d j e)⟩
 .rintro ⟨c,d⟩;exact ⟨c,λj e=>(Nt b hl (a j)).2 (d j e)⟩
theorem cons_iff:ConsOK keys11 N↔N.names.length=N.cals.length/\ ∀k,1<=k->k<=5->ng N k:=by
 have c:ng N 1↔KindOK keys11 6 (o9 N) N.cals CalOK:=oO rfl (jR N) λi=>Iff.rfl;have d:ng N 2↔KindOK keys11 6 N.ops N.ops (λ_=>True):=oO rfl rfl λi=>⟨λ_ _ _=>trivial,λ_=>trivial⟩;have e:ng N 3↔KindOK keys11 12 (N.offs.map (·.name)) N.offs (OfOK N):=oO rfl (List.length_map _) λi=>Iff.rfl;have f:ng N 4↔KindOK keys11 40 (N.lines.map (·.name)) N.lines (LiOK N):=oO rfl (List.length_map _) λi=>Iff.rfl;have g:ng N 5↔KindOK keys11 4 (N.classes.map (·.name)) N.classes ClaOK:=oO rfl (List.length_map _) λi=>Iff.rfl;constructor
 .intro h;refine ⟨h.len,λk b l=> ?_⟩;have:k=1\/k=2\/k=3\/k=4\/k=5:=ZJ;rcases this with rfl|rfl|rfl|rfl|rfl
  .rw [c,sO h.len]; exact h.cals
  .exact d.2 h.ops
  .exact e.2 h.offs
  .exact f.2 h.lines
  .exact g.2 h.classes
 .rintro ⟨b,a⟩;have j:=c.1 (a 1 ZJ ZJ);rw [sO b] at j;exact ⟨b,j,d.1 (a 2 ZJ ZJ),e.1 (a 3 ZJ ZJ),f.1 (a 4 ZJ ZJ),g.1 (a 5 ZJ ZJ)⟩
structure FewN (N:Net):Prop where
 c:N.cals.length<=100
 n:N.names.length<=100
 o:N.ops.length<=100
 f:N.offs.length<=100
 l:N.lines.length<=100
 k:N.classes.length<=100
theorem FewN.names (h:FewN N) (k:Nat):(dU N k).length<=100:=by
 have a:=h.c;have b:=h.o;have d:=h.f;have e:=h.l;have g:=h.k;have:=jR N;unfold dU
 split
 .omega
 split
 .omega
 split
 .rw [List.length_map]; omega
 split<;>rw [List.length_map]<;>omega
def StrRow (w:World) (b:Nat) (v:Value) (l:List ByteArray):Prop:= ∃ps,RowB eT w 9 b v ps/\ps.map (·.2)=l
theorem StrRow.sl {w:World} {b:Nat} {v:Value} {l:List ByteArray} (h:StrRow w b v l):SL eT (λk=>b<=k/\k<w.heap.size) w v l:=by
 obtain ⟨a,h,rfl⟩:=h;exact h.sl ZL
theorem XI {v:Value} {l:List ByteArray} (h:SL eT F w v l) (hs:l[i]?=some s):s.size<=9223372036854775807:=by
 obtain ⟨_,h⟩:=SL.of h hs;exact h.2
theorem Yh {v:Value} {l:List Of} {s:Of} (h:SL ofT F w v l) (hs:l[i]?=some s):s.name.size<=9223372036854775807:=by
 obtain ⟨_,_,_,h,_⟩:=SL.of h hs;exact h
theorem H6 {v:NV} (K:iA w v N) (L:FewN N) (h1:1<=k) (h5:k<=5):Gives prog 94 #[.agg v.cells.toArray,ZU (k:Int)] w λu t=>ZT w t/\StrRow t w.heap.size u (dU N k):=by
 obtain ⟨M,z,C,x,D,E⟩:=id K;obtain ⟨A,O,F,G,H,I⟩:=L;have c: ∀ {i n:Nat} {e:List (List Value×ByteArray)} {l:List ByteArray},e.map (·.2)=l.take i->i<n->n<=100->e.length<=1000000:=λh j z=>by have:=congrArg List.length h; simp at this; omega
 refine gw func94 ntmps94 ?_;refine nw rfl λg R f=> ?_;refine cd rfl (λS=> ?_) λU=> ?_
 .obtain rfl:k=1:=ZJ;refine SF [2] 6 N.cals.length 5 eT 9 (o9 N) (λi q e W j r d a=> ?_) λq e W r d a=> ?_
  .have s:(o9 N)[i]?=some (N.names[i]?.getD ⟨#[]⟩):=by simp [o9,j,List.getD_eq_getElem?_getD]
   refine cd rfl (λJ=> ?_) λB=> ?_
   .have m:N.names[i]?=some N.names[i]:=ZD ZJ;rw [m] at s;refine rg Dl yx rfl d ⟨rfl,XI z m⟩ (λg o t b p=> ?_) (hn:=c a j A);exact Q6 s b
   .rw [show N.names[i]?=none from List.getElem?_eq_none ZJ] at s;refine rg Dl yx rfl d ⟨rfl,ZL⟩ (λg o t b p=> ?_) (hn:=c a j A);exact Q6 s b
  .exact aO rfl ⟨bK,e,RowB.lo d f.below.size,a.trans (List.take_of_length_le (Nat.le_of_eq (jR N)))⟩
 refine cd rfl (λY=> ?_) λZ=> ?_
 .obtain rfl:k=2:=ZJ;refine SF [2] 7 N.ops.length 5 eT 9 N.ops (λi q e W j r d a=> ?_) λq e W r d a=> ?_
  .have m:=ZD j;refine rg Dl yx rfl d ⟨rfl,XI C m⟩ (λg o t b p=> ?_) (hn:=c a j F);exact Q6 m b
  .exact aO rfl ⟨bK,e,RowB.lo d f.below.size,a.trans (List.take_length ..)⟩
 refine cd rfl (λe3=> ?_) λn3=> ?_
 .obtain rfl:k=3:=ZJ;refine SF [2] 8 N.offs.length 5 eT 9 (N.offs.map (·.name)) (λi q e W j r d a=> ?_) λq e W r d a=> ?_
  .have m:=ZD j;have hz:=cell0 x (bK:ZT w W) m (u:= .string N.offs[i].name) λcs h=>by obtain ⟨v,rfl,_⟩:=h; rfl
   refine rn ?_;refine rg Dl yx rfl d ⟨rfl,Yh x m⟩ (λg o t b p=> ?_) (hn:=c a j G);exact Q6 (by rw [List.getElem?_map,m]; rfl) b
  .exact aO rfl ⟨bK,e,RowB.lo d f.below.size,a.trans (List.take_of_length_le ZM)⟩
 refine cd rfl (λe4=> ?_) λn4=> ?_
 .obtain rfl:k=4:=ZJ;refine SF [2] 9 N.lines.length 5 eT 9 (N.lines.map (·.name)) (λi q e W j r d a=> ?_) λq e W r d a=> ?_
  .have m:=ZD j;obtain ⟨_,_,y,_⟩:=SL.of D m;refine rg Dl yx rfl d ⟨rfl,y⟩ (λg o t b p=> ?_) (hn:=c a j H);exact Q6 (by rw [List.getElem?_map,m]; rfl) b
  .exact aO rfl ⟨bK,e,RowB.lo d f.below.size,a.trans (List.take_of_length_le ZM)⟩
 refine cd rfl (λe5=> ?_) λn5=> ?_
 .obtain rfl:k=5:=ZJ;refine SF [2] 10 N.classes.length 5 eT 9 (N.classes.map (·.name)) (λi q e W j r d a=> ?_) λq e W r d a=> ?_
  .have m:=ZD j;obtain ⟨_,_,y,_⟩:=SL.of E m;refine rg Dl yx rfl d ⟨rfl,y⟩ (λg o t b p=> ?_) (hn:=c a j I);exact Q6 (by rw [List.getElem?_map,m]; rfl) b
  .exact aO rfl ⟨bK,e,RowB.lo d f.below.size,a.trans (List.take_of_length_le ZM)⟩
 omega
theorem Ay:Gives prog 203 #[ZU (k:Int)] w (ZS w (ZU (CZ k:Int))):=by
 refine gw func203 ntmps203 ?_;unfold CZ;refine cd rfl (λh3=> ?_) λn3=> ?_
 .exact aO rfl ⟨bK,by rw [if_pos ZJ]; rfl⟩
 refine cd rfl (λh4=> ?_) λn4=> ?_
 .exact aO rfl ⟨bK,by rw [if_neg ZJ,if_pos ZJ]; rfl⟩
 refine cd rfl (λh5=> ?_) λn5=> ?_
 .exact aO rfl ⟨bK,by rw [if_neg ZJ,if_neg ZJ,if_pos ZJ]; rfl⟩
 .exact aO rfl ⟨bK,by rw [if_neg ZJ,if_neg ZJ,if_neg ZJ]; rfl⟩
theorem Jf {v:NV} {ov:Value} {o:Of} (g:NetIn G w v N) (j:FewN N) (h:OfIn F w ov o):Gives prog 315 #[.agg v.cells.toArray,.agg (Sv o ov).toArray] w λx k=>ZT w k/\x= .bool (dec (OfOK N o)):=by
 have d:=h.cd;have l:=g.c;have m:=g.o;have y:=j.c;have z:=j.o;refine gw func315 ntmps315 ?_;refine nw rfl λA B C=> ?_;refine nw rfl λD E H=> ?_;have n:=d.bnd;refine BA [2,3] 5 o.codes.length (Seen λi=> ∀c,o.codes[i]?=some c->CodeOK c) Seen.zero (λi W a p e=> ?_) λW p e=> ?_
 .have q:=ZD a;refine cv rfl PK λr s=> ?_;refine iG rfl (λt=> ?_) λu=> ?_
  .exact rF λh=>by simp [aD (h.codes _ (List.getElem_mem a))] at t
  .exact ou (e.go λc b=>by rw [q] at b; cases b; exact dec_iff.1 (by simpa using u))
 .refine cg rfl (λ_=>fG) λr s=> ?_;refine cg rfl (λ_=>fG) λI J=> ?_;refine cg rfl (λ_=>fG) λK L=> ?_;refine cg rfl (λ_=>fG) λM O=> ?_;refine cg rfl (λ_=>fG) λR S=> ?_;refine rB rfl ?_;simp only [Bool.and_eq_true,decide_eq_true_eq];refine ⟨λh=>⟨ZJ,ZJ,ZJ,ZJ,ZJ,λc b=> ?_,ZJ,ZJ,ZJ,ZJ,ZJ,ZJ⟩,λh=> ?_⟩
  .obtain ⟨i,a⟩:=List.mem_iff_getElem?.1 b;exact e i (ZE a).1 c a
  .have:=h.p1; have:=h.p2; have:=h.q1; have:=h.q2; have:=h.m1; have:=h.m2; have:=h.o1; have:=h.o2; have:=h.c1; have:=h.c2; have:=h.few;omega
theorem Ps {v:NV} {l:Li} (c:NetIn G w v N) (d:FewN N):Gives prog 316 #[.agg v.cells.toArray,.agg (JK l).toArray] w λx a=>ZT w a/\x= .bool (dec (LiOK N l)):=by
 have b:=c.f;have e:=d.f;refine gw func316 ntmps316 ?_;refine nw rfl λg i j=> ?_;refine nw rfl λk m n=> ?_;refine cv rfl fG λo p=> ?_;refine cg rfl (λ_=>fG) λq r=> ?_;refine cg rfl (λ_=>fG) λs t=> ?_;refine cg rfl (λ_=>fG) λu y=> ?_;refine cg rfl (λ_=>fG) λz A=> ?_;refine rB rfl ?_;simp only [Bool.and_eq_true,decide_eq_true_eq];refine ⟨λh=>⟨ZJ,ZJ,ZJ,ZJ,ZJ,ZJ,ZJ,ZJ,ZJ,ZJ,ZJ⟩,λh=> ?_⟩;have:=h.a1; have:=h.a2; have:=h.r1; have:=h.r2; have:=h.d1; have:=h.d2; have:=h.f1; have:=h.f2; have:=h.t1; have:=h.t2; have:=h.ne;omega
theorem JD {v:NV} (t:iA w v N) (B:FewN N) (h1:1<=k) (h5:k<=5) (b:i<(dU N k).length):Gives prog 278 #[.agg v.cells.toArray,ZU (k:Int),ZU (i:Int)] w λu j=>ZT w j/\u= .bool (dec (Mr N k i)):=by
 have d: ∀ {α:Type} {l:List α} {x:α} {p:α->Prop},l[i]?=some x->((∀y,l[i]?=some y->p y)↔p x):=λa=>⟨λh=>h _ a,λh y z=>by rw [a] at z; cases z; exact h⟩;obtain ⟨C,J,K,m,L,M⟩:=id t;refine gw func278 ntmps278 ?_;refine nw rfl λg O f=> ?_;refine cd rfl (λn=> ?_) λR=> ?_
 .obtain rfl:k=1:=ZJ;have b:i<N.cals.length:=by rw [<-jR N]; exact b
  have a:=ZD b;obtain ⟨D,o,A,E,rfl,G,H,I⟩:=SL.el C f.below a;refine rn ?_;refine cv rfl (Co (u:=A) (v:=E) (c:=N.cals[i]) ⟨G,H.below f.below,I.below f.below⟩) λr s=> ?_;exact aO rfl ⟨bK,congrArg _ (dJ (d a)).symm⟩
 refine cd rfl (λn=> ?_) λS=> ?_
 .obtain rfl:k=3:=ZJ;have b:i<N.offs.length:=by rw [<-List.length_map]; exact b
  have a:=ZD b;obtain ⟨D,o,A,rfl,q⟩:=SL.el m f.below a;refine dx ?_;refine dc (cap:= []) ZK rfl (λ_ j e=>Jf (F:=λk=>k<w.heap.size) ((t.below f.below).below e) B (OfIn.below ⟨q.1,q.2.1,q.2.2.1,q.2.2.2.1,q.2.2.2.2.1,q.2.2.2.2.2.1,q.2.2.2.2.2.2⟩ (f.below.step e))) ?_;refine dz λr s=> ?_;exact aO rfl ⟨bK,congrArg _ (dJ (d a)).symm⟩
 refine cd rfl (λn=> ?_) λU=> ?_
 .obtain rfl:k=4:=ZJ;have b:i<N.lines.length:=by rw [<-List.length_map]; exact b
  have a:=ZD b;refine dx ?_;refine dc (cap:= []) ZK rfl (λ_ j e=>Ps ((t.below f.below).below e) B) ?_;refine dz λr s=> ?_;exact aO rfl ⟨bK,congrArg _ (dJ (d a)).symm⟩
 refine cd rfl (λn=> ?_) λW=> ?_
 .obtain rfl:k=5:=ZJ;have b:i<N.classes.length:=by rw [<-List.length_map]; exact b
  have a:=ZD b;refine rn ?_;refine cv rfl fG λr s=> ?_;refine cg rfl (λ_=>fG) λY Z=> ?_;refine rB rfl (Iff.trans ?_ (d a).symm);simp only [Bool.and_eq_true,decide_eq_true_eq];exact ⟨λh=>⟨h.1.1,h.1.2,h.2.1,h.2.2⟩,λh=>⟨⟨h.c1,h.c2⟩,h.d1,h.d2⟩⟩
 .obtain rfl:k=2:=ZJ;exact rT trivial
theorem Qn {v:NV} (B:iA w v N) (q:FewN N) (h1:1<=k) (C:k<=5) (L:SL eT F w lv (dU N k)) (r:i<(dU N k).length):Gives prog 204 #[.agg v.cells.toArray,ZU (k:Int),lv,ZU (i:Int)] w λu s=>ZT w s/\ ∃e:Int,u= ZU e/\(e=0↔Ru N k i):=by
 have o:=ZD r;have a:Ru N k i↔NameOK keys11 (dU N k)[i]/\(dU N k)[i] ∉ (dU N k).take i/\Mr N k i:=⟨λh=>h _ o,λh z b=>by rw [o] at b; cases b; exact h⟩;have t:=q.names k;refine gw func204 ntmps204 ?_;refine nw rfl λD E x=> ?_;refine cv rfl Pq λG y=> ?_;refine iG rfl (λd=> ?_) λA=> ?_
 .exact aO rfl ⟨bK,1,rfl,λh=>ZJ,λh=>by simp [aD (a.1 h).1] at d⟩
 refine BA [1,2,3,4] 10 i (Seen λj=> ∀z,(dU N k)[j]?=some z->z≠(dU N k)[i]) Seen.zero (λj W c p g=> ?_) λW p g=> ?_
 .have b:(dU N k)[j]?=some (dU N k)[j]:=ZD ZJ;refine dr λH I=> ?_;rw [Qx];refine cd rfl (λl=> ?_) λm=> ?_
  .exact aO rfl ⟨bK,4,rfl,λh=>ZJ,λh=>absurd (l ▸ ZF (by rw [List.getElem?_take_of_lt c]; exact b)) (a.1 h).2.1⟩
  .exact ou (g.go λz h=>by rw [b] at h; cases h; exact m)
 .refine cv rfl (JD (bA (bA (bA B x.below) y) p) q h1 C r) λJ K=> ?_;refine iG rfl (λd=> ?_) λn=> ?_
  .exact aO rfl ⟨bK,1,rfl,λh=>ZJ,λh=>by simp [aD (a.1 h).2.2] at d⟩
  .exact aO rfl ⟨bK,0,rfl,λ_=>a.2 ⟨dec_iff.1 (by simpa using A),λh=>(by
    obtain ⟨j,c⟩:=List.mem_iff_getElem?.1 h;have:=(ZE c).1;rw [List.length_take] at this;exact g j ZJ _ (by rw [List.getElem?_take_of_lt ZJ] at c; exact c) rfl),dec_iff.1 (by simpa using n)⟩,λ_=>rfl⟩
theorem Dv {v:NV} (hN:iA w v N) (S:FewN N):Gives prog 123 #[.agg v.cells.toArray] w λu D=>ZT w D/\FR w.heap.size 1000 (ConsOK keys11 N) u D:=by
 obtain ⟨hc,U,_⟩:=id hN;obtain ⟨qc,qn,_⟩:=id S;refine gw func123 ntmps123 ?_;refine nw rfl λg o Y=> ?_;refine jn [1] (λv=> [(3,none,v)]) (FR o.heap.size 1 (N.names.length=N.cals.length)) (λK0 K=> ?_) λv W b2 A=> ?_
 .refine cd rfl (λE=> ?_) λZ=> ?_
  .refine eD [ZU 1,ZU (-1),ZU 1] rfl ?_;refine rg (T:=KP) (a:=()) AJ DD rfl (RowB.nil _ _ _ _) ⟨rfl,rfl⟩ λg c D d L=> ?_;exact jd K c (FR.put d Nat.zero_lt_one ZJ)
  .exact jd K _ (FR.nil ZJ)
 refine dA [1] (λz:Nat×Value=> [(3,none,z.2),(4,none,ZU (z.1:Int))])
  (λz W=>1<=z.1/\z.1<=6/\ZT o W/\FR o.heap.size (102*z.1) (N.names.length=N.cals.length/\ ∀k,1<=k->k<z.1->ng N k) z.2 W) (λz=>6-z.1) (1,v) ⟨ZC,by show 1<=6; decide,b2,A.imp (by show 1<=102*1; decide) ⟨λh=>⟨h,λk b h2=>by dsimp only at h2; omega⟩,λh=>h.1⟩⟩ ?_
 rintro ⟨k,fv⟩ W2 ⟨l,a0,hW,A⟩;dsimp only at l a0 A;refine rn ?_;refine cd rfl (λa5=> ?_) λa6=> ?_
 .have F:k<=5:=ZJ;have a7:=S.names k;refine cr rfl (H6 (bA (bA hN Y.below) hW) S l F) λu M d5 hS=> ?_;have hL:=hS.sl;have z2:=hW.size;have z5:=d5.size;have ho: ∀g,fv.ownBlock=some g->g<W2.heap.size\/M.heap.size<=g:=λg hg=> .inl (by obtain ⟨B,h,_⟩:=A; exact h.1.lt hg);refine rn ?_;refine dA [1,4,5] (λz:Nat×Value=> [(3,none,z.2),(6,none,ZU (z.1:Int))])
   (λz O=>z.1<=(dU N k).length/\z.1<=CZ k/\ZT o O/\M.heap.size<=O.heap.size/\FR o.heap.size (102*k+z.1) ((N.names.length=N.cals.length/\ ∀k',1<=k'->k'<k->ng N k')/\ ∀j,j<z.1->Ru N k j) z.2 O/\SL eT (λj=>W2.heap.size<=j/\j<M.heap.size) O u (dU N k)/\ ∀g,z.2.ownBlock=some g->g<W2.heap.size\/M.heap.size<=g) (λz=>(dU N k).length-z.1) (0,fv) ⟨ZB,ZB,bK,ZC,(A.below d5).imp ZC ⟨λh=>⟨h,λj h=>absurd h (Nat.not_lt_zero j)⟩,λh=>h.1⟩,hL,ho⟩ ?_
  rintro ⟨i,G⟩ W3 ⟨hi,a1,a2,a8,r,s,m⟩;dsimp only at hi a1 r m;refine rn ?_;refine cg rfl (λ_=>Ay (k:=k)) λw6 t=> ?_;have z6:=t.size;refine iG rfl (λH=> ?_) λI=> ?_
  .simp only [Bool.and_eq_true,decide_eq_true_eq] at H;have x:i<(dU N k).length:=ZJ;refine cr rfl (Qn (bA (bA (bA hN Y.below) a2) t) S l F (s.below t) x) λu7 w7 C R=> ?_;obtain ⟨e,rfl,R⟩:=R;have z7:=C.size;obtain ⟨B,y,U,J⟩:=(r.below t).below C;have b: ∀p:Prop,(p/\ ∀j,j<i+1->Ru N k j)↔(p/\ ∀j,j<i->Ru N k j)/\e=0:=λp=>⟨λh=>⟨⟨h.1,λj n=>h.2 j ZJ⟩,R.2 (h.2 i ZJ)⟩,λh=>⟨h.1.1,λj n=>(Nat.lt_succ_iff_lt_or_eq.1 n).elim (h.1.2 j) λq=>q ▸ R.1 h.2⟩⟩;refine rn ?_;refine cd rfl (λE=> ?_) λZ=> ?_
   .refine eD [ZU (k:Int),ZU (i:Int),ZU e] rfl ?_;refine WC (T:=KP) (a:=()) AJ DD rfl y ⟨rfl,rfl⟩ λg c D d L gb on=> ?_;exact cK (i+1,c) ⟨x,by show i+1<=_; omega,L,by have:=gb.size; omega,FR.put d (by show _<102*k+(i+1); omega) λh=>E ((b _).1 h).2,((s.below t).below C).mono (Kept.of_blocks λj n _=>gb.block j ZJ λq=>by have:=m j q.symm; omega),λg hg=>(on g hg).elim (m g) λh=> .inr ZJ⟩
   .exact cK (i+1,G) ⟨x,by show i+1<=_; omega,bK,ZJ,⟨B,y,by show _<=102*k+(i+1); omega,J.trans ((b _).trans ⟨λh=>h.1,λh=>⟨h,ZJ⟩⟩).symm⟩,(s.below t).below C,m⟩
  .have a4:i=(dU N k).length\/i=CZ k:=by simp only [Bool.and_eq_false_iff,decide_eq_false_iff_not] at I; omega
   refine cv rfl (Ay (k:=k)) λw7 C=> ?_;obtain ⟨B,y,U,J⟩:=(r.below t).below C;have b: ∀p:Prop,(p/\ ∀j,1<=j->j<k+1->ng N j)↔(p/\ ∀j,1<=j->j<k->ng N j)/\ng N k:=λp=>⟨λh=>⟨⟨h.1,λj b n=>h.2 j b ZJ⟩,h.2 k l ZJ⟩,λh=>⟨h.1.1,λj b n=>(Nat.lt_succ_iff_lt_or_eq.1 n).elim (h.1.2 j b) λq=>q ▸ h.2⟩⟩;refine cd rfl (λa9=> ?_) λaa=> ?_
   .refine cv rfl (Ay (k:=k)) λw8 d8=> ?_;refine eD [ZU (k:Int),ZU (CZ k:Int),ZU 2] rfl ?_;refine rg (T:=KP) (a:=()) AJ DD rfl (y.step d8) ⟨rfl,rfl⟩ λg c D d L=> ?_;exact cK (k+1,c) ⟨by show 1<=k+1; omega,by show k+1<=6; omega,L,FR.put d (by show _<102*(k+1); omega) λh=>by have:=((b _).1 h).2.1; omega⟩
   .exact cK (k+1,G) ⟨by show 1<=k+1; omega,by show k+1<=6; omega,bK,B,y,by show _<=102*(k+1); omega,J.trans (Iff.trans ⟨λh=>⟨h.1,ZJ,λj n=>h.2 j ZJ⟩,λh=>⟨h.1,λj n=>h.2.2 j ZJ⟩⟩ (b _).symm)⟩
 .obtain rfl:k=6:=ZJ;obtain ⟨B,y,U,J⟩:=A;exact aO rfl ⟨bK,B,RowB.lo y Y.below.size,ZJ,J.trans (Iff.trans ⟨λh=>⟨h.1,λj b h5=>h.2 j b ZJ⟩,λh=>⟨h.1,λj b h5=>h.2 j b ZJ⟩⟩ cons_iff.symm)⟩
theorem Kc {v:NV} (g:iA w v N) (i:FewN N):Gives prog 109 #[.agg v.cells.toArray] w λu a=>ZT w a/\u= .bool (dec (ConsOK keys11 N)):=by
 refine gw func109 ntmps109 ?_;refine nw rfl λj k b=> ?_;refine cr rfl (Dv (bA g b.below) i) λu l m h=> ?_;obtain ⟨c,d,_,e⟩:=h;have n:nk u c.length:=by simpa using (d.sl ZL).isl
 refine rn ?_;exact rB rfl (by rw [<-e]; simp)
theorem CX {L:List Ln} {l:Ln} (h:L[i]?=some l):gZ r (L.take (i+1))=wI (gZ r (L.take i)) l:=by
 unfold gZ;rw [ZG,h,List.foldl_append];rfl
def uS (n b:Nat):List Int:=List.replicate b (-1)++List.replicate (n-b) 0
theorem FD (hb:b<n):(uS n b).set b (-1)=uS n (b+1):=by
 unfold uS;rw [List.set_append_right _ _ ZM,List.length_replicate,Nat.sub_self,show n-b=(n-(b+1))+1 by omega,List.replicate_succ,List.set_cons_zero,List.replicate_succ',List.append_assoc];rfl
theorem Rh {t:Nat} {i:Int} (h:Blk w g t (r.map (.int .i64))) (hn:r.length=n) (a:0<=i) (b:i<n):w.cell? (Addr.add ⟨g,0,none⟩ (i.toNat*1))=some (ZU (gB r i.toNat)):=by
 refine h.fld ?_;rw [Nat.mul_one,List.getElem?_map,ZD ZJ];unfold gB;rw [List.getD_eq_getElem?_getD,ZD ZJ];rfl
theorem Tw {t j:Nat} {x:Int} (o:Blk w g t ((r.map (.int .i64)).set (j*1) (ZU x))):Blk w g t ((r.set j x).map (.int .i64)):=by
 rw [List.map_set,<-Nat.mul_one j]; exact o
theorem UH {L:List Ln} {a:Nat} (c:LnOK n L) (d:a<n) (hn:n<=12) (hl:L.length<=40) (g:k<=n):RB L n a 3000000 (gZ (jg L (eU n a) k) (L.take i)):=by
 obtain ⟨h,_⟩:=RB.lines c (L.take i) _ _ (λl hl=>List.mem_of_mem_take hl) ZJ (vT c d k);have e:=Nat.mul_le_mul ZJ hl;have f:(L.take i).length<=L.length:=by rw [List.length_take]; omega
 exact ⟨h.len,h.own,λb=>⟨(h.rng b).1,Int.le_trans (h.rng b).2 ZJ⟩,h.sound⟩
theorem PI {v:NV} (Y:iA w v N) (hf:FewN N) (Z:ConsOK keys11 N):Gives prog 52 #[.agg v.cells.toArray] w λu C=>ZT w C/\SL (sliceT aS) (λk=>w.heap.size<=k/\k<C.heap.size) C u ((List.range N.offs.length).map λa=>oL (dZ N) N.offs.length a):=by
 obtain ⟨hL,n,o⟩:=Z.ln;have E:(dZ N).length=N.lines.length:=by unfold dZ; rw [List.length_map]
 have a0:=Y.f;have a1:=Y.l;refine gw func52 ntmps52 ?_;refine nw rfl λg1 w1 f1=> ?_;refine cv rfl (Kc (bA Y f1.below) hf) λw2 b2=> ?_;rw [aD Z];refine cF rfl ?_;refine SF [1] 4 N.offs.length 3 (sliceT aS) 66 ((List.range N.offs.length).map λa=>oL (dZ N) N.offs.length a) (λa tv ps W G hW D p=> ?_) λtv ps W hW D p=> ?_
 .have a2:ps.length<=100:=by have:=congrArg List.length p; simp at this; omega
  refine ms ji Ub rfl λt wr fr=> ?_;have q1:=fr.at_;refine ME W [1,3,4,5] 6 N.offs.length (λb y=>Blk y t 3 ((uS N.offs.length b).map (.int .i64))) (by simpa [uS] using fr.blk) (λb W1 hb H c=> ?_) λW1 H c=> ?_
  .refine sf rfl c (λW2 h bt sz=> ?_) (hj:=by simp [uS]; omega);exact ou (FD hb ▸ Tw h)
  refine sf rfl c (λW2 h bt sz=> ?_) (hj:=by simp [uS]; omega);have h:Blk W2 t 3 ((eU N.offs.length a).map (.int .i64)):=by
   have:=Tw h;simpa [uS,eU] using this
  refine ME W [1,3,4,5] 7 N.offs.length (λk y=>Blk y t 3 ((jg (dZ N) (eU N.offs.length a) k).map (.int .i64))) h (λk I J q c=> ?_) λI q c=> ?_
  .refine ME W [1,3,4,5,7] 8 N.lines.length (λi y=>Blk y t 3 ((gZ (jg (dZ N) (eU N.offs.length a) k) ((dZ N).take i)).map (.int .i64))) c (λi W4 hi K c=> ?_) λW4 K c=> ?_
   .have hl:=ZD hi;obtain ⟨q1,q2,q3,q4,_,_,_,q5,q6⟩:=Z.lines.good _ (List.getElem_mem hi);have L:(dZ N)[i]?=some (N.lines[i].frm.toNat,N.lines[i].to.toNat,N.lines[i].trav):=by unfold dZ; rw [List.getElem?_map,hl]; rfl
    have d:=UH (i:=i) hL G n o (Nat.le_of_lt J);have s:=CX (r:=jg (dZ N) (eU N.offs.length a) k) L;obtain ⟨r,hr⟩: ∃r,r=gZ (jg (dZ N) (eU N.offs.length a) k) ((dZ N).take i):=⟨_,rfl⟩;rw [<-hr] at c d s;have hx:=d.rng N.lines[i].frm.toNat;have hy:=d.rng N.lines[i].to.toNat;have a3:=Rh c d.len q1 q2;have a4:=Rh c d.len q3 q4;refine Go.PF.nv KS rfl λg9 w9 f9=> ?_;refine dr λa5 z=> ?_;refine iG rfl (λA=> ?_) λM=> ?_
    .refine dl 12 λa6 O=> ?_;refine sf rfl (((c.next f9.below).next z).next O) (λW5 R bt sz=> ?_) (hj:=by simp [d.len]; omega);refine ou ?_;rw [s];unfold wI;rw [if_pos (by simpa using A)];exact Tw R
    .refine ou ?_;rw [s];unfold wI;rw [if_neg (by simpa using M)];exact (c.next f9.below).next z
   .rw [<-E,List.take_length] at c;exact ou c
  .have m:=Hr hL G;have hI: ∀x∈oL (dZ N) N.offs.length a,fF x:=λx hx=>by
    obtain ⟨j,hj⟩:=List.mem_iff_getElem?.1 hx;have S:=m.2.1 j;have h8:N.offs.length*(dZ N).length<=12*40:=Nat.mul_le_mul n o;unfold gB at S;rw [List.getD_eq_getElem?_getD,hj] at S;simp only [Option.getD_some] at S;exact ⟨ZJ,ZJ⟩
   have hz:=q.size;have a7:=hW.size;have c:Blk I t 3 ((oL (dZ N) N.offs.length a).map (.int .i64)):=c;have B:=Ic (F:=λk=>w2.heap.size<=k/\iE I tv k) c ⟨ZJ,c.lt,λe=>absurd (D.1.lt e) ZJ⟩ hI (by rw [m.1]; omega);rw [m.1] at B;refine rg (T:=sliceT aS) Qg Qp rfl (D.step q) ⟨_,rfl,B⟩ λg a8 C U b'=> ?_;exact Q6 (by simp [G]) U
 .have B:=D.sl ZL;rw [p,List.take_of_length_le ZM] at B;exact aO rfl ⟨bK,B.wider λk J=>⟨by have:=f1.below.size; have:=b2.size; omega,J.2⟩⟩
end Go.Proofs.YtoleahhfkpkcjaaGreatDoor
