/- Texts of this claim,joined. -/
import Derived.Test.YtoleahhfkpkcjaaGreatDoorQQ
import Derived.KernelRfl
import Derived.ProofKit
import Derived.JoinedOf
import Derived.Deep.Slices
import Derived.SizedLaws
import Derived.Test.YtoleahhfkpkcjaaGreatDoorRows
import Derived.Test.YtoleahhfkpkcjaaGreatDoorCards
import Derived.Test.YtoleahhfkpkcjaaGreatDoorTie
import Derived.LaidMore
import Derived.OpenShut
import Derived.Stop.Joined
import Derived.SevenTiedAt
set_option linter.unusedSimpArgs false
set_option linter.unusedVariables false
set_option maxRecDepth 100000
set_option maxHeartbeats 4000000
variable {w W:Go.World} {F M G:Nat->Prop} {r recs:List Go.Ord.Rc} {S:Go.Proofs.YtoleahhfkpkcjaaGreatDoor.TrS} {v xv:Go.Value} {args:Array Go.Value} {R:Go.Value->Go.World->Prop} {t a b e:Int} {E l:List Go.Ord.Ev} {cs:List Go.Value} {x:Go.Ord.Rc} {ws:List (List Int)} {P:Go.Program} {α:Type} {t1:Go.TypeId} {p n:Nat} {T:Go.PF.Ty α}
namespace Go.Proofs.YtoleahhfkpkcjaaGreatDoor
open Go.Proofs.Tryz
open Go.PF Go.RowKit Go.Ord
section
attribute [local irreducible] TW CW KW DW
theorem TrBad.next {M F:Nat->Prop} {w w':World} {p:Nat} {S:TrS} (h:TrBad M F w p S) (hb:ZT w w'):TrBad M (Gr F w w') w' p S:=by
 obtain ⟨b,c,⟨d,e,f⟩,g,i,j⟩:=h;have l:=hb.size;exact ⟨b,c,⟨d,e.next hb,f⟩,g,λk a=> .inl (i k a),λk a=>a.elim (λh=>by have:=j k h; omega) λh=>h.2⟩
theorem OC (h: ¬S.Right) (s:ByteArray):S.qE s=1/\S.qV s= []/\S.qW s= []/\(∀t,S.qP s t= [])/\S.xE s=1/\S.xR s= []:=by
 have a:S.qE s=1:=by unfold TrS.qE; rw [aG h]; rfl
 have b:S.xE s=1:=by unfold TrS.xE; rw [aG h]; rfl
 refine ⟨a,?_,?_,λt=> ?_,b,?_⟩
 .unfold TrS.qV; rw [a]; rfl
 .unfold TrS.qW; rw [a]; rfl
 .unfold TrS.qP; rw [a]; rfl
 .unfold TrS.xR; rw [b]; rfl
section
variable {M F:Nat->Prop} {w:World} {p:Nat} {S:TrS} {s:ByteArray} {t:Int}
theorem Oe (b:TrBad M F w p S) :
  Gives prog 13 #[.pointer (some ⟨p,0,none⟩),.string s] w λu a=>ZT w a/\u= .tuple #[.slice none 0 0,.slice none 0 0,ZU 1]:=by
 obtain ⟨c,d,⟨e,g,h⟩,i,j,k⟩:=b;refine gw func13 ntmps13 ?_;refine aP (kJ underlying34) rfl ⟨ct,ct,trivial⟩ (λ_=>trivial) ?_;refine rn ?_;refine cT rfl ?_;exact Xj rfl ⟨bP,rfl⟩
theorem PK (b:TrBad M F w p S) :
  Gives prog 15 #[.pointer (some ⟨p,0,none⟩),.string s,ZU t] w λu a=>ZT w a/\u= .tuple #[.slice none 0 0,ZU 1]:=by
 obtain ⟨c,d,⟨e,g,h⟩,i,j,k⟩:=b;refine gw func15 ntmps15 ?_;refine aP (kJ underlying34) rfl ⟨ct,ct,trivial⟩ (λ_=>trivial) ?_;refine rn ?_;refine cT rfl ?_;exact rY rfl ⟨bP,rfl⟩
theorem KL (b:TrBad M F w p S) :
  Gives prog 17 #[.pointer (some ⟨p,0,none⟩),.string s] w λu a=>ZT w a/\u= .tuple #[.slice none 0 0,ZU 1]:=by
 obtain ⟨c,d,⟨e,g,h⟩,i,j,k⟩:=b;refine gw func17 ntmps17 ?_;refine aP (kJ underlying34) rfl ⟨ct,ct,trivial⟩ (λ_=>trivial) ?_;refine rn ?_;refine cT rfl ?_;exact rY rfl ⟨bP,rfl⟩
theorem Ws (c:TrBad M F w p S) (d:RcOK G w xv x) :
  Gives prog 25 #[.pointer (some ⟨p,0,none⟩),.agg (iY x xv).toArray] w λu b=>ZT w b/\u= ZU 1:=by
 obtain ⟨e,g,⟨h,i,j⟩,k,l,m⟩:=c;have n: ¬aF (some (!true)):=by simp [aF]
 refine gw func25 ntmps25 ?_;refine nw rfl λo q r=> ?_;refine aP (kJ underlying34) rfl ⟨ct,ct,trivial⟩ (λ_=>trivial) ?_;refine rn ?_;refine cT rfl ?_;exact aO rfl ⟨bP,rfl⟩
theorem vQ (s:TrA M F w p S) (f:RcOK G w xv x) (t: ∀k,G k->k<w.heap.size/\ ¬M k) :
  Gives prog 25 #[.pointer (some ⟨p,0,none⟩),.agg (iY x xv).toArray] w λu d=>Chg M w d/\u= ZU (S.addE x)/\TrA (Gr M w d) (Gr F w d) d p (S.add x):=by
 rcases s with h|h
 .exact (Wq h f t).mono λu d ⟨a,b,c⟩=>⟨a,b,.inl c⟩
 .have e:S.addE x=1:=by unfold TrS.addE; rw [if_neg λq=>h.1 q.1]
  have g:S.add x=S:=by unfold TrS.add; rw [e,if_neg ZL]
  rw [e,g];exact (Ws h f).mono λu d ⟨a,b⟩=>by
   obtain ⟨i,j,l,m,v,n⟩:=h.next a;exact ⟨.of_below a,b,.inr ⟨i,j,l,.inl m,λk o=>o.imp (λr=>h.2.2.2.2.1 k r) id,n⟩⟩
theorem jl (f:TrA M F w p S) :
  Gives prog 23 #[.pointer (some ⟨p,0,none⟩)] w λu a=>ZT w a/\SL rcT (λk=>w.heap.size<=k/\k<a.heap.size) a u S.recs:=by
 rcases f with ⟨I,g,i,j,l,n,m,o,h,_⟩|⟨q,b,⟨s,c,t,d⟩,_⟩
 .exact zN (h.blk.fld rfl) h.sr (λ_ h=>h) h.ok.few λr e=>by have:=pW (h.ok.val r e).1; omega
 .rw [b];exact zN (I:=λ_=>False) (c.fld (by simpa using d)) (SL.nil _ _ _) (λ_ h=>h.elim) ZL ZM
theorem lN (l:TabI w) (m:TrA M F w p S) :
  Gives prog 13 #[.pointer (some ⟨p,0,none⟩),.string s] w λu d=>Chg M w d/\TrA M (Gr F w d) d p S/\ ∃e f,u= .tuple #[e,f,ZU (S.qE s)]/\SL evT (λk=>w.heap.size<=k/\k<d.heap.size) d e (S.qV s)/\SL (sliceT aT) (λk=>w.heap.size<=k/\k<d.heap.size) d f (S.qW s):=by
 rcases m with h|h
 .exact (Oc l h).mono λu d ⟨a,b,c⟩=>⟨a,.inl b,c⟩
 .obtain ⟨g,i,j,_⟩:=OC h.1 s;rw [g,i,j];exact (Oe h).mono λu d ⟨a,b⟩=>⟨.of_below a,.inr (h.next a),_,_,b,SL.nil _ _ _,SL.nil _ _ _⟩
theorem pV (g:TabI w) (i:Tabs w) (j:TrA M F w p S) :
  Gives prog 15 #[.pointer (some ⟨p,0,none⟩),.string s,ZU t] w λu d=>Chg M w d/\TrA M (Gr F w d) d p S/\ ∃v,u= .tuple #[v,ZU (S.qE s)]/\SL sptT (λk=>w.heap.size<=k/\k<d.heap.size) d v (S.qP s t):=by
 rcases j with h|h
 .exact (PI g i h).mono λu d ⟨a,b,c⟩=>⟨a,.inl b,c⟩
 .obtain ⟨e,_,_,f,_⟩:=OC h.1 s;rw [e,f];exact (PK h).mono λu d ⟨a,b⟩=>⟨.of_below a,.inr (h.next a),_,b,SL.nil _ _ _⟩
theorem jZ (g:TabI w) (i:TrA M F w p S) :
  Gives prog 17 #[.pointer (some ⟨p,0,none⟩),.string s] w λu d=>Chg M w d/\TrA M (Gr F w d) d p S/\ ∃v,u= .tuple #[v,ZU (S.xE s)]/\SL rcT (λk=>w.heap.size<=k/\k<d.heap.size) d v (S.xR s):=by
 rcases i with h|h
 .exact (KJ g h).mono λu d ⟨a,b,c⟩=>⟨a,.inl b,c⟩
 .obtain ⟨_,_,_,_,e,f⟩:=OC h.1 s;rw [e,f];exact (KL h).mono λu d ⟨a,b⟩=>⟨.of_below a,.inr (h.next a),_,b,SL.nil _ _ _⟩
end
theorem TrA.kept {M F:Nat->Prop} {w w':World} {p:Nat} {S:TrS} (h:TrA M F w p S) (hs:w.heap.size<=w'.heap.size) (b: ∀k,F k->w'.heap[k]?=w.heap[k]?):TrA M F w' p S:=by
 rcases h with ⟨I,j,l,n,o,r,m,s,h,c,f,g,i,a,d⟩|⟨t,u,⟨v,x,y⟩,c,a,d⟩
 .refine .inl ⟨I,j,l,n,o,r,m,s,h.kept hs λk _ e=>b k ?_,c,f,g,i,a,λk b=>by have:=d k b; omega⟩;rcases e with q|rfl|rfl|q
  .exact i k q
  .exact a _ c
  .exact a _ f
  .exact a _ (g k q)
 .exact .inr ⟨t,u,⟨v,(b p (a p c)).trans x,y⟩,c,a,λk b=>by have:=d k b; omega⟩
theorem TrA.facts (h:TrA M F w p S):(∀k,M k->F k)/\(∀k,F k->k<w.heap.size)/\M p:=by
 rcases h with ⟨I,d,e,f,g,i,m,j,h,a,l,n,o,b,c⟩|⟨q,r,_,a,b,c⟩
 .exact ⟨b,c,a⟩
 .exact ⟨b,c,a⟩
end
end Go.Proofs.YtoleahhfkpkcjaaGreatDoor
namespace Go.PF
open Go.RowKit
section
open Go
theorem Xi {N:Nat} {E:Env} {fn:Func} {s y:Nat} {t:TypeId} {g:Nat} [Sr P t n] (h:(fn.results,look E s,look E y)=(#[.tmp s,.cell y t],some (none,v),some (none,.pointer (some ⟨g,0,none⟩)))) (hB:Blk w g t1 cs) (hR:R (.tuple #[v,.agg cs.toArray]) w) (hn:cs.length=n:=by rfl) :
  KW N [] (bodyPost P fn (λe w'=> ∃v,e= .returned v/\R v w') .ret) E w:=λa ha=>by
 simp only [Prod.mk.injEq] at h;obtain ⟨fs,hu⟩:=Sr.u (P:=P) (t:=t);refine bodyPost_ret ?_ ha.defers ⟨_,rfl,hR⟩;have e1:=(ha.slots s none _ h.2.1).1 trivial;have e2:=(ha.slots y none _ h.2.2).1 trivial;simp only [Array.getD_eq_getD_getElem?] at e1 e2;simp [results,h.1,e1,e2,asAddr,jC hu (hn ▸ Sr.s) (λj v hj=>hB.fld hj)]
end
end Go.PF
namespace Go.Proofs.YtoleahhfkpkcjaaGreatDoor
open Go.Proofs.Tryz
open Go.PF Go.RowKit Go.Ord
attribute [local irreducible] TW CW KW DW
theorem TrA.wider {M' F':Nat->Prop} (h:TrA M F w p S) (b: ∀k,M k->M' k) (z: ∀k,F k->F' k) (a: ∀k,M' k->F' k) (hl: ∀k,F' k->k<w.heap.size):TrA M' F' w p S:=by
 rcases h with ⟨I,d,e,f,i,j,m,l,h,c,n,o,q,r,s⟩|⟨t,u,v,c,r,s⟩
 .exact .inl ⟨I,d,e,f,i,j,m,l,h,b _ c,b _ n,λg x=>b _ (o g x),λk y=>z k (q k y),a,hl⟩
 .exact .inr ⟨t,u,v,b _ c,a,hl⟩
theorem TrA.later {w':World} (h:TrA M F w p S) (hb:ZT w w'):TrA M F w' p S:=h.kept hb.size λk a=>hb.block k (h.facts.2.1 k a)
theorem pp {F0:Nat->Prop} {nv:NV} {sv rv:Value} {N:Net} {L:List Sc} {most:Int} (ht:Tabs w) (R:NetIn F0 w nv N) (d: ∀k,F0 k->k<w.heap.size) (S:SS w sv L) (E:SR w rv r) (hm:fE most) (hf:FewN N) (hn:r.length<=300) :
  Gives prog 26 #[.agg nv.cells.toArray,sv,ZU most,rv] w λu h=>ZT w h/\ ∃p b,u= .tuple #[.pointer (some ⟨p,0,none⟩),.agg (uJ nv sv most b).toArray]/\TrA (λk=>w.heap.size<=k/\k<h.heap.size) (λk=>F0 k\/w.heap.size<=k/\k<h.heap.size) h p (TrS.adds ⟨N,L,most,[]⟩ r)/\RTr (λk=>k<h.heap.size) h nv sv b (TrS.adds ⟨N,L,most,[]⟩ r):=by
 obtain ⟨⟨U,Y,Z⟩,⟨A2,l,e2⟩,⟨A3,c3,e3⟩,⟨A4,c4,e4⟩,⟨A5,c5,e5⟩,⟨A6,c6,e6⟩⟩:=NetIn.form R;obtain ⟨vc,vn,vo,vf,vl,vk⟩:=nv;dsimp only at Z e2 e3 e4 e5 e6;subst Z e2 e3 e4 e5 e6;obtain ⟨A,a1,rfl,_⟩:=S.form;obtain ⟨B,a0,rfl,_⟩:=E.form;refine gw func26 ntmps26 ?_;refine nw rfl λg4 w4 G=> ?_;refine na wT λg9 m C=> ?_;have j:ZT w m:=G.below.step C.below;have z9:=j.size;refine aM rfl (Dt (F0:=F0) (ht.below j) (R.below j) (λk a=>by have:=d k a; omega) ((S.below j).wider λk a=>ZJ) hm) ?_;rintro _ w1 ⟨b1,p,rfl,n⟩;have z1:=b1.size;refine rn ?_;obtain ⟨o,q⟩: ∃o:TrS,o=⟨N,L,most,[]⟩:=⟨_,rfl⟩;rw [<-q] at n ⊢;refine dC [1,2,3,4,9,10] (λi:Nat=> [(11,none,ZU (i:Int))]) (λi W=>i<=r.length/\ZT m W/\TrA (λk=>m.heap.size<=k/\k<W.heap.size) (λk=>F0 k\/m.heap.size<=k/\k<W.heap.size) W p (o.adds (r.take i))) (λi=>r.length-i) 0 ⟨ZB,b1,n⟩ ?_;rintro i W ⟨hi,s,H⟩;have zW:=s.size;refine rn ?_;refine cd rfl (λt=> ?_) λa2=> ?_
 .have c:i<r.length:=ZJ;obtain ⟨ad,rfl⟩:=E.addr ZJ;have hz:r[i]?=some r[i]:=ZD c;obtain ⟨xv,a3,I⟩:=SR.get (E.below (j.step s)) hz;refine rn ?_;refine aM rfl (vQ H I λk a=>⟨ZJ,ZJ⟩) ?_;rintro _ W2 ⟨l,rfl,J⟩;have z2:=l.size;refine rn ?_;refine dB (i+1) ⟨c,s.trans (l.below (λk a=>a.1) zW),?_⟩;have e:o.adds (r.take (i+1))=(o.adds (r.take i)).add r[i]:=by rw [<-List.take_append_getElem c,tZ]; rfl
  rw [e];refine J.wider (λk a=> ?_) (λk a=> ?_) (λk a=> .inr a) λk a=> ?_
  .rcases a with a|a
   .exact ⟨a.1,ZJ⟩
   .exact ⟨ZJ,a.2⟩
  .rcases a with (a|a)|a
   .exact .inl a
   .exact .inr ⟨a.1,ZJ⟩
   .exact .inr ⟨ZJ,a.2⟩
  .rcases a with a|a
   .have:=d k a;omega
   .exact a.2
 .have c:i=r.length:=ZJ;rw [c,List.take_length] at H;refine rn ?_;have x:=j.step s;refine cr rfl (Tf (F:=λk=>k<w.heap.size) ((R.below x).wider d) (S.below x) (E.below x) (λk a=>by have:=x.size; omega) hf hn) λu K D e=> ?_;obtain ⟨b,rfl,y⟩:=e;rw [<-q] at y;have z:b.oneCell'=true:=by
   obtain ⟨_,_,rfl,_⟩:=y.recs.form;rfl
  refine rn ?_;have z2:=D.size;refine sb rfl (C.blk.next (s.step D)) (λw3 M g a4=> ?_) (h1:=by simp [uJ,Value.oneCell']; exact z);have z4:=G.size;have y4:=G.at_;have y9:=C.at_;have a5:=C.size;have a:Kept (λk=>k<w.heap.size\/W.heap.size<=k/\k<K.heap.size) K w3:=Kept.of_blocks λk a t=>g.block k t λe=>by
   cases e;omega
  have O: ∀k,(k<w.heap.size\/W.heap.size<=k/\k<K.heap.size)->k<w3.heap.size:=λk a=>ZJ;refine Xi rfl M ⟨But.below (x.step D) g ZJ,p,b,rfl,?_,(jW y.net a).wider O,(y.scn.mono a).wider O,(y.recs.mono a).wider O,λk a=>a⟩;refine ((H.later D).kept ZJ λk a=> ?_).wider (λk a=>⟨ZJ,ZJ⟩) (λk a=> ?_) (λk a=> .inr a) λk a=> ?_
  .rcases a with a|a
   .have:=d k a;exact g.block k ZJ λe=>by cases e; omega
   .exact g.block k ZJ λe=>by cases e; omega
  .exact a.imp id λa=>⟨ZJ,ZJ⟩
  .rcases a with a|a
   .have:=d k a;omega
   .exact a.2
def kH (n:UInt8):ByteArray:=⟨#[n]⟩
def Vl:Of:=⟨kH 97,0,0,2,1,10,[]⟩
def Vk:Of:=⟨kH 98,0,0,2,1,10,[]⟩
def liX:Li:=⟨kH 108,0,1,480,120,1⟩
def liY:Li:=⟨kH 109,1,0,600,60,1⟩
def N1:Net:=⟨[⟨0,[true,true,true,true,true,false,false],[]⟩],[kH 99],[kH 112],[Vl,Vk],[liX,liY],[⟨kH 107,1020,720⟩]⟩
theorem Nw: ∀k∈keys11,2<=k.size:=by
 intro k hk;have h:(keys11.all λk=>decide (2<=k.size))=true:=ZK;exact of_decide_eq_true (List.all_eq_true.1 h k hk)
theorem Du {n:UInt8} (h1:97<=n.toNat) (h2:n.toNat<=122):NameOK keys11 (kH n):=by
 have hsz:(kH n).size=1:=rfl;have h0:gJ (kH n) 0=n.toNat:=rfl;refine ⟨by rw [hsz]; omega,by rw [hsz]; omega,by rw [h0]; exact ⟨h1,h2⟩,λi hi=> ?_,λhk=> ?_⟩
 .rw [hsz] at hi;have:i=0:=ZJ;subst this;rw [h0];exact .inl ⟨h1,h2⟩
 .have:=Nw _ hk;rw [hsz] at this;omega
theorem OB {a b:UInt8} (h:a≠b):kH a≠kH b:=λe=>h (by have:=congrArg (λx:ByteArray=>x.data.getD 0 0) e; exact this)
theorem QB {o:Of} (h:o.op=0/\o.cal=0/\o.pock=2/\o.pass=1/\o.mins=10/\o.codes= []):OfOK N1 o:=by
 obtain ⟨h1,h2,h3,h4,h5,h6⟩:=h;have n1:N1.ops.length=1:=rfl;have n2:N1.cals.length=1:=rfl;exact ⟨ZJ,ZJ,ZJ,ZJ,by rw [h6]; simp,(λc hc=>by rw [h6] at hc; cases hc),ZJ,ZJ,ZJ,ZJ,ZJ,ZJ⟩
theorem Mk:SoundOK keys11 N1:=by
 refine ⟨⟨rfl,⟨ZL,λs hs=> ?_,by simp [N1],λc hc=> ?_⟩,⟨ZL,λs hs=> ?_,by simp [N1],λ_ _=>trivial⟩,⟨ZL,λs hs=> ?_,?_,λo ho=> ?_⟩,⟨ZL,λs hs=> ?_,?_,λl hl=> ?_⟩,⟨ZL,λs hs=> ?_,by simp [N1],λc hc=> ?_⟩⟩,λa b ha hb=> ?_⟩
 .rw [List.mem_singleton.1 hs]; exact Du ZL ZL
 .rw [List.mem_singleton.1 hc];exact ⟨ZL,ZL,rfl,ZL,λi x y hx=>by simp at hx⟩
 .rw [List.mem_singleton.1 hs]; exact Du ZL ZL
 .have hs:s∈ [kH 97,kH 98]:=hs;simp only [List.mem_cons,List.not_mem_nil,or_false] at hs;rcases hs with rfl|rfl<;>exact Du ZL ZL
 .show [kH 97,kH 98].Nodup;simp only [List.nodup_cons,List.mem_singleton,List.not_mem_nil,not_false_eq_true,List.nodup_nil,and_true];exact OB ZL
 .have ho:o∈ [Vl,Vk]:=ho;simp only [List.mem_cons,List.not_mem_nil,or_false] at ho;rcases ho with rfl|rfl<;>exact QB ⟨ZL,rfl,rfl,rfl,rfl,rfl⟩
 .have hs:s∈ [kH 108,kH 109]:=hs;simp only [List.mem_cons,List.not_mem_nil,or_false] at hs;rcases hs with rfl|rfl<;>exact Du ZL ZL
 .show [kH 108,kH 109].Nodup;simp only [List.nodup_cons,List.mem_singleton,List.not_mem_nil,not_false_eq_true,List.nodup_nil,and_true];exact OB ZL
 .have hl:l∈ [liX,liY]:=hl;simp only [List.mem_cons,List.not_mem_nil,or_false] at hl;rcases hl with rfl|rfl<;>exact ⟨ZL,ZL,ZL,ZL,ZL,ZL,ZL,ZL,ZL,ZL,ZL⟩
 .rw [List.mem_singleton.1 hs]; exact Du ZL ZL
 .rw [List.mem_singleton.1 hc]; exact ⟨ZL,ZL,ZL,ZL⟩
 .have two: ∀i,i<N1.offs.length->i=0\/i=1:=λi hi=>by have:N1.offs.length=2:=rfl; omega
  have hx:(0,1,120)∈eH N1:=by show (0,1,120)∈ [(0,1,(120:Int)),(1,0,60)]; simp
  have hy:(1,0,60)∈eH N1:=by show (1,0,60)∈ [(0,1,(120:Int)),(1,0,60)]; simp
  rcases two a ha with rfl|rfl<;>rcases two b hb with rfl|rfl
  .exact .refl _
  .exact ReachL.one hx
  .exact ReachL.one hy
  .exact .refl _
def d1:bD:= [[0,120],[60,0]]
theorem tK {α β:Type} {f:α->β->α} {x:α}: ∀ {l:List β},(∀y∈l,f x y=x)->l.foldl f x=x
 | [],_=>rfl
 | y::l,h=>by rw [List.foldl_cons,h y ZM]; exact tK λz hz=>h z (by simp [hz])
def M1:dP:=(init12.set 1 120).set 12 60
theorem TE:iN init12 [(0,1,120),(1,0,60)]=M1:=by
 have h1:dZ init12 0 1 120=init12.set 1 120:=by
  unfold dZ;rw [if_pos (.inl ZL)]
 have h2:dZ (init12.set 1 120) 1 0 60=M1:=by
  unfold dZ;rw [if_pos (.inl ZL)];rfl
 show dZ (dZ init12 0 1 120) 1 0 60=M1;rw [h1,h2]
theorem KD:((List.range 12).all λo=>(List.range 12).all λa=>(List.range 12).all λb=> !(decide (g12 M1 a o≠ -1)&&decide (g12 M1 o b≠ -1))|| !(decide (g12 M1 a b= -1)||decide (g12 M1 a o+g12 M1 o b<g12 M1 a b)))=true:=by decide +kernel
theorem PN {o a b:Nat} (ho:o<12) (ha:a<12) (hb:b<12):ow o a M1 b=M1:=by
 have h:=List.all_eq_true.1 (List.all_eq_true.1 (List.all_eq_true.1 KD o (List.mem_range.2 ho)) a (List.mem_range.2 ha)) b (List.mem_range.2 hb);unfold ow
 split
 .rename_i hc;unfold dZ;rw [if_neg];intro hn;rw [decide_eq_true hc.1,decide_eq_true hc.2] at h;simp at h;rcases hn with hn|hn
  .exact h.1 hn
  .omega
 .rfl
theorem Ri:iQ M1 12=M1:=by
 unfold iQ;refine tK λo ho=> ?_;unfold iX;refine tK λa ha=> ?_;unfold jD;exact tK λb hb=>PN (List.mem_range.1 ho) (List.mem_range.1 ha) (List.mem_range.1 hb)
theorem Ui:pu (fJ [(0,1,120),(1,0,60)]) 2= [[0,120],[60,0]]:=by
 unfold fJ;rw [TE,Ri];decide +kernel
theorem Wh:pu (fJ (eH N1)) 2=d1:=Ui
theorem Oo:eU N1=d1:=Wh
def L1:List Sc:= [⟨0,0,5⟩,⟨0,1,5⟩]
def MP (a b t:Int):Rc:=⟨a,b,1,t,kH 65,[]⟩
def T1 (recs:List Rc):TrS:=⟨N1,L1,0,recs⟩
theorem F6:(T1 recs).Right:=⟨Mk,by show 2<=24; omega,Int.le_refl 0,by show (0:Int)<=3; omega⟩
section
def r0:Rc:=MP 0 0 480
def r1:Rc:=MP 1 0 600
def r2:Rc:=MP 1 1 482
theorem XC:ic (kH 65):=⟨ZL,ZL,λi hi=>by
 have:i<1:=hi;obtain rfl:i=0:=ZJ;unfold okB; decide⟩
theorem U5 (h:(a=0\/a=1)/\0<=b/\b<=100/\0<=t/\t<=1000:=by decide):Val L1 (MP a b t):=by
 obtain ⟨h1,h2,h3,h4,h5⟩:=h;have hs: ∀o:Int,0<=o->o<=1->ScOK ⟨0,o,5⟩:=λo _ _=>⟨Int.le_refl 0,by show 0<=o; omega,by show (0:Int)<=5; decide,by show (5:Int)<=10000; decide⟩;refine ⟨ZL,⟨?_,?_,h2,?_,h4,?_,XC,.inl ⟨rfl,rfl⟩⟩,?_⟩<;>simp only [MP]
 .omega
 .omega
 .omega
 .omega
 .rcases h1 with rfl|rfl
  .exact ⟨_,rfl,hs 0 ZL ZL⟩
  .exact ⟨_,rfl,hs 1 ZL ZL⟩
theorem XK (h:(a=0\/a=1)/\0<=b/\b<=100/\0<=t/\t<=1000:=by decide):(T1 recs).Fit (MP a b t):=⟨U5 h,by
 rcases h.1 with rfl|rfl
 .show (0:Int)<2; decide
 .show (1:Int)<2; decide⟩
theorem ok1 (h:recs.length<400) (hf:(a=0\/a=1)/\0<=b/\b<=100/\0<=t/\t<=1000:=by decide):(T1 recs).addE (MP a b t)=0:=by
 unfold TrS.addE;rw [if_pos ⟨F6,XK hf⟩,if_pos (.inr h)]
theorem add1 {l:List Rc} (h:recs.length<400) (hi:eZ recs (MP a b t)=l) (hf:(a=0\/a=1)/\0<=b/\b<=100/\0<=t/\t<=1000:=by decide):(T1 recs).add (MP a b t)=T1 l:=by
 unfold TrS.add;rw [if_pos (ok1 h hf),<-hi];rfl
theorem TB {a b:Rc} (h:a.time≠b.time):a≠b:=λe=>h (by rw [e])
theorem aX:(T1 []).add r0=T1 [r0]:=add1 ZL (by
 unfold eZ;rw [if_neg ZM];rfl)
theorem aY:(T1 [r0]).add r1=T1 [r0,r1]:=add1 ZL (by
 unfold eZ;rw [if_neg (by
  rw [List.mem_singleton];exact TB ZL)]
 kernel_rfl)
theorem aZ:(T1 [r0,r1]).add r1=T1 [r0,r1]:=add1 ZL (by
 unfold eZ;rw [if_pos (by simp [r1])])
theorem aW:(T1 [r0,r1]).add r2=T1 [r0,r1,r2]:=add1 ZL (by
 unfold eZ;rw [if_neg (by
  simp only [List.mem_cons,List.not_mem_nil,or_false,not_or];exact ⟨TB ZL,TB ZL⟩)]
 kernel_rfl)
def x0:Ev:=⟨0,475,485,[0]⟩
def x1:Ev:=⟨1,595,605,[1]⟩
def x2:Ev:=⟨1,477,487,[2]⟩
theorem NU {l:List Sc} {lab:ByteArray} {e:Ev} (h: ∀x∈r,x.cont= []/\Val l x/\x.label=lab):Fol l r lab e↔ ∃i x,r[i]?=some x/\e=kM l x (dN [i]):=by
 constructor
 .rintro ⟨c,a,i,x,h1,h2,_,_,h5⟩
  cases h1 with
  | nil=>exact ⟨i,x,h2,h5⟩
  | snoc _ q2 _ q4=>rw [(h _ (ZF q2)).1] at q4; cases q4
 .rintro ⟨i,x,h1,h2⟩;have:=h x (ZF h1);exact ⟨[],lab,i,x,.nil,h1,this.2.1,this.2.2,h2⟩
theorem yj (h: ∀x∈r,∃a b t:Int,x=MP a b t/\(a=0\/a=1)/\0<=b/\b<=100/\0<=t/\t<=1000) (hs:SrtE E) (hE: ∀e,e∈E↔ ∃i x,r[i]?=some x/\e=kM L1 x (dN [i])) (hl:E.length<=14):((T1 r).ans (kH 65)).evs=E:=by
 show (canon (nV L1 r (kH 65))).take 14=E;rw [<-tT hs λe=> ?_,List.take_of_length_le hl];rw [hE,mem_folL,NU];intro x hx;obtain ⟨a,b,t,rfl,h⟩:=h x hx;exact ⟨rfl,U5 h,rfl⟩
theorem YT:((T1 [r0]).ans (kH 65)).evs= [x0]:=yj (λx hx=>⟨0,0,480,List.mem_singleton.1 hx,ZL⟩) (List.pairwise_singleton _ _) (λe=>by
 constructor
 .intro he;exact ⟨0,r0,rfl,List.mem_singleton.1 he⟩
 .rintro ⟨i,x,h1,rfl⟩
  match i,h1 with
  | 0,h1=>cases h1; exact List.mem_singleton.2 rfl) ZL
theorem YS:((T1 [r0,r1]).ans (kH 65)).evs= [x0,x1]:=yj (λx hx=>by
 simp only [List.mem_cons,List.not_mem_nil,or_false] at hx;rcases hx with rfl|rfl
 .exact ⟨0,0,480,rfl,ZL⟩
 .exact ⟨1,0,600,rfl,ZL⟩) (by simp [SrtE,uD]; decide) (λe=>by
 constructor
 .intro he;simp only [List.mem_cons,List.not_mem_nil,or_false] at he;rcases he with rfl|rfl
  .exact ⟨0,r0,rfl,rfl⟩
  .exact ⟨1,r1,rfl,rfl⟩
 .rintro ⟨i,x,h1,rfl⟩
  match i,h1 with
  | 0,h1=>cases h1; exact List.mem_cons_self
  | 1,h1=>cases h1; exact List.mem_cons_of_mem _ List.mem_cons_self) ZL
theorem YR:((T1 [r0,r1,r2]).ans (kH 65)).evs= [x0,x2,x1]:=yj (λx hx=>by
 simp only [List.mem_cons,List.not_mem_nil,or_false] at hx;rcases hx with rfl|rfl|rfl
 .exact ⟨0,0,480,rfl,ZL⟩
 .exact ⟨1,0,600,rfl,ZL⟩
 .exact ⟨1,1,482,rfl,ZL⟩) (by simp [SrtE,uD]; decide) (λe=>by
 constructor
 .intro he;simp only [List.mem_cons,List.not_mem_nil,or_false] at he;rcases he with rfl|rfl|rfl
  .exact ⟨0,r0,rfl,rfl⟩
  .exact ⟨2,r2,rfl,rfl⟩
  .exact ⟨1,r1,rfl,rfl⟩
 .rintro ⟨i,x,h1,rfl⟩
  match i,h1 with
  | 0,h1=>cases h1; simp; exact .inl rfl
  | 1,h1=>cases h1; simp; exact .inr (.inr rfl)
  | 2,h1=>cases h1; simp; exact .inr (.inl rfl)) ZL
theorem SH:WfD d1:=by
 have two: ∀i,i<List.length d1->i=0\/i=1:=λi hi=>by simp [d1] at hi; omega
 refine ⟨ZL,λi r hr=> ?_,ZL,λi j hi hj=> ?_,λi k j hi hk hj=> ?_⟩;rotate_left
 .rcases two i hi with rfl|rfl<;>rcases two j hj with rfl|rfl<;>decide
 .rcases two i hi with rfl|rfl<;>rcases two j hj with rfl|rfl<;>rcases two k hk with rfl|rfl<;>decide
 match i,hr with
 | 0,hr=>cases hr; rfl
 | 1,hr=>cases hr; rfl
 | i+2,hr=>simp [d1] at hr
theorem Ud {e:Ev} (h:e.office=0\/e.office=1):EOK d1 e:=by
 have:List.length d1=2:=rfl;rcases h with h|h<;>exact ⟨ZJ,ZJ⟩
theorem ex1 {d:bD} {a:Ev} {R:List ET->Prop}:(∃l:List ET,l.map (·.1)= [a]/\HoldsN d l/\R l)↔ ∃t,wR a t/\R [(a,t)]:=by
 constructor
 .rintro ⟨l,hl,h,hR⟩;obtain ⟨x,rfl⟩: ∃x,l= [x]:=List.length_eq_one_iff.1 (by have:=congrArg List.length hl; simpa using this);simp at hl;subst hl;exact ⟨x.2,h.each _ ZM,hR⟩
 .rintro ⟨t,h,hR⟩;exact ⟨[(a,t)],rfl,⟨λx hx=>by rw [List.mem_singleton.1 hx]; exact h,List.pairwise_singleton _ _⟩,hR⟩
theorem ex2 {d:bD} {a b:Ev} {R:List ET->Prop}:(∃l:List ET,l.map (·.1)= [a,b]/\HoldsN d l/\R l)↔ ∃t u,wR a t/\wR b u/\(zu d (a,t) (b,u)\/zu d (b,u) (a,t))/\R [(a,t),(b,u)]:=by
 constructor
 .rintro ⟨l,hl,h,hR⟩;obtain ⟨x,y,rfl⟩: ∃x y,l= [x,y]:=by
   match l,hl with
   | [x,y],_=>exact ⟨x,y,rfl⟩
  obtain ⟨rfl,rfl⟩:=hl;exact ⟨x.2,y.2,h.each _ ZM,h.each _ ZM,by have:=h.two; simpa using this,hR⟩
 .rintro ⟨t,u,h1,h2,h3,hR⟩;exact ⟨[(a,t),(b,u)],rfl,⟨λx hx=>by
   simp only [List.mem_cons,List.not_mem_nil,or_false] at hx;rcases hx with rfl|rfl
   .exact h1
   .exact h2,by simpa using h3⟩,hR⟩
theorem Bc {d:bD} (h: ∃a:List ET,a.map (·.1)=l/\HoldsN d a/\True):Poss d l:=by
 obtain ⟨a,h1,h2,_⟩:=h;exact ⟨a,h1,h2⟩
theorem Xq:Poss d1 [x0]:=Bc (ex1.2 ⟨480,by simp [wR,x0],trivial⟩)
theorem Xp:Poss d1 [x0,x1]:=Bc (ex2.2 ⟨480,600,by simp [wR,x0],by simp [wR,x1],.inl (by simp [zu,at2,d1,x0,x1]),trivial⟩)
theorem Xr:Poss d1 [x2,x1]:=Bc (ex2.2 ⟨482,600,by simp [wR,x2],by simp [wR,x1],.inl (by simp [zu,at2,d1,x2,x1]),trivial⟩)
theorem Vg: ¬Poss d1 [x0,x2,x1]:=by
 rintro ⟨l,hl,h⟩;obtain ⟨a,b,l,rfl⟩: ∃a b m,l=a::b::m:=by
  rcases l with _|⟨a,_|⟨b,l⟩⟩
  .cases hl
  .simp at hl
  .exact ⟨a,b,l,rfl⟩
 simp at hl;obtain ⟨h1,h2,_⟩:=hl;obtain ⟨a,t⟩:=a;obtain ⟨b,u⟩:=b;subst h1 h2;have q1:=h.each (x0,t) ZM;have q2:=h.each (x2,u) ZM;have q3:=(List.pairwise_cons.1 h.two).1 (x2,u) ZM;simp [x0,x2,zu,at2,d1] at q1 q2 q3;omega
theorem Ju (h: ∀e∈l,(e.office=0\/e.office=1)/\ ∀r∈e.needs,0<=r) (hl:l.length<=14):WfP d1 l:=⟨SH,hl,λe he=>Ud (h e he).1,λe he=>(h e he).2⟩
theorem Yf (h: ∀e∈E,(e.office=0\/e.office=1)/\ ∀r∈e.needs,0<=r) (hl:E.length<=14) (hr:(aQ E).length<=14) (hp:Poss d1 E):bA d1 E 0= [[]]/\bU d1 E 0=0:=by
 have h1:bA d1 E 0= [[]]:=by
  unfold bA;rw [if_pos ⟨aC (Ju h hl),ZL,ZL,hr⟩];have e:bZ (aQ E) (min (0:Int).toNat (aQ E).length)= [[]]:=by
   show bZ (aQ E) (min 0 _)=_;cases aQ E<;>rfl
  rw [e,List.filter_cons_of_pos]
  .rfl
  .refine aC ?_;have:bL E []=E:=List.filter_eq_self.2 λe _=>by simp [gone]
   rw [this];exact hp
 refine ⟨h1,?_⟩;unfold bU;rw [if_pos ⟨aC (Ju h hl),ZL,ZL⟩,if_pos hr,if_neg (by rw [h1]; simp)]
theorem wsX:bA d1 [x0] 0= [[]]/\bU d1 [x0] 0=0:=Yf (by simp [x0]) ZL ZL Xq
theorem wsY:bA d1 [x0,x1] 0= [[]]/\bU d1 [x0,x1] 0=0:=Yf (by simp [x0,x1]) ZL ZL Xp
theorem QA: ∀e∈ [x0,x2,x1],(e.office=0\/e.office=1)/\ ∀r∈e.needs,0<=r:=by simp [x0,x1,x2]
theorem YM:bU d1 [x0,x2,x1] 0=280:=by
 unfold bU;rw [if_pos ⟨aC (Ju QA ZL),ZL,ZL⟩,if_pos ZL,if_pos];unfold bA;rw [if_pos ⟨aC (Ju QA ZL),ZL,ZL,ZL⟩];show ([[]]:List (List Int)).filter _=_;rw [List.filter_cons_of_neg]
 .rfl
 .rw [show bL [x0,x2,x1] []= [x0,x2,x1] from rfl,aG Vg];decide
theorem YQ:fI d1 [x0,x2,x1]=some [0]:=by
 unfold fI;rw [show oH (aQ [x0,x2,x1])= []:: [0]::(oH (aQ [x0,x2,x1])).drop 2 from rfl,List.find?_cons_of_neg,List.find?_cons_of_pos]
 .exact aC Xr
 .rw [show bL [x0,x2,x1] []= [x0,x2,x1] from rfl,aG Vg];decide
theorem exZ:jy d1 [x0,x2,x1]=0/\iV d1 [x0,x2,x1]= [0]:=by
 unfold jy iV;rw [if_pos (aC (Ju QA ZL)),if_pos ZL,if_pos ⟨aC (Ju QA ZL),ZL⟩,YQ];exact ⟨rfl,rfl⟩
theorem U2 {r:List Ev} (hr: ∀e∈r,e.office=0\/e.office=1) (hl:r.length<=8):WfE d1 r:=⟨SH,ZJ,λe he=>Ud (hr e he)⟩
section
variable {E:List Ev}
theorem Wn (hE: ∀e∈E,e.office=0\/e.office=1) (hl:E.length<=2) {o f:Int} (ho:o=0\/o=1):(Knd.at o f t).b d1 E=dec (∃τ,f<=τ/\τ<=t/\PV d1 E o τ):=yw (at_iff.trans ((and_iff_right (U2 (λe he=>by
 rcases ZH he with he|he
 .exact hE e he
 .rw [List.mem_singleton.1 he]; exact ho) ZO)).trans dec_iff.symm))
theorem Vj (hE: ∀e∈E,e.office=0\/e.office=1) (hl:E.length<=2) {l:Li} (h:l=liX\/l=liY):(Knd.on l t).b d1 E=dec (PossJ d1 E (Bj l t) (BX l t) l.trav):=yw (on_iff.trans ((and_iff_right (U2 (λe he=>by
 rcases ZH he with he|he
 .exact hE e he
 .simp only [List.mem_cons,List.not_mem_nil,or_false] at he;rcases he with rfl|rfl<;>rcases h with rfl|rfl<;>simp [Bj,BX,liX,liY]) ZO)).trans dec_iff.symm))
theorem MS (hE: ∀e∈E,e.office=0\/e.office=1) (hl:E.length<=2):lI N1 d1 E [[]] 500=(if dec (∃τ,500<=τ/\τ<=500/\PV d1 E 0 τ)=true then [(0,-1)] else [])++((if dec (∃τ,500<=τ/\τ<=500/\PV d1 E 1 τ)=true then [(1,-1)] else [])++((if dec (PossJ d1 E (Bj liX 500) (BX liX 500) liX.trav)=true then [(-1,0)] else [])++(if dec (PossJ d1 E (Bj liY 500) (BX liY 500) liY.trav)=true then [(-1,1)] else []))):=by
 rw [IC ⟨Mk,⟨ZJ,ZL,SH,λe he=>Ud (hE e he)⟩,rfl,ZL,ZL⟩];have can1: ∀k,uU d1 (eD E [[]]) k=k.b d1 E:=λk=>by
  have:bL E []=E:=List.filter_eq_self.2 λe _=>by simp [gone]
  show ([bL E []].any (k.b d1))=_;rw [this];simp
 unfold xh;simp only [can1];rw [<-Wn hE hl (.inl rfl),<-Wn hE hl (.inr rfl),<-Vj hE hl (.inl rfl),<-Vj hE hl (.inr rfl)];show (List.filter (λp:Cm×Knd=>p.2.b d1 E) [((0,-1),.at 0 500 500),((1,-1),.at 1 500 500),((-1,0),.on liX 500),((-1,1),.on liY 500)]).map (·.1)=_;simp only [List.filter];cases (Knd.at 0 500 500).b d1 E<;>cases (Knd.at 1 500 500).b d1 E<;>cases (Knd.on liX 500).b d1 E<;>cases (Knd.on liY 500).b d1 E<;>rfl
end
theorem WE {a b:Ev} {g:Int}:PossJ d1 E a b g↔uy d1 a b g/\ ∃t,wR a t/\wR b (t+g)/\ ∃l:List ET,l.map (·.1)=E/\HoldsN d1 l/\ ∀x∈l,zu d1 x (a,t)\/zu d1 (b,t+g) x:=by
 refine and_congr_right λ_=> ?_;constructor
 .rintro ⟨l,t,hl,h,h2,h3,h4⟩;exact ⟨t,h2,h3,l,hl,h,h4⟩
 .rintro ⟨t,h2,h3,l,hl,h,h4⟩;exact ⟨l,t,hl,h,h2,h3,h4⟩
theorem Xh:lI N1 d1 [x0] [[]] 500= [(0,-1),(-1,0)]:=by
 rw [MS ZL ZL,aC,aG,aC,aG]
 .rfl
 .rw [WE];simp only [ex1];simp [wR,zu,at2,d1,Bj,BX,liY,x0];omega
 .rw [WE];simp only [ex1];simp [uy,wR,zu,at2,d1,Bj,BX,liX,x0];exact ⟨480,ZJ,ZJ,480,ZJ⟩
 .unfold PV;simp only [ex1];simp [wR,Ww,WT,at2,d1,x0];omega
 .refine ⟨500,ZL,ZL,?_⟩;unfold PV;simp only [ex1];simp [wR,Ww,at2,d1,x0];exact ⟨480,ZJ⟩
theorem Xg:lI N1 d1 [x0,x1] [[]] 500= [(-1,0)]:=by
 rw [MS ZL ZL,aG,aG,aC,aG]
 .rfl
 .rw [WE];simp only [ex2];simp [wR,zu,at2,d1,Bj,BX,liY,x0];omega
 .rw [WE];simp only [ex2];simp [uy,wR,zu,at2,d1,Bj,BX,liX,x0,x1];exact ⟨480,ZJ,ZJ,480,ZJ,600,ZJ⟩
 .unfold PV;simp only [ex2];simp [wR,Ww,WT,at2,d1,x0];omega
 .unfold PV;simp only [ex2];simp [wR,Ww,WT,at2,d1,x1];omega
theorem Un {er:Int} (h:((T1 r).ans (kH 65)).evs=E) (hw:bA d1 E 0=ws) (he:bU d1 E 0=er):(T1 r).ans (kH 65)=⟨E,ws,er⟩:=by
 have h':bX L1 r (kH 65)=E:=h;show Ans.mk (bX L1 r (kH 65)) (bA (eU N1) (bX L1 r (kH 65)) 0) (bU (eU N1) (bX L1 r (kH 65)) 0)=_;rw [Oo,h',hw,he]
theorem Td {A:Ans} (h:(T1 r).ans (kH 65)=A):(T1 r).qE (kH 65)=A.err:=by
 unfold TrS.qE;rw [if_pos (aC F6),h]
theorem sayX:(T1 [r0]).qE (kH 65)=0/\(T1 [r0]).qP (kH 65) 500= [(0,-1),(-1,0)]:=by
 have h:=Un YT wsX.1 wsX.2;have e:=Td h;refine ⟨e,?_⟩;unfold TrS.qP;rw [if_pos e,h];show lI N1 (eU N1) _ _ _=_;rw [Oo];exact Xh
theorem sayY:(T1 [r0,r1]).qE (kH 65)=0/\(T1 [r0,r1]).qP (kH 65) 500= [(-1,0)]/\(T1 [r0,r1]).qV (kH 65)= [x0,x1]/\(T1 [r0,r1]).qW (kH 65)= [[]]:=by
 have h:=Un YS wsY.1 wsY.2;have e:=Td h;unfold TrS.qP TrS.qV TrS.qW;rw [if_pos e,if_pos e,if_pos e,h];refine ⟨e,?_,rfl,rfl⟩;show lI N1 (eU N1) _ _ _=_;rw [Oo];exact Xg
theorem sayZ:(T1 [r0,r1,r2]).qE (kH 65)=280/\(T1 [r0,r1,r2]).xE (kH 65)=0/\(T1 [r0,r1,r2]).xR (kH 65)= [r0]:=by
 have h:=Un YR rfl YM;have e:(T1 [r0,r1,r2]).xE (kH 65)=0:=by
  unfold TrS.xE;rw [if_pos (aC F6),h];show jy (eU N1) _=_;rw [Oo];exact exZ.1
 refine ⟨Td h,e,?_⟩;unfold TrS.xR;rw [if_pos e,h];show (iV (eU N1) [x0,x2,x1]).map _=_;rw [Oo,exZ.2];rfl
theorem Wm:(T1 recs).addE ⟨0,0,0,0,⟨#[]⟩,[]⟩=1:=if_neg λh=>by have:1<=0:=h.2.1.comp.lab.1; omega
theorem XV:TrS.addE ⟨N1,L1,4,[]⟩ x=1:=if_neg λh=>by have:=h.1.m3; simp at this
end
theorem uG   :
  Gives prog 39 #[ZU a,ZU b,ZU t] w λu g=>ZT w g/\u= .agg (iY ⟨a,b,1,t,⟨#[65]⟩,[]⟩ (.slice none 0 0)).toArray:=by
 refine gw func39 ntmps39 ?_;refine na Jt λi j c=> ?_;refine eG (iY ⟨a,b,1,t,⟨#[65]⟩,[]⟩ (.slice none 0 0)) rfl ?_;refine rn ?_;refine sb rfl c.blk (λk d e h=> ?_);exact rc rfl d ⟨But.below c.below e (by have:=c.at_; omega),rfl⟩
theorem zY {l:List ByteArray} {s:ByteArray} (hl:SL eB F w v l) :
  Gives prog 29 #[v,.string s] w λu j=>ZT w j/\u= .bool (dec (s∈l)):=by
 obtain ⟨A,m,rfl,_⟩:=hl.form;have g:=hl.len.2.2;refine gw func29 ntmps29 ?_;refine rn ?_;refine dC [0,1] (λk:Nat=> [(5,none,ZU (k:Int))]) (λk W=>k<=l.length/\ZT w W/\s ∉ l.take k) (λk=>l.length-k) 0 ⟨ZB,ZA,ZM⟩ ?_;rintro k W ⟨q,c,a⟩;refine rn ?_;refine cd rfl (λn=> ?_) λo=> ?_
 .have b:k<l.length:=ZJ;have r:l[k]?=some l[k]:=ZD b;have p:=hl.below c;refine rn ?_;refine iE rfl (λd=> ?_) λd=> ?_
  .have e:l[k]=s:=by
    have i:=eq_of_beq d;rw [toList_data,toList_data] at i;exact ByteArray.ext (Array.toList_inj.1 i)
   exact aO rfl ⟨c,by rw [aC (e ▸ List.getElem_mem b)]⟩
  .have e: ¬l[k]=s:=λe=>by
    rw [e] at d;simp at d
   refine rn ?_;refine dB (k+1) ⟨b,c,λh=> ?_⟩;rw [<-List.take_append_getElem b] at h;rcases ZH h with h|h
   .exact a h
   .exact e (List.mem_singleton.1 h).symm
 .refine aO rfl ⟨c,?_⟩;rw [List.take_of_length_le ZJ] at a;rw [aG a]
end Go.Proofs.YtoleahhfkpkcjaaGreatDoor
namespace Go.PF
open Go.RowKit
section
open Go
theorem Vb {N:Nat} {E:Env} {fn:Func} {s y:Nat} {t:TypeId} {g:Nat} [Sr P t n] (h:(fn.results,look E y,look E s)=(#[.cell y t,.tmp s],some (none,.pointer (some ⟨g,0,none⟩)),some (none,v))) (hB:Blk w g t1 cs) (hR:R (.tuple #[.agg cs.toArray,v]) w) (hn:cs.length=n:=by rfl) :
  KW N [] (bodyPost P fn (λe w'=> ∃v,e= .returned v/\R v w') .ret) E w:=λa ha=>by
 simp only [Prod.mk.injEq] at h;obtain ⟨fs,hu⟩:=Sr.u (P:=P) (t:=t);refine bodyPost_ret ?_ ha.defers ⟨_,rfl,hR⟩;have e1:=(ha.slots s none _ h.2.2).1 trivial;have e2:=(ha.slots y none _ h.2.1).1 trivial;simp only [Array.getD_eq_getD_getElem?] at e1 e2;simp [results,h.1,e1,e2,asAddr,jC hu (hn ▸ Sr.s) (λj v hj=>hB.fld hj)]
end
end Go.PF
namespace Go.Proofs.YtoleahhfkpkcjaaGreatDoor
open Go.Proofs.Tryz
open Go.PF Go.RowKit Go.Ord
attribute [local irreducible] TW CW KW DW
theorem s1 (n:UInt8):(kH n).size<=9223372036854775807:=by show 1<=_; decide
theorem KM:Gives prog 38 #[] w λu w'=>ZT w w'/\ ∃(v:NV) (lv:Value),u= .tuple #[.agg v.cells.toArray,lv]/\ig w' v N1/\SS w' lv L1:=by
 refine gw func38 ntmps38 ?_;refine na PE λg0 w0 f0=> ?_;refine bs _ Sk rfl λgw wA fA=> ?_;refine eG [ZU 0,.slice (some ⟨gw,0,none⟩) 7 7,.slice none 0 0] rfl ?_;refine bs _ VI rfl λg5 w5 f5=> ?_;refine bs _ wB rfl λg6 w6 f6=> ?_;refine eG [.string (kH 112)] rfl ?_;refine bs _ VG rfl λg7 w7 f7=> ?_;refine eG [.slice (some ⟨g5,0,none⟩) 1 1,.slice (some ⟨g6,0,none⟩) 1 1,.slice (some ⟨g7,0,none⟩) 1 1,.slice none 0 0,.slice none 0 0,.slice none 0 0] rfl ?_;refine Go.PF.nv PE rfl λg2 w8 f8=> ?_;refine eG (Tw Vl (.slice none 0 0)) rfl ?_;refine eG (Tw Vk (.slice none 0 0)) rfl ?_;refine bs _ VF rfl λg12 w9 f9=> ?_;refine sf rfl (f8.blk.next f9.below) λw10 hB10 hb10 hs10=> ?_;refine eG (Ks liX) rfl ?_;refine eG (Ks liY) rfl ?_;refine bs _ VE rfl λg16 w11 f11=> ?_;refine sf rfl (hB10.next f11.below) λw12 hB12 hb12 hs12=> ?_;refine eG (K6 ⟨kH 107,1020,720⟩) rfl ?_;refine bs _ VD rfl λg19 w13 f13=> ?_;refine sf rfl (hB12.next f13.below) λw14 hB14 hb14 hs14=> ?_;refine eG [ZU 0,ZU 0,ZU 5] rfl ?_;refine eG [ZU 0,ZU 1,ZU 5] rfl ?_;refine bs _ VC rfl λg24 w15 f15=> ?_;have y0:=f0.at_;have z0:=f0.size;have zA:=fA.below.size;have z5:=f5.below.size;have z6:=f6.below.size;have z7:=f7.below.size
 have y8:=f8.at_;have z8:=f8.size;have z9:=f9.below.size;have z11:=f11.below.size;have z13:=f13.below.size;have z15:=f15.below.size;have b8:ZT w0 w8:=fA.below.step (f5.below.step (f6.below.step (f7.below.step f8.below)));have b10:=But.below (b8.step f9.below) hb10 ZJ;have b12:=But.below (b10.step f11.below) hb12 ZJ;have b14:=But.below (b12.step f13.below) hb14 ZJ;have b15:=b14.step f15.below;refine sb rfl (f0.blk.next b15) (λw16 hB16 hb16 hs16=> ?_);have k15: ∀ {g:Nat} {t:TypeId} {cs:List Value},Blk w15 g t cs->g≠g0->Blk w16 g t cs:=λh a=>hb16.blk h a;have k13: ∀ {g:Nat} {t:TypeId} {cs:List Value},Blk w13 g t cs->g≠g0->g≠g2->Blk w16 g t cs:=λh a b=>k15 ((hb14.blk h b).next f15.below) a;have k11: ∀ {g:Nat} {t:TypeId} {cs:List Value},Blk w11 g t cs->g≠g0->g≠g2->Blk w16 g t cs:=λh a b=>k13 ((hb12.blk h b).next f13.below) a b;have k9: ∀ {g:Nat} {t:TypeId} {cs:List Value},Blk w9 g t cs->g≠g0->g≠g2->Blk w16 g t cs:=λh a b=>k11 ((hb10.blk h b).next f11.below) a b;have yA:=fA.at_;have y5:=f5.at_;have y6:=f6.at_;have y7:=f7.at_;have y9:=f9.at_;have y11:=f11.at_;have y13:=f13.at_;have y15:=f15.at_;have lA:=fA.blk.lt;have l5:=f5.blk.lt;have l6:=f6.blk.lt;have l7:=f7.blk.lt;have l9:=f9.blk.lt
 have l11:=f11.blk.lt;have l13:=f13.blk.lt;have b79:ZT w7 w9:=f8.below.step f9.below;have cw:=k9 (fA.blk.next (f5.below.step (f6.below.step (f7.below.step b79)))) ZJ ZJ;have c5:=k9 (f5.blk.next (f6.below.step (f7.below.step b79))) ZJ ZJ;have c6:=k9 (f6.blk.next (f7.below.step b79)) ZJ ZJ;have c7:=k9 (f7.blk.next b79) ZJ ZJ;have c9:=k9 f9.blk ZJ ZJ;have c11:=k11 f11.blk ZJ ZJ;have c13:=k13 f13.blk ZJ ZJ;have c15:=k15 f15.blk ZJ;have hI: ∀x:Int,-1000000<=x->x<=1000000->fE x:=λx h1 h2=>⟨ZJ,ZJ⟩;have hwk:=kV (T:=boolT) [([.bool true],true),([.bool true],true),([.bool true],true),([.bool true],true),([.bool true],true),([.bool false],false),([.bool false],false)] cw rfl (λp hp=>by
  simp only [List.mem_cons,List.not_mem_nil,or_false] at hp;rcases hp with rfl|rfl|rfl|rfl|rfl|rfl|rfl<;>rfl) ZM
 refine Vb rfl hB16 ⟨But.below (f0.below.step b15) hb16 ZJ,⟨.slice (some ⟨g5,0,none⟩) 1 1,.slice (some ⟨g6,0,none⟩) 1 1,.slice (some ⟨g7,0,none⟩) 1 1,.slice (some ⟨g12,0,none⟩) 2 2,.slice (some ⟨g16,0,none⟩) 2 2,.slice (some ⟨g19,0,none⟩) 1 1⟩,.slice (some ⟨g24,0,none⟩) 2 2,rfl,⟨?_,?_,?_,?_,?_,?_⟩,?_⟩
 .exact kV (T:=calT) [([ZU 0,.slice (some ⟨gw,0,none⟩) 7 7,.slice none 0 0],⟨0,[true,true,true,true,true,false,false],[]⟩)] c5 rfl (λp hp=>by
   rw [List.mem_singleton] at hp;subst hp;exact ⟨_,_,rfl,hI 0 ZJ ZJ,hwk,SL.nil _ _ _⟩) ZM
 .exact kV (T:=eB) [([.string (kH 99)],kH 99)] c6 rfl (λp hp=>by
   rw [List.mem_singleton] at hp;subst hp;exact ⟨rfl,s1 _⟩) ZM
 .exact kV (T:=eB) [([.string (kH 112)],kH 112)] c7 rfl (λp hp=>by
   rw [List.mem_singleton] at hp;subst hp;exact ⟨rfl,s1 _⟩) ZM
 .exact kV (T:=ofT) [(Tw Vl (.slice none 0 0),Vl),(Tw Vk (.slice none 0 0),Vk)] c9 rfl (λp hp=>by
   simp only [List.mem_cons,List.not_mem_nil,or_false] at hp;rcases hp with rfl|rfl<;>exact ⟨_,rfl,s1 _,hI 0 ZJ ZJ,hI 0 ZJ ZJ,hI 2 ZJ ZJ,hI 1 ZJ ZJ,hI 10 ZJ ZJ,SL.nil _ _ _⟩) ZM
 .exact kV (T:=LM) [(Ks liX,liX),(Ks liY,liY)] c11 rfl (λp hp=>by
   simp only [List.mem_cons,List.not_mem_nil,or_false] at hp;rcases hp with rfl|rfl
   .exact ⟨rfl,s1 _,hI 0 ZJ ZJ,hI 1 ZJ ZJ,hI 480 ZJ ZJ,hI 120 ZJ ZJ,hI 1 ZJ ZJ⟩
   .exact ⟨rfl,s1 _,hI 1 ZJ ZJ,hI 0 ZJ ZJ,hI 600 ZJ ZJ,hI 60 ZJ ZJ,hI 1 ZJ ZJ⟩) ZM
 .exact kV (T:=zl) [(K6 ⟨kH 107,1020,720⟩,⟨kH 107,1020,720⟩)] c13 rfl (λp hp=>by
   rw [List.mem_singleton] at hp;subst hp;exact ⟨rfl,s1 _,hI 1020 ZJ ZJ,hI 720 ZJ ZJ⟩) ZM
 .exact kV (T:=yV) [([ZU 0,ZU 0,ZU 5],⟨0,0,5⟩),([ZU 0,ZU 1,ZU 5],⟨0,1,5⟩)] c15 rfl (λp hp=>by
   simp only [List.mem_cons,List.not_mem_nil,or_false] at hp;rcases hp with rfl|rfl<;>exact ⟨rfl,hI _ ZL ZL,hI _ ZL ZL,hI _ ZL ZL⟩) ZM
section
structure TrTwo (w0 w:World) (pa:Nat) (Sa:TrS) (pb:Nat) (Sb:TrS) (Ma Fa Mb Fb:Nat->Prop):Prop where
 bel:ZT w0 w
 a:TrA Ma Fa w pa Sa
 b:TrA Mb Fb w pb Sb
 ab: ∀k,Ma k-> ¬Fb k
 ba: ∀k,Mb k-> ¬Fa k
 am: ∀k,Ma k->w0.heap.size<=k
 bm: ∀k,Mb k->w0.heap.size<=k
section
variable {w0 w w':World} {pa pb:Nat} {Sa Sb S:TrS} {Ma Fa Mb Fb:Nat->Prop} {s:ByteArray} {t:Int}
theorem TrTwo.swap (h:TrTwo w0 w pa Sa pb Sb Ma Fa Mb Fb):TrTwo w0 w pb Sb pa Sa Mb Fb Ma Fa:=⟨h.bel,h.b,h.a,h.ba,h.ab,h.bm,h.am⟩
theorem TrTwo.goA (h:TrTwo w0 w pa Sa pb Sb Ma Fa Mb Fb) (c:Chg Ma w w') (t:TrA Ma (Gr Fa w w') w' pa Sa):TrTwo w0 w' pa Sa pb Sb Ma (Gr Fa w w') Mb Fb :=
 ⟨h.bel.trans (c.below h.am h.bel.size),t,h.b.kept c.size λk a=>c.block k (h.b.facts.2.1 k a) λq=>h.ab k q a,h.ab,λk a q=>q.elim (h.ba k a) λq=>by have:=h.b.facts.2.1 k (h.b.facts.1 k a); omega,h.am,h.bm⟩
theorem TrTwo.goB (h:TrTwo w0 w pa Sa pb Sb Ma Fa Mb Fb) (c:Chg Mb w w') (t:TrA Mb (Gr Fb w w') w' pb Sb):TrTwo w0 w' pa Sa pb Sb Ma Fa Mb (Gr Fb w w'):=(h.swap.goA c t).swap
theorem TrTwo.next (h:TrTwo w0 w pa Sa pb Sb Ma Fa Mb Fb) (b:ZT w w'):TrTwo w0 w' pa Sa pb Sb Ma Fa Mb Fb:=⟨h.bel.step b,h.a.later b,h.b.later b,h.ab,h.ba,h.am,h.bm⟩
theorem _root_.Go.PF.Chg.sl {l:List α} (c:Chg M w w') (h:SL T F w v l) (a: ∀k,F k-> ¬M k):SL T F w' v l:=h.mono (c.kept a)
theorem AR (h:TrTwo w0 w pa S pb S Ma Fa Mb Fb) (B:TabI w0) (c:Tabs w0) :
  Gives prog 27 #[.pointer (some ⟨pa,0,none⟩),.pointer (some ⟨pb,0,none⟩),.string s,ZU t] w λu W=>u= .bool true/\ ∃I J,TrTwo w0 W pa S pb S Ma I Mb J:=by
 have o: ∀k,Ma k->k<w.heap.size:=λk c=>h.a.facts.2.1 k (h.a.facts.1 k c);have m: ∀k,Mb k->k<w.heap.size:=λk c=>h.b.facts.2.1 k (h.b.facts.1 k c);refine gw func27 ntmps27 ?_;refine rn ?_;refine aM rfl (lN (s:=s) (B.below h.bel) h.a) ?_;rintro _ w1 ⟨U,Y,x1,y1,rfl,d,g⟩;have K:=h.goA U Y;have z1:=U.size;refine rn ?_;refine aM rfl (lN (s:=s) (B.below K.bel) K.b) ?_;rintro _ w2 ⟨E,Z,x2,y2,rfl,i,j⟩;have F:=K.goB E Z;have z2:=E.size;have d:=E.sl d λk c q=>by have:=m k q; omega
 have g:=E.sl g λk c q=>by have:=m k q; omega
 refine rn ?_;refine aM rfl (pV (s:=s) (t:=t) (B.below F.bel) (c.below F.bel) F.a) ?_;rintro _ w3 ⟨A,t3,p1,rfl,l⟩;have G:=F.goA A t3;have z3:=A.size;have d:=A.sl d λk c q=>by have:=o k q; omega
 have g:=A.sl g λk c q=>by have:=o k q; omega
 have i:=A.sl i λk c q=>by have:=o k q; omega
 have j:=A.sl j λk c q=>by have:=o k q; omega
 refine rn ?_;refine aM rfl (pV (s:=s) (t:=t) (B.below G.bel) (c.below G.bel) G.b) ?_;rintro _ w4 ⟨x,t4,p2,rfl,n⟩;have L:=G.goB x t4;have z4:=x.size;have d:=x.sl d λk c q=>by have:=m k q; omega
 have g:=x.sl g λk c q=>by have:=m k q; omega
 have i:=x.sl i λk c q=>by have:=m k q; omega
 have j:=x.sl j λk c q=>by have:=m k q; omega
 have l:=x.sl l λk c q=>by have:=m k q; omega
 refine rn ?_;refine aM rfl (jZ (s:=s) (B.below L.bel) L.a) ?_;rintro _ w5 ⟨r,t5,r1,rfl,y⟩;have M:=L.goA r t5;have z5:=r.size;have d:=r.sl d λk c q=>by have:=o k q; omega
 have g:=r.sl g λk c q=>by have:=o k q; omega
 have i:=r.sl i λk c q=>by have:=o k q; omega
 have j:=r.sl j λk c q=>by have:=o k q; omega
 have l:=r.sl l λk c q=>by have:=o k q; omega
 have n:=r.sl n λk c q=>by have:=o k q; omega
 refine rn ?_;refine aM rfl (jZ (s:=s) (B.below M.bel) M.b) ?_;rintro _ w6 ⟨v,t6,r2,rfl,N⟩;have h6:=M.goB v t6;have d:=v.sl d λk c q=>by have:=m k q; omega
 have g:=v.sl g λk c q=>by have:=m k q; omega
 have i:=v.sl i λk c q=>by have:=m k q; omega
 have j:=v.sl j λk c q=>by have:=m k q; omega
 have l:=v.sl l λk c q=>by have:=m k q; omega
 have n:=v.sl n λk c q=>by have:=m k q; omega
 have y:=v.sl y λk c q=>by have:=m k q; omega
 refine rn ?_;have C: ∀e∈S.qV s,e.needs.length<=1000000:=λe H=>by
  unfold TrS.qV at H
  split at H
  .have:=lu e H;omega
  .cases H
 rw [decide_eq_true (p:=S.qE s=S.qE s) rfl];refine bC ?_;refine aL rfl rfl ?_;refine cv rfl (aC (p:=S.qV s=S.qV s) rfl ▸ JO d i C C) λw7 z=> ?_;refine bC ?_;refine aL rfl rfl ?_;refine cv rfl (decide_eq_true (p:=S.qW s=S.qW s) rfl ▸ Iu (g.below z) (j.below z)) λw8 D=> ?_;rw [decide_eq_true (p:=S.qE s=S.qE s) rfl];refine bC ?_;refine aL rfl rfl ?_;refine cv rfl (decide_eq_true (p:=S.qP s t=S.qP s t) rfl ▸ wF (l.below (z.step D)) (n.below (z.step D))) λw9 O=> ?_;rw [decide_eq_true (p:=S.xE s=S.xE s) rfl];refine bC ?_;refine aL rfl rfl ?_;refine cv rfl (aC (p:=S.xR s=S.xR s) rfl ▸ oV (y.below (z.step (D.step O))) (N.below (z.step (D.step O)))) λa0 R=> ?_;exact aO rfl ⟨rfl,_,_,h6.next (z.step (D.step (O.step R)))⟩
end
end
section
theorem uH (h: -10<=a/\a<=10/\ -10<=b/\b<=10/\ -1000<=t/\t<=1000:=by decide):RcOK F w (.slice none 0 0) (MP a b t):=⟨⟨by show _<=a; omega,by show a<=_; omega⟩,⟨by show _<=b; omega,by show b<=_; omega⟩,⟨by show _<=(1:Int); decide,by show (1:Int)<=_; decide⟩,⟨by show _<=t; omega,by show t<=_; omega⟩,by show 1<=_; decide,SL.nil _ _ _⟩
theorem Nj {v:NV} {N:Net} (h:NetIn F w v N):v.cells.all (·.oneCell')=true:=by
 obtain ⟨⟨g,i,a⟩,⟨j,k,b⟩,⟨l,m,c⟩,⟨n,o,d⟩,⟨p,q,e⟩,⟨r,s,f⟩⟩:=NetIn.form h;simp only [NV.cells,a,b,c,d,e,f];rfl
theorem Yi {s:Cm} (h: -10<=s.1/\s.1<=10/\ -10<=s.2/\s.2<=10:=by decide):sptT.rep F w (AY s) s:=⟨rfl,⟨ZJ,ZJ⟩,⟨ZJ,ZJ⟩⟩
section
variable {M F:Nat->Prop} {w:World} {p:Nat} {S S':TrS} {s:ByteArray}
theorem Lm (c:TrA M F w p S) (d:RcOK (λ_=>False) w (.slice none 0 0) x) (he:S.addE x=e) (hs:S.add x=S') :
  Gives prog 25 #[.pointer (some ⟨p,0,none⟩),.agg (iY x (.slice none 0 0)).toArray] w λu a=>Chg M w a/\u= ZU e/\TrA (Gr M w a) (Gr F w a) a p S':=by
 subst he hs;exact vQ c d λk b=>b.elim
theorem FC {l:List Cm} (b:TabI w) (c:Tabs w) (d:TrA M F w p S) (he:S.qE s=e) (hl:S.qP s t=l) :
  Gives prog 15 #[.pointer (some ⟨p,0,none⟩),.string s,ZU t] w λu a=>Chg M w a/\TrA M (Gr F w a) a p S/\ ∃v,u= .tuple #[v,ZU e]/\SL sptT (λk=>w.heap.size<=k/\k<a.heap.size) a v l:=by
 subst he hl;exact pV b c d
theorem QX (d:TabI w) (f:TrA M F w p S) (he:S.qE s=e) (hl:S.qV s=l) (g:S.qW s=ws) :
  Gives prog 13 #[.pointer (some ⟨p,0,none⟩),.string s] w λu a=>Chg M w a/\TrA M (Gr F w a) a p S/\ ∃b c,u= .tuple #[b,c,ZU e]/\SL evT (λk=>w.heap.size<=k/\k<a.heap.size) a b l/\SL (sliceT aT) (λk=>w.heap.size<=k/\k<a.heap.size) a c ws:=by
 subst he hl g;exact lN d f
theorem Ob {l:List Rc} (b:TabI w) (c:TrA M F w p S) (he:S.xE s=e) (hl:S.xR s=l) :
  Gives prog 17 #[.pointer (some ⟨p,0,none⟩),.string s] w λu a=>Chg M w a/\TrA M (Gr F w a) a p S/\ ∃v,u= .tuple #[v,ZU e]/\SL rcT (λk=>w.heap.size<=k/\k<a.heap.size) a v l:=by
 subst he hl;exact jZ b c
end
theorem BB (ht:Tabs w) (hi:TabI w):Gives prog 9 #[] w (ZS w (.bool true)):=by
 refine gw func9 ntmps9 ?_;refine cr rfl KM λu w1 b1 e=> ?_;obtain ⟨v,lv,rfl,a4,be⟩:=e;refine rn ?_;refine Go.PF.nv PE rfl (λg1 b f1=> ?_) (h1:=Nj a4);have b2:=b1.step f1.below;have l:=ht.below b2;have m:=hi.below b2;have a5:=aS a4 f1.below;have a6:=be.step dJ f1.below;have B2:=f1.blk;have z2:=b2.size;clear f1;refine cr rfl (Dt (F0:=λk=>k<b.heap.size) (v:=v) l a5 (λk a=>a) a6 ⟨ZL,ZL⟩) λu w3 b3 e=> ?_;obtain ⟨p,rfl,T3⟩:=e;have T3:TrA _ _ w3 p (T1 []):=T3;have z3:=b3.size;refine rn ?_;refine aP (kJ underlying34) rfl ⟨ct,ct,trivial⟩ (λ_=>trivial) ?_;refine rn ?_;refine bC ?_;refine aL rfl rfl ?_;refine cv rfl uG λw4 b4=> ?_;refine bC ?_;refine aL rfl rfl ?_;refine aM rfl (Lm (T3.later b4) uH (ok1 ZL) aX) ?_;rintro _ w5 ⟨c5,rfl,T5⟩;refine rn ?_;refine cF rfl ?_;have b5:ZT b w5:=(b3.step b4).trans (c5.below (λk a=>a.1) (b3.step b4).size);have z4:=b4.size;have z5:=c5.size;refine aM rfl (FC (t:=500) (m.below b5) (l.below b5) T5 sayX.1 sayX.2) ?_;rintro _ w6 ⟨c6,T6,la,rfl,a7⟩;refine rn ?_;have b6:ZT b w6:=b5.trans (c6.below (λk a=>by simp only [Gr] at a; omega) b5.size);have z6:=c6.size;refine cv rfl uG λw7 b7=> ?_;refine aM rfl (Lm (T6.later b7) uH (ok1 ZL) aY) ?_;rintro _ w8 ⟨c8,rfl,T8⟩
 refine rn ?_;have b8:ZT b w8:=(b6.step b7).trans (c8.below (λk a=>by simp only [Gr] at a; omega) (b6.step b7).size);have z7:=b7.size;have z8:=c8.size;refine bC ?_;refine aL rfl rfl ?_;refine cv rfl uG λw9 b9=> ?_;refine bC ?_;refine aL rfl rfl ?_;refine aM rfl (Lm (T8.later b9) uH (ok1 ZL) aZ) ?_;rintro _ a8 ⟨s,rfl,a9⟩;have n:ZT b a8:=(b8.step b9).trans (s.below (λk a=>by simp only [Gr] at a; omega) (b8.step b9).size);have z9:=b9.size;have c2:=s.size;refine rn ?_;refine cF rfl ?_;refine aM rfl (FC (t:=500) (m.below n) (l.below n) a9 sayY.1 sayY.2.1) ?_;rintro _ aa ⟨x,ab,lb,rfl,L⟩;have y:ZT b aa:=n.trans (x.below (λk a=>by simp only [Gr] at a; omega) n.size);have c3:=x.size;refine rn ?_;refine aM rfl (QX (m.below y) ab sayY.1 sayY.2.2.1 sayY.2.2.2) ?_;rintro _ ac ⟨z,ad,ev,wv,rfl,M,N⟩;have U:ZT b ac:=y.trans (z.below (λk a=>by simp only [Gr] at a; omega) y.size);have c4:=z.size;refine rn ?_;refine cv rfl uG λbf c=> ?_;refine aM rfl (Lm (ad.later c) uH (ok1 ZL) aW) ?_;rintro _ ae ⟨A,rfl,af⟩;have o:ZT b ae:=(U.step c).trans (A.below (λk a=>by simp only [Gr] at a; omega) (U.step c).size);have c7:=c.size;have c9:=A.size;refine rn ?_;refine cF rfl ?_
 refine aM rfl (FC (t:=500) (m.below o) (l.below o) af sayZ.1 rfl) ?_;rintro _ bg ⟨B,ag,lc,rfl,_⟩;have C:ZT b bg:=o.trans (B.below (λk a=>by simp only [Gr] at a; omega) o.size);have ca:=B.size;refine rn ?_;refine aM rfl (Ob (m.below C) ag sayZ.2.1 sayZ.2.2) ?_;rintro _ ah ⟨D,ai,ld,rfl,O⟩;have W:ZT b ah:=C.trans (D.below (λk a=>by simp only [Gr] at a; omega) C.size);have cb:=D.size;refine rn ?_;refine eG (iY ⟨0,0,0,0,⟨#[]⟩,[]⟩ (.slice none 0 0)) rfl ?_;refine aM rfl (Lm ai ⟨⟨ZL,ZL⟩,⟨ZL,ZL⟩,⟨ZL,ZL⟩,⟨ZL,ZL⟩,ZL,SL.nil _ _ _⟩ Wm rfl) ?_;rintro _ E ⟨F,rfl,Y⟩;rw [show (T1 [r0,r1,r2]).add ⟨0,0,0,0,⟨#[]⟩,[]⟩=T1 [r0,r1,r2] by unfold TrS.add; rw [if_neg (by rw [Wm]; decide)]] at Y;have d:ZT b E:=W.trans (F.below (λk a=>by simp only [Gr] at a; omega) W.size);have cc:=F.size;have cd:=B2.next d;refine rn ?_;refine cr rfl (Dt (F0:=λk=>k<E.heap.size) (v:=v) (l.below d) (aS a5 d) (λk a=>a) (a6.step dJ d) ⟨ZL,ZL⟩) λu ce G e=> ?_;obtain ⟨q,rfl,aj⟩:=e;have cf:=G.size;refine cv rfl uG λcg r=> ?_;refine aM rfl (Lm (aj.later r) uH XV rfl) ?_;rintro _ g ⟨Z,rfl,_⟩;have ch:=r.size;have ci:=Z.size;have H:ZT E g:=(G.step r).trans (Z.below (λk a=>a.1) (G.step r).size);have bh:=Y.later H
 obtain ⟨R,j⟩: ∃R:Nat->Prop,∀k,R k↔(b.heap.size<=k/\k<w3.heap.size\/w4.heap.size<=k/\k<w5.heap.size\/w7.heap.size<=k/\k<w8.heap.size\/w9.heap.size<=k/\k<a8.heap.size\/bf.heap.size<=k/\k<ae.heap.size):=⟨_,λ_=>Iff.rfl⟩;have i: ∀k,R k->R k\/w6.heap.size<=k:=λ_ h=> .inl h;have a0:Chg R ah g:=(F.wider λk a=>(j k).2 (by simp only [Gr] at a; omega)).step H;have I:Chg R ac g:=(((Chg.of_below c).trans (A.wider λk a=>(j k).2 (by simp only [Gr] at a; omega)) λ_ h=> .inl h).trans (B.wider λk a=>(j k).2 (by simp only [Gr] at a; omega)) λ_ h=> .inl h).trans ((D.wider λk a=>(j k).2 (by simp only [Gr] at a; omega)).trans a0 λ_ h=> .inl h) λ_ h=> .inl h;have a1:Chg R aa g:=(z.wider λk a=>(j k).2 (by simp only [Gr] at a; omega)).trans I λ_ h=> .inl h;have d6:Chg R w6 g:=((((Chg.of_below b7).trans (c8.wider λk a=>(j k).2 (by simp only [Gr] at a; omega)) λ_ h=> .inl h).step b9).trans (s.wider λk a=>(j k).2 (by simp only [Gr] at a; omega)) λ_ h=> .inl h).trans ((x.wider λk a=>(j k).2 (by simp only [Gr] at a; omega)).trans a1 λ_ h=> .inl h) λ_ h=> .inl h;have ak:=d6.sl a7 λk a q=>by rw [j] at q; omega
 have al:=a1.sl L λk a q=>by rw [j] at q; omega
 have am:=I.sl M λk a q=>by rw [j] at q; omega
 have an:=I.sl N λk a q=>by rw [j] at q; omega
 have ao:=a0.sl O λk a q=>by rw [j] at q; omega
 have ap:ZT w g:=b2.step (d.step H);clear d6 a1 I a0 c5 c6 c8 s x z A B D F Z T3 T5 T6 T8 a9 ab ad af ag ai Y aj a7 L M N O b3 b4 b5 b6 b7 b8 b9 n y U c o C W d G r H;refine rn ?_;refine eG (AY (-1,0)) rfl ?_;refine Go.PF.nv US rfl λcj ck bi=> ?_;refine bC ?_;refine aL rfl rfl ?_;refine eG (AY (0,-1)) rfl ?_;refine rn ?_;refine bC ?_;refine aL rfl rfl ?_;refine bs (AY (0,-1)++AY (-1,0)) Ue rfl λbj aq ar=> ?_;have au:=bi.below.step ar.below;have bk:SL sptT (λk=>k<aq.heap.size) aq (.slice (some ⟨bj,0,none⟩) 2 2) [(0,-1),(-1,0)]:=kV (T:=sptT) [(AY (0,-1),(0,-1)),(AY (-1,0),(-1,0))] ar.blk rfl (λp S=>by
  simp only [List.mem_cons,List.not_mem_nil,or_false] at S;rcases S with rfl|rfl<;>exact Yi) ZM
 refine bC ?_;refine aL rfl rfl ?_;refine cv rfl (decide_eq_true (p:= [((0:Int),(-1:Int)),(-1,0)]= [(0,-1),(-1,0)]) rfl ▸ wF (ak.below au) bk) λcm bl=> ?_;refine bC ?_;refine aL rfl rfl ?_;refine rn ?_;refine bs (AY (-1,0)) Ue rfl λbm av aw=> ?_;have a2:=(au.step bl).step aw.below;have bn:SL sptT (λk=>k<av.heap.size) av (.slice (some ⟨bm,0,none⟩) 1 1) [(-1,0)]:=kV (T:=sptT) [(AY (-1,0),(-1,0))] aw.blk rfl (λp S=>by rw [List.mem_singleton.1 S]; exact Yi) ZM;refine bC ?_;refine aL rfl rfl ?_;refine cv rfl (decide_eq_true (p:= [((-1:Int),(0:Int))]= [(-1,0)]) rfl ▸ wF (al.below a2) bn) λcn ax=> ?_;have c1:=am.below (a2.step ax);refine rn ?_;refine bC ?_;refine aL rfl rfl ?_;refine bQ 3 rfl rfl kN ?_;rintro a3 ay az;have bo:SL aT (λk=>k<ay.heap.size) ay (.slice (some ⟨a3,0,none⟩) 0 0) []:=kV (T:=aT) [] az.blk rfl ZM ZM;refine bC ?_;refine aL rfl rfl ?_;refine bs [.slice (some ⟨a3,0,none⟩) 0 0] Q5 rfl λbq b0 J=> ?_;have ba:=((a2.step ax).step az.below).step J.below;have br:SL (sliceT aT) (λk=>k<b0.heap.size) b0 (.slice (some ⟨bq,0,none⟩) 1 1) [[]]:=kV (T:=sliceT aT) [([.slice (some ⟨a3,0,none⟩) 0 0],[])] J.blk rfl (λp S=>by
  rw [List.mem_singleton.1 S];exact ⟨_,rfl,(bo.below J.below).wider λk a=>Nat.lt_of_lt_of_le a J.below.size⟩) ZM
 refine bC ?_;refine aL rfl rfl ?_;refine cv rfl (decide_eq_true (p:=([[]]:List (List Int))= [[]]) rfl ▸ Iu ((an.below ba).wider λk a=>ZJ) br) λco bt=> ?_;have bu:=ba.step bt;refine bC ?_;refine aL rfl rfl ?_;refine cv rfl uG λcp bv=> ?_;refine bC ?_;refine aL rfl rfl ?_;refine bs (iY r0 (.slice none 0 0)) zi rfl λbw K bb=> ?_;have bc:=(bu.step bv).step bb.below;have bx:SL rcT (λk=>k<K.heap.size) K (.slice (some ⟨bw,0,none⟩) 1 1) [r0]:=kV (T:=rcT) [(iY r0 (.slice none 0 0),r0)] bb.blk rfl (λp S=>by
  rw [List.mem_singleton.1 S];have h:RcOK (λk=>k<K.heap.size) K (.slice none 0 0) r0:=uH;exact ⟨_,rfl,h.i1,h.i2,h.i3,h.i4,h.lb,h.ct⟩) ZM
 refine bC ?_;refine aL rfl rfl ?_;refine cv rfl (aC (p:= [r0]= [r0]) rfl ▸ oV (ao.below bc) bx) λcq bz=> ?_;have bd:=bc.step bz;refine bC ?_;refine aL rfl rfl ?_;refine cr rfl (jl (bh.later bd)) λu cs c0 e=> ?_;exact aO rfl ⟨ap.step (bd.step c0),rfl⟩
end
theorem Jb {y:Rc} (h:S.recs.length<400):x∈(S.add y).recs↔x∈S.recs\/(x=y/\S.Right/\S.Fit y):=by
 unfold TrS.add TrS.addE;by_cases a:S.Right/\S.Fit y
 .rw [if_pos a,if_pos (if_pos (.inr h))];show x∈eZ S.recs y↔_;rw [mem_insertR,or_comm];exact or_congr_right ⟨λe=>⟨e,a⟩,λe=>e.1⟩
 .rw [if_neg a,if_neg ZL];exact ⟨.inl,λh=>h.elim id λh=>absurd h.2 a⟩
theorem Lj {y:Rc}:(S.add y).Right↔S.Right:=by
 obtain ⟨a,b,c⟩:=uf S y;rw [mU,mU,a,b,c]
theorem Rm {y:Rc}:(S.add y).Fit x↔S.Fit x:=by
 obtain ⟨a,b,c⟩:=uf S y;unfold TrS.Fit;rw [a,b]
theorem mY: ∀ {L:List Rc} {S:TrS},S.recs.length+L.length<=400-> ∀ {x:Rc},x∈(S.adds L).recs↔x∈S.recs\/(x∈L/\S.Right/\S.Fit x)
 | [],S,_,x=>by simp [TrS.adds]
 | y::L,S,h,x=>by
  have b:S.recs.length+(L.length+1)<=400:=h;have e:S.adds (y::L)=(S.add y).adds L:=rfl;rw [e,mY (by have:=Jc S y; omega),Jb ZJ,Lj,Rm,List.mem_cons];constructor
  .rintro ((h|⟨rfl,h⟩)|h)
   .exact .inl h
   .exact .inr ⟨.inl rfl,h⟩
   .exact .inr ⟨.inr h.1,h.2⟩
  .rintro (h|⟨rfl|h,a⟩)
   .exact .inl (.inl h)
   .exact .inl (.inr ⟨rfl,a⟩)
   .exact .inr ⟨h,a⟩
theorem Rk {A B:List Rc} (hs:l8 S.recs) (c:S.recs.length+A.length<=400) (hb:S.recs.length+B.length<=400) (h: ∀x,x∈A↔x∈B):S.adds A=S.adds B:=by
 obtain ⟨⟨d,f,g⟩,a,_⟩:=gq S hs A;obtain ⟨⟨i,j,k⟩,b,_⟩:=gq S hs B;have e:(S.adds A).recs=(S.adds B).recs:=sD a b λx=>by rw [mY c,mY hb,h]
 cases l:S.adds A;cases m:S.adds B
 simp_all
theorem TrTwo.addB {w0 w':World} {pa pb:Nat} {Sa Sb S':TrS} {Ma Fa Mb Fb:Nat->Prop} (h:TrTwo w0 w pa Sa pb Sb Ma Fa Mb Fb) (c:Chg Mb w w') (t:TrA (Gr Mb w w') (Gr Fb w w') w' pb S'):TrTwo w0 w' pa Sa pb S' Ma Fa (Gr Mb w w') (Gr Fb w w') :=
 have d:=h.a.facts
 ⟨h.bel.trans (c.below h.bm h.bel.size),h.a.kept c.size λk b=>c.block k (d.2.1 k b) λq=>h.ba k q b,t,λk b q=>q.elim (h.ab k b) λq=>by have:=d.2.1 k (d.1 k b); omega,λk b q=>b.elim (λr=>h.ba k r q) λr=>by have:=d.2.1 k q; omega,h.am,λk b=>b.elim (h.bm k) λr=>Nat.le_trans h.bel.size r.1⟩
theorem RTr.one {nv:NV} {sv rv:Value} {m:Int} (h:RTr F w nv sv rv S):(uJ nv sv m rv).all (·.oneCell')=true:=by
 obtain ⟨⟨j,k,a⟩,⟨l,n,b⟩,⟨o,p,c⟩,⟨q,r,d⟩,⟨s,t,e⟩,⟨u,v,f⟩⟩:=NetIn.form h.net;obtain ⟨_,_,g,_⟩:=h.scn.form;obtain ⟨_,_,i,_⟩:=h.recs.form;simp only [uJ,a,b,c,d,e,f,g,i];rfl
theorem Ov {p q:Prop}:dec (p\/q)=(dec p||dec q):=by
 refine yw ?_;rw [Bool.or_eq_true,dec_iff,dec_iff,dec_iff]
theorem IZ {a b:Rc}:decide (qI a b=0)=dec (a=b):=by rw [dec_decide.symm,bH cmpR_eq]
theorem IB {w0:World} {ps1:List (List Value×Rc)} (hb:ZT w0 w) (i: ∀p∈ps1,rcT.rep F w0 p.1 p.2) (e:ps1.map (·.2)=r) (a:RcOK F w0 xv x)
  (h:OwnS w 57 6 v (0+r.length+1) ([]++ps1.flatMap (·.1)++iY x xv)/\ ∀g,v.ownBlock=some g->w0.heap.size<=g) (hs:r.length<=1000):SR w v (r++ [x]):=by
 have b:ps1.length=r.length:=by have:=congrArg List.length e; simpa using this
 have d:=Ic (T:=rcT) ZL (n:=0+r.length+1) (ps:=ps1++ [(iY x xv,x)]) hb (λq f=>(ZH f).elim (i q) (λh=>by rw [List.mem_singleton] at h; subst h; exact ⟨_,rfl,a.i1,a.i2,a.i3,a.i4,a.lb,a.ct⟩)) (by
  rw [List.flatMap_append];have c:=h.1;rw [List.nil_append] at c;rw [<-b,Nat.add_comm 0] at c ⊢;simpa [rcT,Nat.zero_add] using c) ZO ZO
 rw [List.map_append,e] at d;exact d.now dM
end Go.Proofs.YtoleahhfkpkcjaaGreatDoor
namespace Go.PF
open Go.RowKit
section
open Go.ChangeShapes Go.WideShapes Go.ChangeAt
section
variable {H:Type} {enc:TypeId×Value->H} {P:Program}
def Opens {α:Type} (P:Program) (t:TypeId) (T:Ty α):Prop :=
 ∀ {H:Type} (enc:TypeId×Value->H) (w:World) (base:Nat) (spare:Nat->Bool) (held:Bool) (fuel:Nat) (cs:List Value) (x:DataW H×List MemPlace),DataW.trod enc P w base spare held fuel t cs=some x-> ∃a,T.rep (λ_=>True) w cs a
theorem Opens.slice {t e:TypeId} (N:P.underlying t=some (.slice e)) (hn:P.cellsOf e=T.n) (h:Opens P e T):Opens P t (sliceT T):=by
 intro H p w k f l C O x I;rcases Go.Deep.open_slice N I with ⟨rfl,_⟩|⟨a,c,q,m,n,D,R,rfl,_,S,U,r,_,J⟩
 .exact ⟨[],_,rfl,SL.nil _ _ _⟩
 .have K:c<=m:=by rw [r]; split<;>omega
  have g: ∀i,i<c-> ∃y b,T.rep (λ_=>True) w b y/\ ∀j u,b[j]?=some u->w.cell? ((a.add (i*T.n)).add j)=some u:=by
   intro i d;obtain ⟨b,E,s⟩:=J i ZJ;obtain ⟨y,o⟩:=h p w k f l n b _ s;rw [hn] at E;obtain ⟨_,v,z⟩:=World.cells?_some E;refine ⟨y,b,o,λj u F=> ?_⟩;have A:j<T.n:=by rw [<-v]; exact (ZE F).1
   rw [z j A,F]
  let L:List α:=(List.range c).attach.map λi=>Classical.choose (g i.1 (List.mem_range.1 i.2))
  have B:L.length=c:=by simp [L]
  refine ⟨L,_,rfl,some a,q,by rw [B],ZJ,by rw [B]; have:maxLen=9223372036854775807:=rfl; omega,?_⟩;intro i y o;have d:i<c:=by rw [<-B]; exact (ZE o).1
  have e:y=Classical.choose (g i d):=by
   simp [L,d] at o;exact o.symm
  obtain ⟨b,G,M⟩:=Classical.choose_spec (g i d);rw [<-e] at G;exact ⟨a,b,rfl,trivial,M,G⟩
theorem Opens.arg {t e:TypeId} {b0:Nat} {d:DataW H} {ps:List MemPlace} (h:Opens P t (sliceT T)) (m:P.underlying t=some (.slice e)) (c:Value.okWide P W .any b0 t v) (n:DataW.Trod enc P W 0 (λ_=>true) true t v d ps) :
  ∃ l,SL T (λ_=>True) W v l:=by
 obtain ⟨f,g⟩:=n;obtain ⟨l,o,b,i⟩:=h enc W _ _ _ _ _ _ g;obtain ⟨a,j,k,rfl⟩:=okWide_slice m c;simp [Value.cells] at b;subst b;exact ⟨l,i⟩
theorem Opens.argS {t:TypeId} {fs:Array Field} {b0:Nat} {d:DataW H} {ps:List MemPlace} (h:Opens P t T) (i:P.underlying t=some (.struct fs)) (b:Value.okWide P W .any b0 t v) (j:DataW.Trod enc P W 0 (λ_=>true) true t v d ps) :
  ∃ a c,v= .agg c.toArray/\T.rep (λ_=>True) W c a:=by
 obtain ⟨e,f⟩:=j;obtain ⟨a,g⟩:=h enc W _ _ _ _ _ _ f;obtain ⟨c,rfl,_⟩:=okWide_struct i b;exact ⟨a,c.toList,ZM,by simpa [Value.cells] using g⟩
theorem zH (hl:laidOutB P=true) {W W':World} {sp:Nat->Bool}: ∀(c:List TypeId) (e:List Value) (f:List (DataW H)) (b:List MemPlace),(c.all λt=>P.readableRec t&&Nat.blt t P.types.size)=true->DataW.TrodAll enc P W 0 (λ_=>true) true c e f b ->
  (∀p∈b,W.sameAt W' p)->(∀p∈b,sp p.block=true)->DataW.TrodAll enc P W' 0 sp true c e f b
 | [],[],[],b,_,h,_,_=>h
 | t::c,v::e,d::f,b,g,h,i,j=>by
  obtain ⟨p,q,k,l,rfl⟩:=h;simp only [List.all_cons,Bool.and_eq_true] at g;refine ⟨p,q,WideElems.Trod_stays hl g.1.1 (blt_iff.1 g.1.2) k (λx a=>i x (List.mem_append.2 (.inl a))) (λx a=>j x (List.mem_append.2 (.inl a))),?_,rfl⟩
  exact zH hl c e f q g.2 l (λx a=>i x (List.mem_append.2 (.inr a))) (λx a=>j x (List.mem_append.2 (.inr a)))
 | [],[],_::_,_,_,h,_,_=>h.elim
 | [],_::_,_,_,_,h,_,_=>h.elim
 | _::_,[],_,_,_,h,_,_=>h.elim
 | _::_,_::_,[],_,_,h,_,_=>h.elim
theorem Nt {f:Func} {s:ChangeSpec} {apart fresh handsOn:Bool} {W':World} {ds gs:List (DataW H)} {before:List MemPlace} {tb:TypeId} (hl:laidOutB P=true) (j:DataW.Whole enc P f.params.toList s.vars apart W args.toList ds gs before) (a:s.vars= [])
  (e:(f.params.toList.all λt=>P.readableRec t&&Nat.blt t P.types.size)=true) (k:f.resultTypes= #[tb]) (l:P.underlying tb=some .bool) (m:(s.fn H (ds++gs)).results= [.lit (.bool true)]) (n:(s.fn H (ds++gs)).args=ds) (o:(s.fn H (ds++gs)).vars= [])
  (hb:ZT W W'):s.post enc P f apart fresh handsOn false W args (.bool true) W':=by
 have c: ∀p∈before,p.block<W.heap.size:=λp r=>j.lt p r;obtain ⟨p,q,u,i,d,w,y⟩:=id j;rw [a] at i;have v:q= []:=by
  cases gs with
  | nil=>exact i
  | cons g gs=>exact i.elim
 subst v;rw [List.append_nil] at d;subst d;refine ⟨ds,gs,before,[],before,[],j,?_,?_,?_,World.keptBut_mono (λx b=>⟨b,.inr (.inl b)⟩) (hb.frame (· ∈before)),λh=>by cases h⟩
 .rw [m,k];exact trodAll_mk1 ⟨1,by simp [DataW.trod,Value.cells,l]⟩
 .rw [n];exact zH hl _ _ _ _ e u (λx b=>hb.same (c x b)) (λx b=>by simpa using c x b)
 .rw [o,a]; rfl
theorem qh {f:Func} {k:FuncId} {s:ChangeSpec} {apart fresh handsOn:Bool} {ds gs:List (DataW H)} {before:List MemPlace} {tb:TypeId} (hl:laidOutB P=true) (o:DataW.Whole enc P f.params.toList s.vars apart W args.toList ds gs before) (a:s.vars= [])
  (b:(f.params.toList.all λt=>P.readableRec t&&Nat.blt t P.types.size)=true) (d:f.resultTypes= #[tb]) (g:P.underlying tb=some .bool) (i:(s.fn H (ds++gs)).results= [.lit (.bool true)]) (j:(s.fn H (ds++gs)).args=ds) (l:(s.fn H (ds++gs)).vars= [])
  (h:Gives P k args W λu c=>ZT W c/\u= .bool true):Calls P k args W λe c=> ∃v,e= .returned v/\s.post enc P f apart fresh handsOn false W args v c :=
 h.mono λu c ⟨m,n⟩=>by
  subst n;exact Nt hl o a b d g i j l m
end
end
end Go.PF
namespace Go.Proofs.YtoleahhfkpkcjaaGreatDoor
open Go.Proofs.Tryz
open Go.PF Go.RowKit Go.Ord
section
open Go.ChangeShapes Go.WideShapes Go.ChangeAt
theorem Qx:ownKnob prog.godebug=none:=ZK
theorem IL:laidOutB prog=true:=ZK
theorem bI {n:Int} (h:(Lit.int .i64 n).wf=true):fE n:=by
 simp only [Lit.wf,Bool.and_eq_true,decide_eq_true_eq] at h;exact h
theorem Mc {n:Int} (h:(Lit.int .u8 n).wf=true):0<=n/\n<=255:=by
 simp only [Lit.wf,Bool.and_eq_true,decide_eq_true_eq] at h;exact h
theorem Ki:Opens prog 3 aT:=by
 intro H e w b a c d j x f;obtain ⟨g,h,_,i⟩:=DataW.trod_int underlying3 f;exact ⟨g,h,bI i⟩
theorem Gn:Opens prog 66 (sliceT aT):=Opens.slice underlying66 ZK Ki
theorem Kc:Opens prog 9 eB:=by
 intro H e w b a c d j x f;obtain ⟨g,h,_,i⟩:=DataW.trod_string underlying9 f;exact ⟨g,h,i⟩
theorem ry:Opens prog 23 (sliceT eB):=Opens.slice underlying23 ZK Kc
theorem Gs:Opens prog 4 boolT:=by
 intro H e w b a c d i x f;obtain ⟨g,h,_⟩:=DataW.trod_bool underlying4 f;exact ⟨g,h⟩
theorem Do:Opens prog 149 (sliceT boolT):=Opens.slice underlying149 ZK Gs
theorem M4:Opens prog 74 yV:=by
 intro H g w e d f q z x A;obtain ⟨B,n,_,_,i,m,o⟩:=DataW.trod_struct underlying74 A;have C:prog.cellsOf 74=3:=ZK;have p:prog.cellsOf 3=1:=ZK
 match z,i.trans C with
 | [j,k,l],_ =>
  match B,m with
  | [r,s,t],_ =>
   have D:DataW.trod g prog w e d f n 3 [j]=some r:=by
    have h:DataW.trod g prog w e d f n 3 (([j,k,l].drop 0).take (prog.cellsOf 3))=some r:=o 0 _ rfl;rw [p] at h;exact h
   have E:DataW.trod g prog w e d f n 3 [k]=some s:=by
    have h:DataW.trod g prog w e d f n 3 (([j,k,l].drop 1).take (prog.cellsOf 3))=some s:=o 1 _ rfl;rw [p] at h;exact h
   have F:DataW.trod g prog w e d f n 3 [l]=some t:=by
    have h:DataW.trod g prog w e d f n 3 (([j,k,l].drop 2).take (prog.cellsOf 3))=some t:=o 2 _ rfl;rw [p] at h;exact h
   obtain ⟨a,u,_,G⟩:=DataW.trod_int underlying3 D;obtain ⟨b,v,_,I⟩:=DataW.trod_int underlying3 E;obtain ⟨c,y,_,J⟩:=DataW.trod_int underlying3 F;simp at u v y;subst u v y;exact ⟨⟨a,b,c⟩,rfl,bI G,bI I,bI J⟩
theorem opens_scs:Opens prog 30 (sliceT yV):=Opens.slice underlying30 ZK M4
theorem opens_rc:Opens prog 57 rcT:=by
 intro H i w f e g y M x N;obtain ⟨O,n,_,_,t,v,r⟩:=DataW.trod_struct underlying57 N;have R:prog.cellsOf 57=6:=ZK;have u:prog.cellsOf 3=1:=ZK;have S:prog.cellsOf 9=1:=ZK;have U:prog.cellsOf 23=1:=ZK
 match M,t.trans R with
 | [k,m,o,p,q,j],_ =>
  match O,v with
  | [z,A,B,C,D,E],_ =>
   have W:DataW.trod i prog w f e g n 3 [k]=some z:=by
    have h:DataW.trod i prog w f e g n 3 (([k,m,o,p,q,j].drop 0).take (prog.cellsOf 3))=some z:=r 0 _ rfl;rw [u] at h;exact h
   have Y:DataW.trod i prog w f e g n 3 [m]=some A:=by
    have h:DataW.trod i prog w f e g n 3 (([k,m,o,p,q,j].drop 1).take (prog.cellsOf 3))=some A:=r 1 _ rfl;rw [u] at h;exact h
   have Z:DataW.trod i prog w f e g n 3 [o]=some B:=by
    have h:DataW.trod i prog w f e g n 3 (([k,m,o,p,q,j].drop 2).take (prog.cellsOf 3))=some B:=r 2 _ rfl;rw [u] at h;exact h
   have e3:DataW.trod i prog w f e g n 3 [p]=some C:=by
    have h:DataW.trod i prog w f e g n 3 (([k,m,o,p,q,j].drop 3).take (prog.cellsOf 3))=some C:=r 3 _ rfl;rw [u] at h;exact h
   have e4:DataW.trod i prog w f e g n 9 [q]=some D:=by
    have h:DataW.trod i prog w f e g n 9 (([k,m,o,p,q,j].drop 4).take (prog.cellsOf 9))=some D:=r 4 _ rfl;rw [S] at h;exact h
   have e5:DataW.trod i prog w f e g n 23 [j]=some E:=by
    have h:DataW.trod i prog w f e g n 23 (([k,m,o,p,q,j].drop 5).take (prog.cellsOf 23))=some E:=r 5 _ rfl;rw [U] at h;exact h
   obtain ⟨a,F,_,w0⟩:=DataW.trod_int underlying3 W;obtain ⟨b,G,_,w1⟩:=DataW.trod_int underlying3 Y;obtain ⟨c,I,_,w2⟩:=DataW.trod_int underlying3 Z;obtain ⟨d,J,_,w3⟩:=DataW.trod_int underlying3 e3;obtain ⟨s,K,_,w4⟩:=DataW.trod_string underlying9 e4;obtain ⟨l,lv,L,w5⟩:=ry i w f e g n [j] _ e5;simp at F G I J K L;subst F G I J K L;exact ⟨⟨a,b,c,d,s,l⟩,_,rfl,bI w0,bI w1,bI w2,bI w3,w4,w5⟩
theorem opens_rcs:Opens prog 31 (sliceT rcT):=Opens.slice underlying31 ZK opens_rc
theorem Kk:Opens prog 151 calT:=by
 intro H g w e d f p y x z;obtain ⟨A,n,_,_,i,m,o⟩:=DataW.trod_struct underlying151 z;have B:prog.cellsOf 151=3:=ZK;have C:prog.cellsOf 3=1:=ZK;have D:prog.cellsOf 149=1:=ZK;have E:prog.cellsOf 66=1:=ZK
 match y,i.trans B with
 | [l,j,k],_ =>
  match A,m with
  | [q,r,s],_ =>
   have F:DataW.trod g prog w e d f n 3 [l]=some q:=by
    have h:DataW.trod g prog w e d f n 3 (([l,j,k].drop 0).take (prog.cellsOf 3))=some q:=o 0 _ rfl;rw [C] at h;exact h
   have G:DataW.trod g prog w e d f n 149 [j]=some r:=by
    have h:DataW.trod g prog w e d f n 149 (([l,j,k].drop 1).take (prog.cellsOf 149))=some r:=o 1 _ rfl;rw [D] at h;exact h
   have I:DataW.trod g prog w e d f n 66 [k]=some s:=by
    have h:DataW.trod g prog w e d f n 66 (([l,j,k].drop 2).take (prog.cellsOf 66))=some s:=o 2 _ rfl;rw [E] at h;exact h
   obtain ⟨a,t,_,J⟩:=DataW.trod_int underlying3 F;obtain ⟨b,M,u,K⟩:=Do g w e d f n [j] _ G;obtain ⟨c,N,v,L⟩:=Gn g w e d f n [k] _ I;simp at t u v;subst t u v;exact ⟨⟨a,b,c⟩,_,_,rfl,bI J,K,L⟩
theorem Gq:Opens prog 22 (sliceT calT):=Opens.slice underlying22 ZK Kk
theorem M5:Opens prog 153 eB:=by
 intro H e w c b d i m x o;obtain ⟨p,n,_,_,f,g,q⟩:=DataW.trod_struct underlying153 o;have r:prog.cellsOf 153=1:=ZK;have s:prog.cellsOf 9=1:=ZK
 match m,f.trans r with
 | [j],_ =>
  match p,g with
  | [k],_ =>
   have t:DataW.trod e prog w c b d n 9 [j]=some k:=by
    have h:DataW.trod e prog w c b d n 9 (([j].drop 0).take (prog.cellsOf 9))=some k:=q 0 _ rfl;rw [s] at h;exact h
   obtain ⟨a,l,_,u⟩:=DataW.trod_string underlying9 t;simp at l;subst l;exact ⟨a,rfl,u⟩
theorem Ke:Opens prog 24 (sliceT eB):=Opens.slice underlying24 ZK M5
theorem M6:Opens prog 155 ofT:=by
 intro H l w j i k A S x U;obtain ⟨W,n,_,_,v,z,u⟩:=DataW.trod_struct underlying155 U;have Y:prog.cellsOf 155=7:=ZK;have Z:prog.cellsOf 9=1:=ZK;have y:prog.cellsOf 3=1:=ZK;have k2:prog.cellsOf 23=1:=ZK
 match S,v.trans Y with
 | [o,p,q,r,s,t,m],_ =>
  match W,z with
  | [B,C,D,E,F,G,I],_ =>
   have e0:DataW.trod l prog w j i k n 9 [o]=some B:=by
    have h:DataW.trod l prog w j i k n 9 (([o,p,q,r,s,t,m].drop 0).take (prog.cellsOf 9))=some B:=u 0 _ rfl;rw [Z] at h;exact h
   have e1:DataW.trod l prog w j i k n 3 [p]=some C:=by
    have h:DataW.trod l prog w j i k n 3 (([o,p,q,r,s,t,m].drop 1).take (prog.cellsOf 3))=some C:=u 1 _ rfl;rw [y] at h;exact h
   have e2:DataW.trod l prog w j i k n 3 [q]=some D:=by
    have h:DataW.trod l prog w j i k n 3 (([o,p,q,r,s,t,m].drop 2).take (prog.cellsOf 3))=some D:=u 2 _ rfl;rw [y] at h;exact h
   have e3:DataW.trod l prog w j i k n 3 [r]=some E:=by
    have h:DataW.trod l prog w j i k n 3 (([o,p,q,r,s,t,m].drop 3).take (prog.cellsOf 3))=some E:=u 3 _ rfl;rw [y] at h;exact h
   have e4:DataW.trod l prog w j i k n 3 [s]=some F:=by
    have h:DataW.trod l prog w j i k n 3 (([o,p,q,r,s,t,m].drop 4).take (prog.cellsOf 3))=some F:=u 4 _ rfl;rw [y] at h;exact h
   have e5:DataW.trod l prog w j i k n 3 [t]=some G:=by
    have h:DataW.trod l prog w j i k n 3 (([o,p,q,r,s,t,m].drop 5).take (prog.cellsOf 3))=some G:=u 5 _ rfl;rw [y] at h;exact h
   have e6:DataW.trod l prog w j i k n 23 [m]=some I:=by
    have h:DataW.trod l prog w j i k n 23 (([o,p,q,r,s,t,m].drop 6).take (prog.cellsOf 23))=some I:=u 6 _ rfl;rw [k2] at h;exact h
   obtain ⟨a,J,_,w0⟩:=DataW.trod_string underlying9 e0;obtain ⟨b,K,_,w1⟩:=DataW.trod_int underlying3 e1;obtain ⟨c,L,_,w2⟩:=DataW.trod_int underlying3 e2;obtain ⟨d,M,_,w3⟩:=DataW.trod_int underlying3 e3;obtain ⟨e,N,_,w4⟩:=DataW.trod_int underlying3 e4;obtain ⟨f,O,_,w5⟩:=DataW.trod_int underlying3 e5;obtain ⟨g,gv,R,w6⟩:=ry l w j i k n [m] _ e6;simp at J K L M N O R;subst J K L M N O R;exact ⟨⟨a,b,c,d,e,f,g⟩,_,rfl,w0,bI w1,bI w2,bI w3,bI w4,bI w5,w6⟩
theorem Kg:Opens prog 25 (sliceT ofT):=Opens.slice underlying25 ZK M6
theorem M8:Opens prog 157 LM:=by
 intro H k w i g j y M x N;obtain ⟨O,n,_,_,t,v,s⟩:=DataW.trod_struct underlying157 N;have R:prog.cellsOf 157=6:=ZK;have S:prog.cellsOf 9=1:=ZK;have u:prog.cellsOf 3=1:=ZK
 match M,t.trans R with
 | [l,m,o,p,q,r],_ =>
  match O,v with
  | [z,A,B,C,D,E],_ =>
   have U:DataW.trod k prog w i g j n 9 [l]=some z:=by
    have h:DataW.trod k prog w i g j n 9 (([l,m,o,p,q,r].drop 0).take (prog.cellsOf 9))=some z:=s 0 _ rfl;rw [S] at h;exact h
   have W:DataW.trod k prog w i g j n 3 [m]=some A:=by
    have h:DataW.trod k prog w i g j n 3 (([l,m,o,p,q,r].drop 1).take (prog.cellsOf 3))=some A:=s 1 _ rfl;rw [u] at h;exact h
   have Y:DataW.trod k prog w i g j n 3 [o]=some B:=by
    have h:DataW.trod k prog w i g j n 3 (([l,m,o,p,q,r].drop 2).take (prog.cellsOf 3))=some B:=s 2 _ rfl;rw [u] at h;exact h
   have Z:DataW.trod k prog w i g j n 3 [p]=some C:=by
    have h:DataW.trod k prog w i g j n 3 (([l,m,o,p,q,r].drop 3).take (prog.cellsOf 3))=some C:=s 3 _ rfl;rw [u] at h;exact h
   have e4:DataW.trod k prog w i g j n 3 [q]=some D:=by
    have h:DataW.trod k prog w i g j n 3 (([l,m,o,p,q,r].drop 4).take (prog.cellsOf 3))=some D:=s 4 _ rfl;rw [u] at h;exact h
   have e5:DataW.trod k prog w i g j n 3 [r]=some E:=by
    have h:DataW.trod k prog w i g j n 3 (([l,m,o,p,q,r].drop 5).take (prog.cellsOf 3))=some E:=s 5 _ rfl;rw [u] at h;exact h
   obtain ⟨a,F,_,w0⟩:=DataW.trod_string underlying9 U;obtain ⟨b,G,_,w1⟩:=DataW.trod_int underlying3 W;obtain ⟨c,I,_,w2⟩:=DataW.trod_int underlying3 Y;obtain ⟨d,J,_,w3⟩:=DataW.trod_int underlying3 Z;obtain ⟨e,K,_,w4⟩:=DataW.trod_int underlying3 e4;obtain ⟨f,L,_,w5⟩:=DataW.trod_int underlying3 e5;simp at F G I J K L;subst F G I J K L;exact ⟨⟨a,b,c,d,e,f⟩,rfl,w0,bI w1,bI w2,bI w3,bI w4,bI w5⟩
theorem Kh:Opens prog 26 (sliceT LM):=Opens.slice underlying26 ZK M8
theorem Kj:Opens prog 159 zl:=by
 intro H g w e d f p z x A;obtain ⟨B,n,_,_,i,m,o⟩:=DataW.trod_struct underlying159 A;have C:prog.cellsOf 159=3:=ZK;have D:prog.cellsOf 9=1:=ZK;have q:prog.cellsOf 3=1:=ZK
 match z,i.trans C with
 | [j,k,l],_ =>
  match B,m with
  | [r,s,t],_ =>
   have E:DataW.trod g prog w e d f n 9 [j]=some r:=by
    have h:DataW.trod g prog w e d f n 9 (([j,k,l].drop 0).take (prog.cellsOf 9))=some r:=o 0 _ rfl;rw [D] at h;exact h
   have F:DataW.trod g prog w e d f n 3 [k]=some s:=by
    have h:DataW.trod g prog w e d f n 3 (([j,k,l].drop 1).take (prog.cellsOf 3))=some s:=o 1 _ rfl;rw [q] at h;exact h
   have G:DataW.trod g prog w e d f n 3 [l]=some t:=by
    have h:DataW.trod g prog w e d f n 3 (([j,k,l].drop 2).take (prog.cellsOf 3))=some t:=o 2 _ rfl;rw [q] at h;exact h
   obtain ⟨a,u,_,I⟩:=DataW.trod_string underlying9 E;obtain ⟨b,v,_,J⟩:=DataW.trod_int underlying3 F;obtain ⟨c,y,_,K⟩:=DataW.trod_int underlying3 G;simp at u v y;subst u v y;exact ⟨⟨a,b,c⟩,rfl,I,bI J,bI K⟩
theorem Gp:Opens prog 27 (sliceT zl):=Opens.slice underlying27 ZK Kj
def Xx:Ty Net where
 n:=6
 rep:=λF w cs N=> ∃v:NV,cs=v.cells/\NetIn F w v N
 len:=λ_ _ _ _ h=>by obtain ⟨v,h,_⟩:=h; rw [h]; rfl
 mono:=λ_ _ _ _ _ hk h=>by obtain ⟨v,h,h1⟩:=h; exact ⟨v,h,h1.c.mono hk,h1.n.mono hk,h1.o.mono hk,h1.f.mono hk,h1.l.mono hk,h1.k.mono hk⟩
 wider:=λ_ _ _ _ _ hF h=>by obtain ⟨v,h,h1⟩:=h; exact ⟨v,h,h1.wider hF⟩
theorem opens_net:Opens prog 29 Xx:=by
 intro H k w i g j v L x M;obtain ⟨N,n,_,_,t,u,s⟩:=DataW.trod_struct underlying29 M;have O:prog.cellsOf 29=6:=ZK;have R:prog.cellsOf 22=1:=ZK;have S:prog.cellsOf 23=1:=ZK;have U:prog.cellsOf 24=1:=ZK;have W:prog.cellsOf 25=1:=ZK;have Y:prog.cellsOf 26=1:=ZK;have Z:prog.cellsOf 27=1:=ZK
 match L,t.trans O with
 | [l,m,o,p,q,r],_ =>
  match N,u with
  | [y,z,A,B,C,D],_ =>
   have e0:DataW.trod k prog w i g j n 22 [l]=some y:=by
    have h:DataW.trod k prog w i g j n 22 (([l,m,o,p,q,r].drop 0).take (prog.cellsOf 22))=some y:=s 0 _ rfl;rw [R] at h;exact h
   have e1:DataW.trod k prog w i g j n 23 [m]=some z:=by
    have h:DataW.trod k prog w i g j n 23 (([l,m,o,p,q,r].drop 1).take (prog.cellsOf 23))=some z:=s 1 _ rfl;rw [S] at h;exact h
   have e2:DataW.trod k prog w i g j n 24 [o]=some A:=by
    have h:DataW.trod k prog w i g j n 24 (([l,m,o,p,q,r].drop 2).take (prog.cellsOf 24))=some A:=s 2 _ rfl;rw [U] at h;exact h
   have e3:DataW.trod k prog w i g j n 25 [p]=some B:=by
    have h:DataW.trod k prog w i g j n 25 (([l,m,o,p,q,r].drop 3).take (prog.cellsOf 25))=some B:=s 3 _ rfl;rw [W] at h;exact h
   have e4:DataW.trod k prog w i g j n 26 [q]=some C:=by
    have h:DataW.trod k prog w i g j n 26 (([l,m,o,p,q,r].drop 4).take (prog.cellsOf 26))=some C:=s 4 _ rfl;rw [Y] at h;exact h
   have e5:DataW.trod k prog w i g j n 27 [r]=some D:=by
    have h:DataW.trod k prog w i g j n 27 (([l,m,o,p,q,r].drop 5).take (prog.cellsOf 27))=some D:=s 5 _ rfl;rw [Z] at h;exact h
   obtain ⟨a,av,E,w0⟩:=Gq k w i g j n [l] _ e0;obtain ⟨b,bv,F,w1⟩:=ry k w i g j n [m] _ e1;obtain ⟨c,cv,G,w2⟩:=Ke k w i g j n [o] _ e2;obtain ⟨d,dv,I,w3⟩:=Kg k w i g j n [p] _ e3;obtain ⟨e,ev,J,w4⟩:=Kh k w i g j n [q] _ e4;obtain ⟨f,fv,K,w5⟩:=Gp k w i g j n [r] _ e5;simp at E F G I J K;subst E F G I J K;exact ⟨⟨a,b,c,d,e,f⟩,⟨_,_,_,_,_,_⟩,rfl,⟨w0,w1,w2,w3,w4,w5⟩⟩
theorem yU {H:Type} {enc:TypeId×Value->H} {base:Nat} {sp:Nat->Bool} {held:Bool} {fuel:Nat} {t e:TypeId} {ss:List ByteArray} {p:List MemPlace} (A:P.underlying t=some (.array n e)) (he:P.underlying e=some .string) (k:P.cellsOf e=1) (B:P.cellsOf t=n)
  (h:DataW.trod enc P w base sp held fuel t cs=some (.agg (ss.map λs=> .lit (.string s.data.toList)),p)):cs=ss.map Value.string:=by
 obtain ⟨d,m,rfl,q,C,r,a⟩:=DataW.trod_array A h;have c:d.map (·.1)=ss.map λs=>(DataW.lit (.string s.data.toList):DataW H):=by
  have:=congrArg Prod.fst q;simpa using this.symm
 have u:ss.length=n:=by
  have:=congrArg List.length c;simp at this;omega
 apply List.ext_getElem?;intro i;by_cases v:i<n
 .have l:=a i v;obtain ⟨b,o⟩: ∃b,d[i]?=some b:=⟨d[i]'(by omega),ZD ZJ⟩;rw [o,k] at l;obtain ⟨s,f,rfl,_⟩:=DataW.trod_string he l;have x:cs[i]?=some (.string s):=by
   have:=congrArg (·[0]?) f;simpa [List.getElem?_take] using this
  have g:(d.map (·.1))[i]?=some (DataW.lit (.string s.data.toList):DataW H):=by simp [o]
  rw [c] at g;simp only [List.getElem?_map,Option.map_eq_some_iff,DataW.lit.injEq,Lit.string.injEq] at g;obtain ⟨z,y,j⟩:=g;have:=ByteArray.ext (Array.toList_inj.1 j);subst this;simp [x,y]
 .rw [List.getElem?_eq_none ZJ,List.getElem?_eq_none ZO]
abbrev laidAll:List (String×DataW Unit):= [("math/bits.deBruijn32tab",Rows.laid_math_bits_deBruijn32tab),("math/bits.deBruijn64tab",Rows.laid_math_bits_deBruijn64tab),("internal/strconv.uint64pow10",Rows.laid_internal_strconv_uint64pow10),("postilion/survey.keyWords",Rows.laid_postilion_survey_keyWords)]
theorem gKey:prog.globalNamed "postilion/survey.keyWords" = some 0:=ZK
theorem tKey:(prog.globals[0]?).map (·.type)=some 329:=ZK
theorem QP:(Rows.laid_postilion_survey_keyWords:DataW Unit)= .agg (keys11.map λs=> .lit (.string s.data.toList)):=ZN
theorem gPow:prog.globalNamed "internal/strconv.uint64pow10" = some 1:=ZK
theorem tPow:(prog.globals[1]?).map (·.type)=some 378:=ZK
theorem fO (h:laidMetH prog laidAll W):Tabs W/\TabI W:=by
 obtain ⟨C,⟨D,E,l,F,G,H,m,n,o,p,⟨I,J,q,K,L,M,r,t,u,v,⟨N,O,w,R,S,U,c,d,e,a,⟨Y,Z,x,f3,p3,q3,f,g,j,b,_,_⟩,_⟩,_⟩,_⟩,_,_⟩:=h;obtain rfl:=Option.some.inj (gKey.symm.trans f);obtain rfl:=Option.some.inj (tKey.symm.trans g);obtain rfl:=Option.some.inj (gPow.symm.trans c);obtain rfl:=Option.some.inj (tPow.symm.trans d);rw [QP] at b;have y:=yU underlying329 underlying9 ZK ZK b;have z:(Rows.laid_internal_strconv_uint64pow10:DataW Unit)=Lib.tabData .u64 Lib.pow10Tab:=ZN;rw [z] at a;have A:=Lib.cells_of_tab underlying378 underlying273 ZK ZK a;refine ⟨⟨λi s k=> ?_⟩,⟨?_⟩⟩
 .have B:W.var? prog "postilion/survey.keyWords" = some (keys11.map Value.string).toArray:=by rw [j,<-y]
  have:=World.var?_cell gKey B i;rw [this];simp [k]
 .unfold Lib.TabIs;rw [e,<-A]
end
end Go.Proofs.YtoleahhfkpkcjaaGreatDoor
namespace Go.PF
open Go.RowKit
section
open Go.ChangeShapes Go.WideShapes Go.ChangeAt
section
variable {H:Type} {enc:TypeId×Value->H} {P:Program} {w:World} {base:Nat} {spare:Nat->Bool} {held:Bool}
theorem AU {t0 t2 t3 t4:TypeId} {ds:List (DataW H)} {ps:List MemPlace} (h:DataW.TrodAll enc P w base spare held [t0,t1,t2,t3,t4] args.toList ds ps) :
  ∃ a b c d e f g i j k l m n o p,args= #[a,b,c,d,e]/\ds= [f,g,i,j,k]/\ps=l++m++n++o++p/\DataW.Trod enc P w base spare held t0 a f l/\DataW.Trod enc P w base spare held t1 b g m/\DataW.Trod enc P w base spare held t2 c i n/\DataW.Trod enc P w base spare held t3 d j o/\DataW.Trod enc P w base spare held t4 e k p:=by
 obtain ⟨a,x,f,y,l,N,q,rfl,rfl,r,z⟩:=trodAll_cons h;obtain ⟨b,A,g,B,m,O,rfl,rfl,rfl,s,C⟩:=trodAll_cons z;obtain ⟨c,D,i,E,n,R,rfl,rfl,rfl,t,F⟩:=trodAll_cons C;obtain ⟨d,G,j,I,o,S,rfl,rfl,rfl,u,J⟩:=trodAll_cons F;obtain ⟨e,K,k,L,p,U,rfl,rfl,rfl,v,M⟩:=trodAll_cons J;obtain ⟨rfl,rfl,rfl⟩:=trodAll_nil M;exact ⟨a,b,c,d,e,f,g,i,j,k,l,m,n,o,p,by cases args; simp_all,rfl,ZM,r,s,t,u,v⟩
theorem mM {t0 t2 t3 t4 t5 t6:TypeId} {ds:List (DataW H)} {ps:List MemPlace} (h:DataW.TrodAll enc P w base spare held [t0,t1,t2,t3,t4,t5,t6] args.toList ds ps) :
  ∃ a b c d e f g i j k l m n o p q r s t u v,args= #[a,b,c,d,e,f,g]/\ds= [i,j,k,l,m,n,o]/\ps=p++q++r++s++t++u++v/\DataW.Trod enc P w base spare held t0 a i p/\DataW.Trod enc P w base spare held t1 b j q/\DataW.Trod enc P w base spare held t2 c k r/\DataW.Trod enc P w base spare held t3 d l s/\DataW.Trod enc P w base spare held t4 e m t/\DataW.Trod enc P w base spare held t5 f n u/\DataW.Trod enc P w base spare held t6 g o v:=by
 obtain ⟨a,F,i,G,p,q0,x,rfl,rfl,y,I⟩:=trodAll_cons h;obtain ⟨b,J,j,K,q,q1,rfl,rfl,rfl,z,L⟩:=trodAll_cons I;obtain ⟨c,M,k,N,r,q2,rfl,rfl,rfl,A,O⟩:=trodAll_cons L;obtain ⟨d,R,l,S,s,q3,rfl,rfl,rfl,B,U⟩:=trodAll_cons O;obtain ⟨e,W,m,Y,t,q4,rfl,rfl,rfl,C,Z⟩:=trodAll_cons U;obtain ⟨f,a0,n,a1,u,q5,rfl,rfl,rfl,D,h5⟩:=trodAll_cons Z;obtain ⟨g,a2,o,a3,v,q6,rfl,rfl,rfl,E,h6⟩:=trodAll_cons h5;obtain ⟨rfl,rfl,rfl⟩:=trodAll_nil h6;exact ⟨a,b,c,d,e,f,g,i,j,k,l,m,n,o,p,q,r,s,t,u,v,by cases args; simp_all,rfl,ZM,y,z,A,B,C,D,E⟩
end
end
end Go.PF
namespace Go.Proofs.YtoleahhfkpkcjaaGreatDoor
open Go.Proofs.Tryz
theorem IP:laidOutB Tryz.checked.prog=true:=ZK
theorem Bp:mapsRowed Tryz.checked.prog=true:=ZK
theorem Bv:Tryz.checked.prog.plainKeys=Rows.traceErrorsRow.plainKeys:=ZK
theorem wJ:Tryz.checked.prog.stopsHeard=true:=ZK
theorem wK:Tryz.checked.prog.mayEnter=true:=ZK
theorem Bu:Tryz.checked.prog.liftsFinal=Rows.traceErrorsRow.lifted:=ZK
theorem Bq:Tryz.checked.prog.make=some Rows.traceErrorsRow.make:=ZK
theorem Bt:false=Tryz.checked.prog.looks []:=ZK
theorem Br:Tryz.checked.prog.mainIs=some (true, "1ca7458b00103d85651f3369158a287bd9cd61a88ddac9a3611f185cf9a2c61c".toList):=ZK
end Go.Proofs.YtoleahhfkpkcjaaGreatDoor
