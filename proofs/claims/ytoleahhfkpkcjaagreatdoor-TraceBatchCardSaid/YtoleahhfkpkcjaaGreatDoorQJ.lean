/- Texts of this claim,joined. -/
import Derived.Test.YtoleahhfkpkcjaaGreatDoorQI
set_option linter.unusedSimpArgs false
set_option linter.unusedVariables false
set_option maxRecDepth 100000
set_option maxHeartbeats 4000000
variable {w w0 w':Go.World} {v va vb rv u:Go.Value} {us:List Go.Ord.U} {F G:Nat->Prop} {i n m b e s k bytes:Nat} {α σ:Type} {T:Go.PF.Ty α} {af:Array Go.Edge} {cs vs:List Go.Value} {d d2:Option Go.Tmp} {ty:Go.TypeId} {pos:String} {l:List α} {g t f:Int} {c:Go.Code} {R:Go.Value->Go.World->Prop} {lg:Option (Go.Ord.Ev×Go.Ord.Ev×Int)} {parts:Array (Nat×Go.Operand)} {x:Go.Operand} {q p:Prop} {a:Go.Ord.Ev} {xs:List Go.Operand} {ts:Array Go.TypeId} {L:Option Go.Addr} {fn:Go.Func} {ad:Go.Addr} {ps:List (List Go.Value×α)} {J:Nat->σ->Go.World->Prop}
namespace Go.Ord
open Go.PF
section
variable {d:bG}
abbrev SK:=Nat×Option Nat
def jA (t:Int) (u:Nat) (f:Int):Value:= .agg #[ZU t,ZU (u:Int),ZU f]
theorem Lh {t':Int} {u u':Nat} {f':Int} (h:jA t u f=jA t' u' f'):t=t':=by
 unfold jA at h;simp only [Value.agg.injEq,Array.mk.injEq,List.cons.injEq,Value.int.injEq,true_and] at h;exact h.1
def OV (us:List U) (k c:Nat):Prop:=(left us k).length+c=us.length
theorem Way.cnt {c:Nat} {s:St} (h:Way d us k s c):OV us k c:=by
 obtain ⟨T,a,_,_,b⟩:=h;have:=b.length_eq;rw [List.length_append,a] at this;unfold OV;omega
def Row (d:bG) (us:List U) (c:Nat) (nx:List SK) (r:SK) (v:Value):Prop :=
 ∃ t u f n,v=jA t u f/\(u<us.length\/u=0)/\Way d us r.1 (r.2,t) n/\n<=c/\0<=t/\t<=3000000/\r.1<2 ^ 16/\(n=c->r∈nx)/\ -1<=f
structure Lev (d:bG) (us:List U) (c:Nat) (M:List (SK×Value)) (nx:List SK):Prop where
 rows: ∀p∈M,Row d us c nx p.1 p.2
 mem: ∀r∈nx,(∃v,(r,v)∈M)/\OV us r.1 c
 nd:nx.Nodup
def Had (us:List U) (c:Nat) (M:List (SK×Value)) (lv:List SK):Prop:= ∀r∈lv,(∃v,(r,v)∈M)/\OV us r.1 c
def Good (d:bG) (us:List U) (M:List (SK×Value)) (l:List SK):Prop:= ∃r∈l,∃t u f,(r,jA t u f)∈M/\Feas d (r.2,t) (left us r.1)
abbrev TU (M:List (SK×Value)):Prop:=M.Pairwise λp q=>p.1≠q.1
theorem HZ {κ:Type} {M:List (κ×Value)} (h:M.Pairwise λp q=>p.1≠q.1) {r:κ} {v':Value} (h1:(r,v)∈M) (f:(r,v')∈M):v=v':=by
 obtain ⟨i,c,b⟩:=List.getElem_of_mem h1;obtain ⟨j,d,a⟩:=List.getElem_of_mem f;have e:=List.pairwise_iff_getElem.1 h;rcases Nat.lt_trichotomy i j with q|q|q
 .have:=e i j c d q;rw [b,a] at this;exact absurd rfl this
 .subst q;rw [b] at a;simp only [Prod.mk.injEq] at a;exact a.2
 .have:=e j i d c q;rw [b,a] at this;exact absurd rfl this
theorem Lev.start (us:List U):Lev d us 0 [((0,none),jA 0 0 0)] [(0,none)]:=by
 refine ⟨λp a=> ?_,λr b=> ?_,ZM⟩
 .rw [List.mem_singleton] at a;subst a;exact ⟨0,0,0,0,rfl,.inr rfl,Way.zero us,ZC,Int.le_refl _,ZL,ZL,(λ_=>ZM),ZL⟩
 .rw [List.mem_singleton] at b;subst b;exact ⟨⟨jA 0 0 0,ZM⟩,(Way.zero (d:=d) us).cnt⟩
theorem Lev.next {c:Nat} {M:List (SK×Value)} {lv:List SK} (h:Lev d us c M lv):Lev d us (c+1) M []:=by
 refine ⟨λp a=> ?_,(λr b=>by cases b),List.nodup_nil⟩;obtain ⟨t,u,f,n,g,i,j,q,k,l,m,s,o⟩:=h.rows p a;exact ⟨t,u,f,n,g,i,j,ZJ,k,l,m,(λe=>ZJ),o⟩
theorem Had.put {c:Nat} {M:List (SK×Value)} {lv:List SK} (h:Had us c M lv) (k:SK) (v:Value):Had us c (jK M k v) lv:=by
 intro r a;obtain ⟨⟨b,d⟩,f⟩:=h r a;refine ⟨?_,f⟩;by_cases e:r=k
 .subst e; exact ⟨v,mem_lput.2 (.inl rfl)⟩
 .exact ⟨b,mem_lput.2 (.inr ⟨d,e⟩)⟩
theorem Lev.put {c:Nat} {M:List (SK×Value)} {nx nx':List SK} (h:Lev d us c M nx) {r:SK} {x:Nat} (j:Way d us r.1 (r.2,t) c) (k:0<=t/\t<=3000000) (D:r.1<2 ^ 16) (E:x<us.length) (F: -1<=f) (i:nx'.Nodup)
  (hs: ∀q,q∈nx'↔q∈nx\/q=r):Lev d us c (jK M r (jA t x f)) nx':=by
 refine ⟨λp a=> ?_,λq b=> ?_,i⟩
 .rcases mem_lput.1 a with rfl|⟨a,_⟩
  .exact ⟨t,x,f,c,rfl,.inl E,j,ZC,k.1,k.2,D,λ_=>(hs _).2 (.inr rfl),F⟩
  .obtain ⟨l,u,f,n,m,g,o,s,v,w,y,z,A⟩:=h.rows p a;exact ⟨l,u,f,n,m,g,o,s,v,w,y,λe=>(hs _).2 (.inl (z e)),A⟩
 .rcases (hs q).1 b with b|rfl
  .obtain ⟨⟨B,C⟩,g⟩:=h.mem q b;refine ⟨?_,g⟩;by_cases e:q=r
   .subst e; exact ⟨_,mem_lput.2 (.inl rfl)⟩
   .exact ⟨B,mem_lput.2 (.inr ⟨C,e⟩)⟩
  .exact ⟨⟨_,mem_lput.2 (.inl rfl)⟩,j.cnt⟩
theorem ut: ∀(B:Nat) (l:List Nat),l.Nodup->(∀x∈l,x<B)->l.length<=B
 | 0,l,_,h=>by
  cases l with
  | nil=>simp
  | cons x l=>exact absurd (h x ZM) (Nat.not_lt_zero _)
 | B+1,l,a,h=>by
  have d:=ut B (l.erase B) (a.sublist List.erase_sublist) (λx b=>by
   have f:=h x (List.mem_of_mem_erase b);have g:x≠B:=λe=>by subst e; exact (a.not_mem_erase b)
   omega)
  by_cases c:B∈l
  .have:=List.length_erase_of_mem c;omega
  .rw [List.erase_of_not_mem c] at d;omega
def P8 (r:SK):Nat:=r.1*14+(match r.2 with|none=>13|some o=>o)
theorem Lev.few (I:WfD d) {us:List U} (J: ∀u∈us,UOK d u) {c:Nat} {M:List (SK×Value)} {nx:List SK} (h:Lev d us c M nx):nx.length<=917504:=by
 have i: ∀r∈nx,r.1<2 ^ 16/\ ∀o,r.2=some o->o<12:=by
  intro r j;obtain ⟨⟨v,z⟩,_⟩:=h.mem r j;obtain ⟨t,u,f,n,_,_,A,_,_,_,B,_⟩:=h.rows _ z;refine ⟨B,λo l=> ?_⟩;have:=A.sok J o l;have:=I.few;omega
 have C:(nx.map P8).Nodup:=by
  unfold List.Nodup;rw [List.pairwise_map];refine List.Pairwise.imp_of_mem ?_ h.nd;intro a b D m p e;refine p ?_;obtain ⟨K,q⟩:=i a D;obtain ⟨E,g⟩:=i b m;obtain ⟨k,o⟩:=a;obtain ⟨F,s⟩:=b;unfold P8 at e
  cases o with
  | none=>cases s with
   | none=>dsimp only at e; congr 1; omega
   | some y=>have:=g y rfl; dsimp only at e; omega
  | some x=>cases s with
   | none=>have:=q x rfl; dsimp only at e; omega
   | some y =>
    have:=q x rfl;have:=g y rfl;dsimp only at e;have G:k=F:=ZJ;have H:x=y:=ZJ;rw [G,H]
 have:=ut 917504 (nx.map P8) C (λx w=>by
  rw [List.mem_map] at w;obtain ⟨r,j,rfl⟩:=w;obtain ⟨E,g⟩:=i r j;unfold P8
  cases l:r.2 with
  | none=>dsimp only; omega
  | some o=>have:=g o l; dsimp only; omega)
 simpa using this
theorem Lev.there {c:Nat} {M:List (SK×Value)} {nx:List SK} (h:Lev d us c M nx) {r:SK} (e:(r,v)∈M) (g:OV us r.1 c):r∈nx:=by
 obtain ⟨t,u,f,n,i,j,a,k,l,m,o,b,_⟩:=h.rows _ e;have:=a.cnt;unfold OV at this g;exact b (by dsimp only at this; omega)
theorem Good.put (o: ∀u∈us,UOK d u) {M:List (SK×Value)} (p:TU M) {l:List SK} (h:Good d us M l) {r:SK} {x:Nat} (hl: ∀a b c,(r,jA a b c)∈M->t<=a):Good d us (jK M r (jA t x f)) l:=by
 obtain ⟨q,g,a,b,c,i,k⟩:=h;by_cases e:q=r
 .subst e;refine ⟨q,g,t,x,f,mem_lput.2 (.inl rfl),vg (mh (hl a b c i)) (λy m=> ?_) k⟩;obtain ⟨j,_,n⟩:=mem_left.1 m;exact o y (ZF n)
 .exact ⟨q,g,a,b,c,mem_lput.2 (.inr ⟨i,e⟩),k⟩
theorem Good.more {M:List (SK×Value)} {l l':List SK} (h:Good d us M l) (hl: ∀r∈l,r∈l'):Good d us M l':=by
 obtain ⟨q,a,h⟩:=h;exact ⟨q,hl q a,h⟩
theorem Cho.feas (o:WfD d) (p: ∀u∈us,UOK d u) {F:List Nat} (q: ∀x∈F,x<2 ^ 32) (E:vV d us λi=>F.getD i 0) (r: ∀i j,i<us.length->(F.getD i 0).testBit j=true->j<us.length) {c:Nat} {s:St} (hs:yf d s) {L:List Nat} (h:Cho d us F k s L)
  (t:Feas d s (left us k)) (G:OV us k c) (H:c<us.length): ∃x∈L,∃u,us[x]?=some u/\Feas d (nxt d s u) (left us (k ||| 1 <<< x)):=by
 rcases h with ⟨⟨i,u,a,b,l⟩,_⟩|⟨v,rfl⟩
 .exact absurd (Nn o p hs t b a) l
 .unfold D6
  split
  .rename_i i w;have A:=List.mem_of_find?_eq_some w;have m:=List.find?_some w;obtain ⟨u,f,e⟩:=dec_iff.1 m;obtain ⟨a,b,l⟩:=mem_lstTo.1 A;exact ⟨i,ZM,u,f,J2 o p hs t b f e⟩
  .have n: ∃i,i<us.length/\k.testBit i=false:=by
    unfold OV at G;have B:0<(left us k).length:=ZJ;obtain ⟨i,a,b⟩:=mem_left.1 (List.getElem_mem B);exact ⟨i,(ZE b).1,a⟩
   obtain ⟨i,u,a,b,l,C⟩:=JZ o p E hs t n;have g:=(ZE a).1;refine ⟨i,mem_lstTo.2 ⟨g,b,(Ks ?_).2 λj z=>l j (r i j g z) z⟩,u,a,C⟩;rw [List.getD_eq_getElem?_getD]
   cases D:F[i]? with
   | none=>simp
   | some y=>exact q y (ZF D)
end
end Go.Ord
namespace Go.Ord
section
variable {d:bG}
def pc:Nat->Nat
 | 0=>0
 | n+1=>(n+1)%2+pc ((n+1) / 2)
decreasing_by omega
theorem Q8 (n:Nat):pc n=n%2+pc (n / 2):=by
 cases n with
 | zero=>simp
 | succ n=>rw [pc]
theorem FK (u:U) (us:List U) (m:Nat):left (u::us) m=(if m.testBit 0 then [] else [u])++left us (m / 2):=by
 unfold left;rw [List.length_cons,List.range_succ_eq_map,List.filterMap_cons,List.filterMap_map];have e:((λi=>if m.testBit i=true then none else (u::us)[i]?) ∘ Nat.succ)=λi=>if (m / 2).testBit i=true then none else us[i]?:=by
  funext i;simp [Nat.testBit_succ]
 rw [e];by_cases h:m.testBit 0=true
 .simp [h]
 .simp [h]
theorem Aj: ∀(a:List U) (m:Nat),m<2 ^ a.length->pc m+(left a m).length=a.length
 | [],m,h=>by
  simp at h;subst h
  simp [pc,left]
 | u::a,m,h=>by
  have c:m / 2<2 ^ a.length:=by
   rw [List.length_cons,Nat.pow_succ] at h;omega
  have d:=Aj a (m / 2) c;rw [FK,Q8,List.length_append,List.length_cons];by_cases b:m.testBit 0=true
  .have:m%2=1:=by rw [Nat.testBit_zero] at b; simpa using b
   simp [b];omega
  .have:m%2=0:=by
    simp at b;omega
   simp [b];omega
theorem Di {a:Nat} (h1:a / 2=b / 2) (c:a%2=b%2):a=b:=ZJ
theorem Iu: ∀(i m:Nat),m.testBit i=false->m+2 ^ i=m ||| 2 ^ i
 | 0,m,h=>by
  have f:m%2=0:=by
   simp at h;omega
  refine Di ?_ ?_
  .rw [Nat.or_div_two];simp;omega
  .have:(m ||| 2 ^ 0)%2=1:=by rw [Nat.or_mod_two_eq_one]; right; rfl
   rw [this];simp
   omega
 | i+1,m,h=>by
  rw [Nat.testBit_succ] at h;have d:=Iu i (m / 2) h;have e:2 ^ (i+1) / 2=2 ^ i:=by rw [Nat.pow_succ]; omega
  refine Di ?_ ?_
  .rw [Nat.or_div_two,e,<-d,Nat.pow_succ];omega
  .have:(m ||| 2 ^ (i+1))%2=m%2:=by
    have c:(m ||| 2 ^ (i+1)).testBit 0=m.testBit 0:=by rw [Nat.testBit_or,Nat.testBit_two_pow]; simp
    have a:=Nat.mod_two_eq_zero_or_one m;have b:=Nat.mod_two_eq_zero_or_one (m ||| 2 ^ (i+1));rcases a with a|a<;>rcases b with b|b<;>simp [a,b] at c ⊢
   omega
theorem Bg (h:m.testBit i=false):m+2 ^ i=m ||| 1 <<< i:=by
 rw [Nat.one_shiftLeft];exact Iu i m h
structure RS where
 time:Int
 last:Nat
 set:Nat
 frm:Int
def ql (us:List U) (s:RS):St:=match us[s.last]? with
 | some u=>(some u.exit,s.time+u.span)
 | none=>(none,0)
structure RSOK (d:bG) (us:List U) (s:RS):Prop where
 last:s.last<us.length
 bits:s.set<2 ^ us.length
 way:Way d us s.set (ql us s) (pc s.set)
 t0:0<=s.time
 t1:s.time<=1000000
 f1: -1<=s.frm
structure DP (d:bG) (us:List U) (r b:Nat) (L:List RS):Prop where
 each: ∀s∈L,RSOK d us s
 key:L.Pairwise λa c=> ¬(a.set=c.set/\a.last=c.last)
 lo: ∀(i:Nat) s,L[i]?=some s->i<b->pc s.set<=r
 hi: ∀(i:Nat) s,L[i]?=some s->b<=i->pc s.set=r+1
 back: ∀(i:Nat) s,L[i]?=some s->s.frm<i
def Lat (b:Nat) (L L':List RS):Prop:=b<=L.length/\L'.take b=L.take b/\ ∀s∈L,∃s'∈L',s'.set=s.set/\s'.last=s.last/\s'.time<=s.time
theorem Lat.refl {L:List RS} (h:b<=L.length):Lat b L L:=⟨h,rfl,λs a=>⟨s,a,rfl,rfl,Int.le_refl _⟩⟩
theorem Lat.trans {b:Nat} {L L' L'':List RS} (h:Lat b L L') (c:Lat b L' L''):Lat b L L'':=by
 refine ⟨h.1,c.2.1.trans h.2.1,λs d=> ?_⟩;obtain ⟨e,f,g,i,j⟩:=h.2.2 s d;obtain ⟨a,k,l,m,n⟩:=c.2.2 e f;exact ⟨a,k,l.trans g,m.trans i,Int.le_trans n j⟩
def Has (L:List RS) (set last:Nat) (t:Int):Prop:= ∃s∈L,s.set=set/\s.last=last/\s.time<=t
theorem DP.app {r:Nat} {L:List RS} (h:DP d us r b L) {n:RS} (hn:RSOK d us n) (p:pc n.set=r+1) (q:n.frm<b) (hb:b<=L.length) (l: ∀(i:Nat) s,L[i]?=some s->b<=i-> ¬(s.set=n.set/\s.last=n.last)):DP d us r b (L++ [n])/\Lat b L (L++ [n]):=by
 have j: ∀(i:Nat) s,(L++ [n])[i]?=some s->L[i]?=some s\/(i=L.length/\s=n):=λi s f=>by
  rcases Nat.lt_trichotomy i L.length with g|g|g
  .rw [List.getElem?_append_left g] at f; exact .inl f
  .subst g; simp at f; exact .inr ⟨rfl,f.symm⟩
  .rw [List.getElem?_eq_none ZO] at f; cases f
 refine ⟨⟨λs f=> ?_,?_,λi s f g=> ?_,λi s f g=> ?_,λi s f=> ?_⟩,hb,by rw [List.take_append_of_le_length hb],λs f=>⟨s,List.mem_append_left _ f,rfl,rfl,Int.le_refl _⟩⟩
 .rcases ZH f with f|f
  .exact h.each s f
  .rw [List.mem_singleton] at f; subst f; exact hn
 .refine List.pairwise_append.2 ⟨h.key,List.pairwise_singleton _ _,λa o c m=> ?_⟩;rw [List.mem_singleton] at m;subst m;obtain ⟨i,g⟩:=List.mem_iff_getElem?.1 o;by_cases k:i<b
  .rintro ⟨e,_⟩;have:=h.lo i a g k;rw [e] at this;omega
  .exact l i a g ZJ
 .rcases j i s f with f|⟨rfl,rfl⟩
  .exact h.lo i s f g
  .omega
 .rcases j i s f with f|⟨rfl,rfl⟩
  .exact h.hi i s f g
  .exact p
 .rcases j i s f with f|⟨rfl,rfl⟩
  .exact h.back i s f
  .omega
theorem DP.set {us:List U} {r b:Nat} {L:List RS} (h:DP d us r b L) {n o:RS} {k:Nat} (q:L[k]?=some o) (u:b<=k) (hn:RSOK d us n) (J:n.frm<b) (hb:b<=L.length) (h1:o.set=n.set) (F:o.last=n.last) (I:n.time<=o.time):DP d us r b (L.set k n)/\Lat b L (L.set k n):=by
 have t:=(ZE q).1;have f: ∀(i:Nat) s,(L.set k n)[i]?=some s->(i≠k/\L[i]?=some s)\/(i=k/\s=n):=λi s a=>by
  by_cases c:k=i
  .subst c;rw [List.getElem?_set_self t] at a;exact .inr ⟨rfl,by cases a; rfl⟩
  .rw [List.getElem?_set_ne c] at a;exact .inl ⟨λe=>c e.symm,a⟩
 have v:=h.hi k o q u;refine ⟨⟨λs a=> ?_,?_,λi s a g=> ?_,λi s a g=> ?_,λi s a=> ?_⟩,hb,?_,λs a=> ?_⟩
 .rcases List.mem_or_eq_of_mem_set a with a|a
  .exact h.each s a
  .subst a; exact hn
 .rw [List.pairwise_iff_getElem];intro i j g H w;have z:=ZD g;have A:=ZD H;have l: ∀x y,L[i]?=some x->L[j]?=some y-> ¬(x.set=y.set/\x.last=y.last):=λx y m p=>by
   obtain ⟨B,C⟩:=ZE m;obtain ⟨D,E⟩:=ZE p;have:=List.pairwise_iff_getElem.1 h.key i j B D w;rw [C,E] at this;exact this
  rcases f i _ z with ⟨_,m⟩|⟨rfl,m⟩<;>rcases f j _ A with ⟨_,p⟩|⟨rfl,p⟩
  .exact l _ _ m p
  .rw [p,<-h1,<-F]; exact l _ _ m q
  .rw [m,<-h1,<-F]; exact l _ _ q p
  .omega
 .rcases f i s a with ⟨_,a⟩|⟨rfl,rfl⟩
  .exact h.lo i s a g
  .omega
 .rcases f i s a with ⟨_,a⟩|⟨rfl,rfl⟩
  .exact h.hi i s a g
  .rw [<-h1]; exact v
 .rcases f i s a with ⟨_,a⟩|⟨rfl,rfl⟩
  .exact h.back i s a
  .omega
 .exact List.take_set_of_le u
 .obtain ⟨i,g⟩:=List.mem_iff_getElem?.1 a;by_cases c:k=i
  .subst c;rw [q] at g;cases g;exact ⟨n,List.mem_iff_getElem?.2 ⟨k,List.getElem?_set_self t⟩,h1.symm,F.symm,I⟩
  .exact ⟨s,List.mem_iff_getElem?.2 ⟨i,by rw [List.getElem?_set_ne c]; exact g⟩,rfl,rfl,Int.le_refl _⟩
theorem O8 {s:RS} {u:U} (h:us[s.last]?=some u):ql us s=(some u.exit,s.time+u.span):=by
 unfold ql;rw [h]
theorem Q7 (b:i<us.length) (hm:m<2 ^ us.length) (h:m.testBit i=false):pc (m ||| 1 <<< i)=pc m+1/\m ||| 1 <<< i<2 ^ us.length:=by
 have d:=Aj us m hm;have a:m ||| 1 <<< i<2 ^ us.length:=Nat.or_lt_two_pow hm (by rw [Nat.one_shiftLeft]; exact Nat.pow_lt_pow_right ZL b);have e:=Aj us _ a;have c:=(kS h (ZD b)).length_eq;rw [List.length_cons] at c;exact ⟨ZJ,a⟩
theorem RSOK.next (m: ∀u∈us,0<=u.low/\u.low<=u.high/\u.high<=1000000) {s:RS} (h:RSOK d us s) {u:U} (a:us[i]?=some u) (hb:s.set.testBit i=false) (f:kH d (ql us s) u) {k:Int} (n: -1<=k) :
  RSOK d us ⟨pp d (ql us s) u,i,s.set ||| 1 <<< i,k⟩/\pc (s.set ||| 1 <<< i)=pc s.set+1/\ql us ⟨pp d (ql us s) u,i,s.set ||| 1 <<< i,k⟩=nxt d (ql us s) u:=by
 have b:=(ZE a).1;obtain ⟨c,g⟩:=Q7 b h.bits hb;have e:ql us ⟨pp d (ql us s) u,i,s.set ||| 1 <<< i,k⟩=nxt d (ql us s) u:=O8 a;obtain ⟨o,p,q⟩:=m u (ZF a);have j:pp d (ql us s) u<=u.high:=by unfold pp; have:=f.2; omega
 have l:u.low<=pp d (ql us s) u:=by unfold pp; omega
 refine ⟨⟨b,g,?_,by show 0<=pp d (ql us s) u; omega,by show pp d (ql us s) u<=1000000; omega,n⟩,c,e⟩;rw [e];rw [c];exact h.way.step a hb f
def X9 (d:bG) (us:List U) (set:Nat) (s:St):Prop:= ∀(j:Nat) v,us[j]?=some v->set.testBit j=false->kH d s v
def Yb (d:bG) (us:List U) (r:Nat) (L:List RS):Prop:= ∃s∈L,pc s.set=r/\Feas d (ql us s) (left us s.set)
theorem DP.few {r:Nat} {L:List RS} (h:DP d us r b L) (n:us.length<=16):L.length<=1048576:=by
 have f:(L.map λs=>s.set*16+s.last).Nodup:=by
  rw [List.nodup_iff_pairwise_ne,List.pairwise_map];refine List.Pairwise.imp_of_mem ?_ h.key;intro a c j k l e;have f:=(h.each a j).last;have g:=(h.each c k).last;apply l;omega
 have g:=ut 1048576 _ f (λx m=>by
  obtain ⟨s,i,rfl⟩:=List.mem_map.1 m;have f:=(h.each s i).last;have g:=(h.each s i).bits;have o:2 ^ us.length<=2 ^ 16:=Nat.pow_le_pow_right ZL n;omega)
 simpa using g
theorem DP.round {r:Nat} {L:List RS} (h:DP d us r b L):DP d us (r+1) L.length L:=by
 refine ⟨h.each,h.key,λi s a c=> ?_,λi s a c=> ?_,h.back⟩
 .by_cases e:i<b
  .have:=h.lo i s a e; omega
  .exact Nat.le_of_eq (h.hi i s a ZJ)
 .have:=(ZE a).1;omega
def RO (us:List U) (i:Nat):RS:=⟨((us[i]?).map (·.low)).getD 0,i,1 <<< i,-1⟩
def Ww (us:List U) (k:Nat):List RS:=(List.range k).map (RO us)
end
end Go.Ord
namespace Go.Proofs.YtoleahhfkpkcjaaGreatDoor
open Go.Proofs.Tryz
open Go.PF Go.RowKit Go.Ord
attribute [local irreducible] TW CW KW DW
abbrev SD (w:World) (v:Value) (d:bG):Prop:=SL (sliceT aS) (λk=>k<w.heap.size) w v d
theorem fI {d:bG} (h:SD w v d) (hb:ZT w w'):SD w' v d:=h.step (iQ fV) hb
theorem DJ {d:bG} (hd:SD w v d):Gives prog 249 #[v] w (ZS w (.bool (dec (WfD d)))):=by
 obtain ⟨A,am,rfl,ae⟩:=hd.form;have af:d.length<=9223372036854775807:=hd.len.2.2;refine gv func249 ntmps249 ?_;refine aB ?_;refine aI rfl (λag=> ?_) (λa7=> ?_)
 .refine aB ?_;refine aO rfl ⟨ZA,by rw [aH (λh=>by have:=h.few; omega)]⟩
 have a8:d.length<=12:=ZJ;refine aB ?_;refine dA [0,16,17] (λk:Nat=> [(18,none,ZU (k:Int))])
  (λk W=>k<=d.length/\W=w/\ ∀(i:Nat) (r:List Int),i<k->d[i]?=some r->RowOK d i r) (λk=>d.length-k) 0 ⟨ZJ,rfl,λi r N=>ZJ⟩ ?_
 rintro k W ⟨hk,rfl,t⟩;refine aB ?_;refine aI rfl (λan=> ?_) (λao=> ?_)
 .have G:k<d.length:=ZJ;obtain ⟨r,q⟩: ∃r,d[k]?=some r:=⟨d[k],ZD G⟩;obtain ⟨ad,rfl⟩:=hd.addr ZJ;obtain ⟨rv,n,e⟩:=hd.row q;obtain ⟨B,a2,rfl,_⟩:=e.form;by_cases s:r.length=d.length
  .obtain ⟨bd,rfl⟩:=e.addr ZJ;obtain ⟨x,J⟩: ∃x,r[k]?=some x:=⟨r[k]'(by omega),ZD ZJ⟩;refine aB ?_;refine aG rfl n ?_;refine aB ?_;refine aG rfl (e.getI J) ?_;refine aB ?_;refine dC [0,3,4,16,17,18,34] rfl ?_;refine aK rfl (λm=> ?_) (λl=> ?_)
   .refine aB ?_;refine aO rfl ⟨ZA,?_⟩;rw [aH];intro h;have:=(h.rowOK q).diag;rw [J] at this;simp [s] at m;exact m (by simpa using this)
   have O:x=0:=by simpa [s] using l
   refine aB ?_;refine dA [0,16,17,18,35,36] (λj:Nat=> [(37,none,ZU (j:Int))])
    (λj W'=>j<=r.length/\W'=W/\ ∀(i:Nat) (y:Int),i<j->r[i]?=some y-> -1<=y/\y<=1000000) (λj=>r.length-j) 0 ⟨ZJ,rfl,λi y N=>ZJ⟩ ?_
   rintro j W' ⟨hj,rfl,K⟩;refine aB ?_;refine aI rfl (λa3=> ?_) (λa4=> ?_)
   .have R:j<r.length:=ZJ;obtain ⟨y,E⟩: ∃y,r[j]?=some y:=⟨r[j],ZD R⟩;refine aB ?_;refine aG rfl (e.getI E) ?_;refine aB ?_;refine dC [0,6,16,17,18,35,36,37,46] rfl ?_;refine aK rfl (λS=> ?_) (λH=> ?_)
    .refine aB ?_;refine aO rfl ⟨ZA,?_⟩;rw [aH];intro h;have:=(h.rowOK q).rng j y E;simp at S;omega
    refine aB ?_;refine cK (j+1) ⟨ZJ,rfl,λi z N U=> ?_⟩;rcases ZI i j with h|h
    .exact K i z h U
    .obtain rfl:i=j:=ZJ;rw [E] at U; cases U;simp at H;omega
   .refine aB ?_;refine cK (k+1) ⟨ZJ,rfl,λi r' N Y=> ?_⟩;rcases ZI i k with h|h
    .exact t i r' h Y
    .obtain rfl:i=k:=ZJ;rw [q] at Y; cases Y;exact ⟨s,by rw [J,O],λj y E=>K j y (by have:=(ZE E).1; omega) E⟩
  .skip
   refine aB ?_;refine aG rfl n ?_;refine aM eQ rfl ⟨ct,trivial⟩ (λ_=>trivial) ?_;refine aM eQ rfl ⟨ct,trivial⟩ (λ_=>trivial) ?_;refine dG (bD [0,3,4,16,17,18] [(0,_,_),(3,_,_),(4,_,_),(16,_,_),(17,_,_),(18,_,_)] rfl (aL ?_));refine fQ (fQ (dK ?_));refine aM bX rfl ⟨ct,trivial⟩ (λ_=>trivial) ?_;refine aM V.lenSlice rfl ⟨ct,trivial⟩ (λ_=>trivial) ?_;refine aM bX rfl ⟨ct,trivial⟩ (λ_=>trivial) ?_;refine aM V.lenSlice rfl ⟨ct,trivial⟩ (λ_=>trivial) ?_;refine aM Eg rfl ⟨ct,ct,trivial⟩ (λ_=>trivial) ?_;refine aM bX rfl ⟨ct,trivial⟩ (λ_=>trivial) ?_;refine bJ (.bool false) rfl (by simp [aF]; omega) rfl ?_;refine bJ (.bool false) rfl (by simp [aF]; omega) rfl ?_;refine bJ (.bool false) rfl (by simp [aF]; omega) rfl ?_;refine bJ (.bool false) rfl (by simp [aF]; omega) rfl ?_;refine bJ (.bool false) rfl (by simp [aF]; omega) rfl ?_;refine aB ?_;refine dC [0,3,4,16,17,18,34] rfl ?_;refine aK rfl (λm=> ?_) (λl=> ?_)
   .refine aB ?_;refine aO rfl ⟨ZA,by rw [aH (λh=>s (h.rowOK q).len)]⟩
   exfalso;simp at l;omega
 .have g: ∀(i:Nat) (r:List Int),d[i]?=some r->RowOK d i r:=λi r q=>t i r (by have:=(ZE q).1; omega) q;have L: ∀i,i<d.length-> ∃r,d[i]?=some r/\r.length=d.length:=λi N=>⟨d[i],ZD N,(g i _ (ZD N)).len⟩;refine aB ?_;refine dA [0,49,50] (λi:Nat=> [(51,none,ZU (i:Int))])
   (λi W'=>i<=d.length/\W'=W/\ ∀a b c,a<i->b<d.length->c<d.length->Wd d a b c) (λi=>d.length-i) 0 ⟨ZJ,rfl,λa b c ha=>ZJ⟩ ?_
  rintro i W' ⟨N,rfl,M⟩;refine aB ?_;refine aI rfl (λah=> ?_) (λai=> ?_)
  .have a5:i<d.length:=ZJ;obtain ⟨r,q,ap⟩:=L i a5;obtain ⟨ad,rfl⟩:=hd.addr ZJ;obtain ⟨rv,n,e⟩:=hd.row q;obtain ⟨B,a2,rfl,_⟩:=e.form;obtain ⟨bd,rfl⟩:=e.addr ZJ;refine aB ?_;refine aG rfl n ?_;refine aB ?_;refine dA [0,7,8,49,50,51,56,57] (λk:Nat=> [(58,none,ZU (k:Int))])
    (λk W2=>k<=d.length/\W2=W'/\ ∀b c,b<k->c<d.length->Wd d i b c) (λk=>d.length-k) 0 ⟨ZJ,rfl,λb c hb=>ZJ⟩ ?_
   rintro k W2 ⟨aq,rfl,o⟩;refine aB ?_;refine aI rfl (λa3=> ?_) (λa4=> ?_)
   .have G:k<d.length:=ZJ;obtain ⟨x,J⟩: ∃x,r[k]?=some x:=⟨r[k]'(by omega),ZD ZJ⟩;have C:=nR q J;obtain ⟨r2,Z,aj⟩:=L k G;obtain ⟨ar,I,p⟩:=hd.row Z;obtain ⟨B2,a9,rfl,_⟩:=p.form;obtain ⟨au,rfl⟩:=p.addr ZJ;have av:=(g i r q).rng k x J;refine aB ?_;refine aG rfl (e.getI J) ?_;refine aB ?_;refine dC [0,7,8,9,10,49,50,51,56,57,58,69] rfl ?_;refine aK rfl (λa0=> ?_) (λaa=> ?_)
    .refine aB ?_;refine cK (k+1) ⟨ZJ,rfl,λb c hb F=> ?_⟩;rcases ZI b k with h|h
     .exact o b c h F
     .obtain rfl:b=k:=ZJ;intro q1 q2;rw [C] at q1;simp at a0;have ab:i=b:=ZJ;subst ab;have O:x=0:=by
       have:=(g i r q).diag;rw [J] at this;simpa using this
      rw [C,O];exact ⟨q2,ZJ⟩
    have ac:x≠ -1:=λh=>by simp [h] at aa
    refine aB ?_;refine aG rfl I ?_;refine aB ?_;refine dA [0,7,8,10,49,50,51,56,57,58,73,74] (λj:Nat=> [(75,none,ZU (j:Int))])
     (λj W3=>j<=d.length/\W3=W2/\ ∀c,c<j->Wd d i k c) (λj=>d.length-j) 0 ⟨ZJ,rfl,λc F=>ZJ⟩ ?_
    rintro j W3 ⟨aw,rfl,D⟩;refine aB ?_;refine aI rfl (λak=> ?_) (λal=> ?_)
    .have R:j<d.length:=ZJ;obtain ⟨y,E⟩: ∃y,r2[j]?=some y:=⟨r2[j]'(by omega),ZD ZJ⟩;obtain ⟨z,U⟩: ∃z,r[j]?=some z:=⟨r[j]'(by omega),ZD ZJ⟩;have a1:=nR Z E;have a6:=nR q U;have ax:=(g k r2 Z).rng j y E;refine aB ?_;refine aG rfl (p.getI E) ?_;refine aB ?_;refine aG rfl (e.getI U) ?_;refine aB ?_;refine aG rfl (e.getI U) ?_;refine aB ?_;refine dC [0,7,8,10,11,12,49,50,51,56,57,58,73,74,75,98] rfl ?_;refine aK rfl (λm=> ?_) (λl=> ?_)
     .refine aB ?_;refine aO rfl ⟨ZA,?_⟩;rw [aH];intro h;have ht:=h.tri i k j a5 G R (by rw [C]; exact ac);rw [C,a1,a6] at ht;simp at m;have:=ht m.1;omega
     refine aB ?_;refine cK (j+1) ⟨ZJ,rfl,λc F=> ?_⟩;rcases ZI c j with h|h
     .exact D c h
     .obtain rfl:c=j:=ZJ;intro _ q2;rw [a1] at q2;rw [C,a1,a6];simp [q2] at l;omega
    .refine aB ?_;refine cK (k+1) ⟨ZJ,rfl,λb c hb F=> ?_⟩;rcases ZI b k with h|h
     .exact o b c h F
     .obtain rfl:b=k:=ZJ;exact D c ZJ
   .refine aB ?_;refine cK (i+1) ⟨ZJ,rfl,λa b c ha hb F=> ?_⟩;rcases ZI a i with h|h
    .exact M a b c h hb F
    .obtain rfl:a=i:=ZJ;exact o b c ZJ F
  .refine aB ?_;refine aO rfl ⟨ZA,by rw [aD (RG a8 g (λa b c ha hb F=>M a b c ZJ hb F))]⟩
end Go.Proofs.YtoleahhfkpkcjaaGreatDoor
namespace Go.PF
open Go.RowKit
section
section
variable {P:Program} {r:Option Nat} {Q:Exit->Act->World->Prop} {N:Nat} {ds:List Deferred} {ops rest:List Oper} {E:Env} {w:World}
variable {ty ty':TypeId} {pos pos':String} {af af':Array Edge} {x s:Operand}
theorem ra {t d1:Nat} {xv:Value} {a:α} {q: ∀(g:Nat) rv' w',RowB T w' e b rv' (ps++ [(cs,a)])->w.grownBy w' rv.ownBlock->(∀k,rv'.ownBlock=some k->rv.ownBlock=some k\/w.heap.size<=k)->rv'.oneCell'=true->Prop}
  (hok:bZ P t e T.n bytes=true) (he:cB P t e T.n=true) (h:(aC N (some d1),aC N d2,ev E x,ev ((d1,none,.slice (some ⟨w.heap.size,0,none⟩) 1 1)::E) s,xv.cells)=(true,true,some (none,xv),some (none,rv),cs.toArray)) (hR:RowB T w e b rv ps) (hr:T.rep (λk=>b<=k/\iE w rv k) w cs a) (h1:cs.all (·.oneCell')=true) (hn:ps.length<=1000000) (hb:b<=w.heap.size)
  (next: ∀g rv' w' a1 a2 a3 a4,q g rv' w' a1 a2 a3 a4) (hbb:Nat.ble 1 bytes&&Nat.ble bytes 1000&&Nat.ble 1 T.n&&Nat.ble T.n 1000=true:=by rfl)
  (imp: ∀g rv' w' a1 a2 a3 a4,Wp (q g rv' w' a1 a2 a3 a4)->TW P r Q N ds ops rest (ins (ins E (some d1) none (.slice (some ⟨g,0,none⟩) 1 1)) d2 none rv') w':=by exact λ_ _ _ _ _ _ _ h=>jB h) :
  TW P r Q N ds ops (⟨some d1,.buildSlice t 1 #[(0,x)],ty,pos,af,none⟩::⟨d2,.call ⟨.builtin .append,#[s,.tmp d1],#[t,t]⟩,ty',pos',af',none⟩::rest) E w:=by
 simp only [Prod.mk.injEq] at h;obtain ⟨hd1,hd2,hx,hs,hcs⟩:=h;simp only [Bool.and_eq_true,Nat.ble_eq] at hbb;have hl:=T.len _ _ _ _ hr;refine bI (cs:=cs) e [x] rfl hd1 rfl he (aA hx ct aJ) rfl ?_ ?_ rfl ?_ ?_
 .simp [hcs,hl]
 .have h2:T.n<=1000:=by simpa using hbb.2
  simp only [List.length_singleton,Nat.ble_eq]; omega
 .simp [hcs]
 intro g w1 f1;have e1:=f1.at_;subst e1;have hR1:=hR.step f1.below;have hsl:ev (ins E (some d1) none (.slice (some ⟨w.heap.size,0,none⟩) 1 1)) (.tmp d1)=some (none,.slice (some ⟨w.heap.size,0,none⟩) 1 1):=by
  simp [ins,ev,look]
 refine aT cs rfl hd2 hok hs hR1.1 hsl ZJ (λj u hj=>⟨_,rfl,f1.blk.fld hj⟩) (λu hu=>List.all_eq_true.1 h1 u hu) ?_ hbb.1.1.1 ?_
 .exact Nat.le_trans (Nat.mul_le_mul (show ps.length+1<=1000001 by omega) hbb.1.1.2) ZL
 intro rv' w2 hO hg hn';have hrow: ∀k,(b<=k/\iE w rv k)->b<=k/\iE w1 rv k:=λk hk=>⟨hk.1,Nat.lt_of_lt_of_le hk.2.1 f1.below.size,hk.2.2⟩;have hR2:=RowB.app hR1 hO hg hn' (T.wider _ _ _ _ _ hrow (T.mono _ _ _ _ _ (Kept.of_below f1.below) hr)) (Nat.le_trans hb f1.below.size);have hg2:=(GB.of_below f1.below).trans hg;have hnew: ∀k,rv'.ownBlock=some k->rv.ownBlock=some k\/w.heap.size<=k:=λk hk=>by
  rcases hn' with q|q
  .exact .inl (by rw [<-q]; exact hk)
  .rw [q] at hk; cases hk; exact .inr f1.below.size
 have hone:rv'.oneCell'=true:=by
  obtain ⟨A,c,e,_⟩:=hR2.1.form;rw [e]; rfl
 exact imp _ rv' w2 hR2 hg2 hnew hone ⟨next _ rv' w2 hR2 hg2 hnew hone⟩
end
theorem KD {v':Value} {x:α} (h:RowB T w e b v ps) (o:OwnS w' e T.n v' (ps.length+1) (ps.flatMap (·.1)++cs)) (i:w.grownBy w' v.ownBlock) (hn:v'.ownBlock=v.ownBlock\/ ∃k,v'.ownBlock=some k/\w.heap.size<=k)
  (r:T.rep (λk=>b<=k/\iE w' v' k) w' cs x) (hb:b<=w.heap.size):RowB T w' e b v' (ps++ [(cs,x)]):=by
 have a:Kept (λk=>b<=k/\iE w v k) w w':=Kept.of_blocks λk a f=>i.block k f (λe=>a.2.2 e.symm);have l: ∀k,(b<=k/\iE w v k)->b<=k/\iE w' v' k:=λk a=>⟨a.1,Nat.lt_of_lt_of_le a.2.1 i.size,λe=>by
  rcases hn with c|⟨j,c,m⟩
  .exact a.2.2 (by rw [<-c]; exact e)
  .rw [c] at e; cases e; exact absurd a.2.1 ZJ⟩
 refine ⟨by rw [List.flatMap_append,List.length_append]; simpa using o,λp d=> ?_,λq g=> ?_⟩
 .rcases ZH d with d|d
  .exact T.wider _ _ _ _ _ l (T.mono _ _ _ _ _ a (h.2.1 p d))
  .rw [List.mem_singleton] at d;subst d;exact r
 .rcases hn with c|⟨j,c,m⟩
  .exact h.2.2 q (by rw [<-c]; exact g)
  .rw [c] at g; cases g; omega
theorem RowB.but {g:Nat} (h:RowB T w e b v ps) (hb:But g w w') (f:g<b):RowB T w' e b v ps :=
 ⟨h.1.kept λk a=>hb.block k (h.1.lt a) (λe=>by cases e; have:=h.2.2 _ a; omega),λp d=>T.wider _ _ _ _ _ (λk a=>⟨a.1,Nat.lt_of_lt_of_le a.2.1 hb.size,a.2.2⟩) (T.mono _ _ _ _ _ (Kept.of_blocks λk a c=>hb.block k c (λe=>by cases e; have:=a.1; omega)) (h.2.1 p d)),h.2.2⟩
end
section
theorem qF:dec True=true:=aD trivial
theorem DL:dec False=false:=aH id
theorem Lc (_:i<=n) (k:i<n):i<n:=k
theorem Le (_:i<=n) (k:i=n):i=n:=k
section
variable {P:Program} {r:Option Nat} {Q:Exit->Act->World->Prop} {N:Nat} {ds:List Deferred} {ops rest:List Oper} {E K:Env} {w:World}
structure Jw {σ:Type} (J:Nat->σ->World->Prop) (i:Nat) (x:σ) (w:World):Prop where
 q:J i x w
structure Jv {σ:Type} (J:σ->World->Prop) (x:σ) (w:World):Prop where
 q:J x w
abbrev Fw {σ:Type} (F:σ->Env) (x:σ):Env:=F x
theorem ze (w0:World) (ks:List Nat) (s n:Nat) (F:σ->Env) (J:Nat->σ->World->Prop) (x0:σ)
  {q: ∀i x W,i<n->ZT w0 W->J i x W->Prop} {q2: ∀x W,ZT w0 W->J n x W->Prop}
  (h0:J 0 x0 w) (go: ∀i x W a b e,q i x W a b e) (out: ∀x W b e,q2 x W b e) (hb:ZT w0 w:=by exact bK)
  (hK:PF.pick E ks=some K:=by rfl) (hE:PF.pick E (((s,none,Value.int .i64 ((0:Nat):Int))::Fw F x0).map (·.1))=some ((s,none,ZU ((0:Nat):Int))::Fw F x0):=by rfl)
  (imp:(∀i x W a b e,Wp (q i x W a b e))->(∀x W b e,Wp (q2 x W b e))-> ∀i x W,i<=n->ZT w0 W->Jw J i x W ->
   CW P r (Exit.then (λa' w'=> ∃x':Nat×σ,Fit N ds ((λx:Nat×σ=>(s,none,ZU (x.1:Int))::Fw F x.2) x'++K) a'/\(λ(x:Nat×σ) W=>x.1<=n/\ZT w0 W/\Jw J x.1 x.2 W) x' w'/\n-x'.1<n-i) Q) N ds c ((s,none,ZU (i:Int))::(Fw F x++K)) W:=by
    intro h1 h2 i x W a b e;obtain ⟨e⟩:=e;refine rn ?_;refine aI rfl (λh=> ?_) (λh=> ?_)
    .have hi:=Lc a ZJ;clear h a;exact jB (h1 i x W hi b e)
    .have hi:=Le a ZJ;clear h;subst i;exact jB (h2 x W b e)):CW P r Q N ds (.loop c) E w :=
 dA ks (λx:Nat×σ=>(s,none,ZU (x.1:Int))::Fw F x.2) (λx W=>x.1<=n/\ZT w0 W/\Jw J x.1 x.2 W) (λx=>n-x.1) (0,x0) ⟨ZB,hb,⟨h0⟩⟩
  (λx W ⟨a,b,e⟩=>imp (λi x W a b e=>⟨go i x W a b e⟩) (λx W b e=>⟨out x W b e⟩) x.1 x.2 W a b e) hK hE
theorem qz {F:σ->Env} (x':σ) (hJ:J (i+1) x' w) (hb:ZT w0 w:=by exact bK) (hi:i<n:=by first|assumption|omega)
  (hp:PF.pick E ((((s,none,Value.int .i64 ((i+1:Nat):Int))::Fw F x')++K).map (·.1))=some (((s,none,ZU ((i+1:Nat):Int))::Fw F x')++K):=by rfl) :
  KW N ds (Exit.then (λa' w'=> ∃x':Nat×σ,Fit N ds ((λx:Nat×σ=>(s,none,ZU (x.1:Int))::Fw F x.2) x'++K) a'/\(λ(x:Nat×σ) W=>x.1<=n/\ZT w0 W/\Jw J x.1 x.2 W) x' w'/\n-x'.1<n-i) Q .normal) E w :=
 λ_ ha=>⟨(i+1,x'),ha.pick hp,⟨hi,hb,⟨hJ⟩⟩,by dsimp only; omega⟩
theorem BA (ks:List Nat) (s n:Nat) (J:Nat->World->Prop)
  {q: ∀i W,i<n->ZT w W->J i W->Prop} {q2: ∀W,ZT w W->J n W->Prop}
  (h0:J 0 w) (go: ∀i W a b e,q i W a b e) (out: ∀W b e,q2 W b e)
  (hK:PF.pick E ks=some K:=by rfl) (hE:PF.pick E [s]=some [(s,none,ZU ((0:Nat):Int))]:=by rfl)
  (imp:(∀i W a b e,Wp (q i W a b e))->(∀W b e,Wp (q2 W b e))-> ∀i W,i<=n->ZT w W->J i W ->
   CW P r (Exit.then (λa' w'=> ∃x':Nat,Fit N ds ((λi:Nat=> [(s,none,ZU (i:Int))]) x'++K) a'/\(x'<=n/\ZT w w'/\J x' w')/\n-x'<n-i) Q) N ds c ((s,none,ZU (i:Int))::K) W:=by
    intro h1 h2 i W a b e;refine rn ?_;refine aI rfl (λh=> ?_) (λh=> ?_)
    .have hi:=Lc a ZJ;clear h a;exact jB (h1 i W hi b e)
    .have hi:=Le a ZJ;clear h;subst i;exact jB (h2 W b e)):CW P r Q N ds (.loop c) E w :=
 dA ks (λi:Nat=> [(s,none,ZU (i:Int))]) (λi W=>i<=n/\ZT w W/\J i W) (λi=>n-i) 0 ⟨ZB,ZA,h0⟩
  (λi W ⟨a,b,e⟩=>imp (λi W a b e=>⟨go i W a b e⟩) (λW b e=>⟨out W b e⟩) i W a b e) hK hE
theorem ME (w0:World) (ks:List Nat) (s n:Nat) (J:Nat->World->Prop)
  {q: ∀i W,i<n->ZT w0 W->J i W->Prop} {q2: ∀W,ZT w0 W->J n W->Prop}
  (h0:J 0 w) (go: ∀i W a b e,q i W a b e) (out: ∀W b e,q2 W b e) (hb:ZT w0 w:=by exact bK)
  (hK:PF.pick E ks=some K:=by rfl) (hE:PF.pick E [s]=some [(s,none,ZU ((0:Nat):Int))]:=by rfl)
  (imp:(∀i W a b e,Wp (q i W a b e))->(∀W b e,Wp (q2 W b e))-> ∀i W,i<=n->ZT w0 W->J i W ->
   CW P r (Exit.then (λa' w'=> ∃x':Nat,Fit N ds ((λi:Nat=> [(s,none,ZU (i:Int))]) x'++K) a'/\(x'<=n/\ZT w0 w'/\J x' w')/\n-x'<n-i) Q) N ds c ((s,none,ZU (i:Int))::K) W:=by
    intro h1 h2 i W a b e;refine rn ?_;refine aI rfl (λh=> ?_) (λh=> ?_)
    .have hi:=Lc a ZJ;clear h a;exact jB (h1 i W hi b e)
    .have hi:=Le a ZJ;clear h;subst i;exact jB (h2 W b e)):CW P r Q N ds (.loop c) E w :=
 dA ks (λi:Nat=> [(s,none,ZU (i:Int))]) (λi W=>i<=n/\ZT w0 W/\J i W) (λi=>n-i) 0 ⟨ZB,hb,h0⟩
  (λi W ⟨a,b,e⟩=>imp (λi W a b e=>⟨go i W a b e⟩) (λW b e=>⟨out W b e⟩) i W a b e) hK hE
def Seen (G:Nat->Prop) (i:Nat) (_:World):Prop:= ∀k,k<i->G k
theorem Seen.zero:Seen G 0 w:=λk h=>absurd h (Nat.not_lt_zero k)
theorem Seen.go (h:Seen G i w) (g:G i):Seen G (i+1) w':=λk a=>(Nat.lt_succ_iff_lt_or_eq.1 a).elim (h k) λe=>e ▸ g
theorem Seen.all {G:α->Prop} {w:World} (h:Seen (λi=> ∀x,l[i]?=some x->G x) l.length w): ∀x∈l,G x:=λx b=>by
 obtain ⟨i,a⟩:=List.mem_iff_getElem?.1 b;exact h i (ZE a).1 x a
theorem rT (hp:p) (h:(fn.results,look E s)=(#[.tmp s],some (none,.bool true)):=by rfl) (hb:ZT w0 w:=by exact bK) :
  KW N [] (bodyPost P fn (λe w'=> ∃v,e= .returned v/\(λu w'=>ZT w0 w'/\u=Value.bool (dec p)) v w') .ret) E w:=aO h ⟨hb,by rw [aD hp]⟩
theorem rF (hp: ¬p) (h:(fn.results,look E s)=(#[.tmp s],some (none,.bool false)):=by rfl) (hb:ZT w0 w:=by exact bK) :
  KW N [] (bodyPost P fn (λe w'=> ∃v,e= .returned v/\(λu w'=>ZT w0 w'/\u=Value.bool (dec p)) v w') .ret) E w:=aO h ⟨hb,by rw [aH hp]⟩
theorem rB {b:Bool} (h:(fn.results,look E s)=(#[.tmp s],some (none,.bool b))) (hp:b=true↔p) (hb:ZT w0 w:=by exact bK) :
  KW N [] (bodyPost P fn (λe w'=> ∃v,e= .returned v/\(λu w'=>ZT w0 w'/\u=Value.bool (dec p)) v w') .ret) E w:=aO h ⟨hb,by
   cases b with
   | true=>rw [aD (hp.1 rfl)]
   | false=>rw [aH λh=>by cases hp.2 h]⟩
theorem cg {gu:Option (Nat×Bool)} {G:Option Bool} {k:FuncId} {cs:List (Option Bool)} {X:Value} {q: ∀w',ZT w w'->Prop}
  (h:(gd ops E gu,aC N d,Ud E xs)=(some G,true,some (cs,vs))) (hc:aF G->Gives P k vs.toArray w (ZS w X)) (next: ∀w' b,q w' b)
  (hi:uF G cs:=by first|exact ⟨ct,trivial⟩|exact ⟨ct,ct,trivial⟩|exact ⟨id,trivial⟩|(repeat (first|exact trivial|(apply And.intro; (first|exact ct|exact id|exact cZ|(simp_all [aF]; done))))))
  (imp: ∀w' b,Wp (q w' b)->TW P r Q N ds ops rest (ins E d G X) w':=by exact λ_ _ h=>jB h) (he:enters P k=true:=by kernel_rfl):TW P r Q N ds ops (⟨d,.call ⟨.value (.func k),xs.toArray,ts⟩,ty,pos,af,gu⟩::rest) E w:=by
 simp only [Prod.mk.injEq] at h;exact il h.1 h.2.1 he rfl (λ_=>trivial) (λa ha hG=>AM ha hG h.2.2 hi) (λg=>by simpa using hc g) λw' b=>imp w' b ⟨next w' b⟩
theorem bs {t sz len:Nat} (cs:List Value) {q: ∀g w',Fresh w w' g e cs->Prop} (he:cB P t e sz=true) (h:(aC N d,evs E (parts.toList.map (·.2)))=(true,some vs)) (next: ∀g w' f,q g w' f)
  (hp:parts.toList=number (parts.toList.map (·.2)):=by rfl) (hl:len=vs.length:=by rfl) (hv:vs.all (λv=>Nat.beq v.cells.size sz)=true:=by rfl) (hsm:Nat.ble (vs.length*sz) 16777216=true:=by rfl) (hpos:Nat.blt 0 vs.length=true:=by rfl) (hcs:vs.flatMap (λv=>v.cells.toList)=cs:=by first|rfl|kernel_rfl)
  (imp: ∀g w' f,Wp (q g w' f)->TW P r Q N ds ops rest (ins E d none (.slice (some ⟨g,0,none⟩) len len)) w':=by exact λ_ _ _ h=>jB h):TW P r Q N ds ops (⟨d,.buildSlice t len parts,ty,pos,af,none⟩::rest) E w:=by
 simp only [Prod.mk.injEq] at h;exact bI e _ rfl h.1 hp he (fJ h.2) hl hv hsm hpos hcs λg w' f=>imp g w' f ⟨next g w' f⟩
theorem ms {t:Nat} {y:Operand} {k k':IntKind} {q: ∀g w',Fresh w w' g e (List.replicate n u)->Prop} (hg:bZ P t e 1 bytes=true) (hz:(P.info? e).bind (·.zero)=some u) (h:(aC N d,ev E x,ev E y,u.cells)=(true,some (none,.int k (n:Int)),some (none,.int k' (n:Int)),#[u]))
  (next: ∀g w' f,q g w' f) (hb:bytes*n<=281474976710656:=by omega) (hn:n<=9223372036854775807:=by omega) (imp: ∀g w' f,Wp (q g w' f)->TW P r Q N ds ops rest (ins E d none (.slice (some ⟨g,0,none⟩) n n)) w':=by exact λ_ _ _ h=>jB h):TW P r Q N ds ops (⟨d,.makeSlice t x y,ty,pos,af,none⟩::rest) E w:=by
 simp only [Prod.mk.injEq] at h;exact tK rfl h.1 (BB hg hz h.2.2.2) h.2.1 h.2.2.1 hb hn λg w' f=>imp g w' f ⟨next g w' f⟩
theorem bo {sb:ByteArray} {t t' e:TypeId} {q: ∀(g c:Nat) w',ZT w w'->(∀i,i<sb.size->w'.cell? ⟨g,i,none⟩=some (.int .u8 ((sb.data.getD i 0).toNat:Int)))->Prop} [Und P t .string] [Und P t' (.slice e)] [Und P e (.int .u8)] (h:(aC N d,ev E x)=(true,some (none,.string sb)))
  (next: ∀g c w' b f,q g c w' b f) (imp: ∀g c w' b f,Wp (q g c w' b f)->TW P r Q N ds ops rest (ins E d none (.slice (some ⟨g,0,none⟩) sb.size c)) w':=by exact λ_ _ _ _ _ h=>jB h):TW P r Q N ds ops (⟨d,.convert t t' x,ty,pos,af,none⟩::rest) E w:=by
 simp only [Prod.mk.injEq] at h;exact GQ rfl h.1 Und.q Und.q Und.q h.2 λg c w' _ _ b f=>imp g c w' b f ⟨next g c w' b f⟩
theorem cw {f:Operand} {k:FuncId} {cap:List Value} {q: ∀u w',R u w'->Prop} (he:enters P k=true) (h:(aC N d,ev E f,evs E xs)=(true,some (none,.func (.func k) #[] cap.toArray),some vs)) (hc:Gives P k (vs++cap).toArray w R)
  (next: ∀u w' e,q u w' e) (imp: ∀u w' e,Wp (q u w' e)->TW P r Q N ds ops rest (ins E d none u) w':=by exact λ_ _ _ h=>jB h):TW P r Q N ds ops (⟨d,.call ⟨.value f,xs.toArray,ts⟩,ty,pos,af,none⟩::rest) E w:=by
 simp only [Prod.mk.injEq] at h;exact fE rfl h.1 he h.2.1 (fJ h.2.2) hc λ_ w' e=>imp _ w' e ⟨next _ w' e⟩
theorem iv {y:Operand} {t e:TypeId} {l:Nat} {k:IntKind} {i:Int} [Und P t (.array l e)] [One P e] [Sz P e 1] (hv:cs[i.toNat]?=some v) (h:(aC N d,ev E x,ev E y)=(true,some (none,.agg cs.toArray),some (none,.int k i))) (next:q) (hi:0<=i/\i<(l:Int):=by omega)
  (imp:Wp q->TW P r Q N ds ops rest (ins E d none v) w:=by exact λh=>jB h):TW P r Q N ds ops (⟨d,.index t x y,ty,pos,af,none⟩::rest) E w:=by
 simp only [Prod.mk.injEq] at h;exact Kz rfl h.1 Und.q One.q Sz.q h.2.1 ct h.2.2 ct (λ_=>hi) (λ_=>hv) (imp ⟨next⟩)
theorem la {t e:TypeId} (cs:List Value) [Und P t (.array m e)] [Sz P t n] (h:(aC N d,ev E x)=(true,some (none,.pointer (some ad)))) (hc: ∀j v,cs[j]?=some v->w.cell? (ad.add j)=some v) (next:q) (hl:cs.length=n:=by rfl)
  (imp:Wp q->TW P r Q N ds ops rest (ins E d none (.agg cs.toArray)) w:=by exact λh=>jB h):TW P r Q N ds ops (⟨d,.load t x,ty,pos,af,none⟩::rest) E w:=by
 simp only [Prod.mk.injEq] at h;exact Ox cs rfl h.1 Und.q Sz.q h.2 ct (λ_=>hc) hl (imp ⟨next⟩)
theorem rg {t d1:Nat} {xv:Value} {a:α} {ty':TypeId} {pos':String} {af':Array Edge} {s:Operand} 
  {q: ∀(g:Nat) rv' w',RowB T w' e w0.heap.size rv' (ps++ [(cs,a)])->ZT w0 w'->Prop}
  (hok:bZ P t e T.n bytes=true) (he:cB P t e T.n=true) (h:(aC N (some d1),aC N d2,ev E x,ev ((d1,none,.slice (some ⟨w.heap.size,0,none⟩) 1 1)::E) s,xv.cells)=(true,true,some (none,xv),some (none,rv),cs.toArray)) (hR:RowB T w e w0.heap.size rv ps) (hr:T.rep (λk=>w0.heap.size<=k/\iE w rv k) w cs a)
  (next: ∀g rv' w' a1 b,q g rv' w' a1 b) (hb:ZT w0 w:=by exact bK) (h1:cs.all (·.oneCell')=true:=by rfl) (hn:ps.length<=1000000:=by first|omega|exact ZB) (hbb:Nat.ble 1 bytes&&Nat.ble bytes 1000&&Nat.ble 1 T.n&&Nat.ble T.n 1000=true:=by rfl)
  (imp: ∀g rv' w' a1 b,Wp (q g rv' w' a1 b)->TW P r Q N ds ops rest (ins (ins E (some d1) none (.slice (some ⟨g,0,none⟩) 1 1)) d2 none rv') w':=by exact λ_ _ _ _ _ h=>jB h) :
  TW P r Q N ds ops (⟨some d1,.buildSlice t 1 #[(0,x)],ty,pos,af,none⟩::⟨d2,.call ⟨.builtin .append,#[s,.tmp d1],#[t,t]⟩,ty',pos',af',none⟩::rest) E w :=
 ra hok he h hR hr h1 hn hb.size (λg rv' w' a1 a2 _ _=>(imp g rv' w' a1 (hb.grown a2 hb.size hR.2.2) ⟨next g rv' w' a1 (hb.grown a2 hb.size hR.2.2)⟩)) hbb (λ_ _ _ _ _ _ _ h=>h.q)
theorem WC {t d1:Nat} {xv:Value} {a:α} {ty':TypeId} {pos':String} {af':Array Edge} {s:Operand} 
  {q: ∀(g:Nat) rv' w',RowB T w' e w0.heap.size rv' (ps++ [(cs,a)])->ZT w0 w'->w.grownBy w' rv.ownBlock->(∀k,rv'.ownBlock=some k->rv.ownBlock=some k\/w.heap.size<=k)->Prop}
  (hok:bZ P t e T.n bytes=true) (he:cB P t e T.n=true) (h:(aC N (some d1),aC N d2,ev E x,ev ((d1,none,.slice (some ⟨w.heap.size,0,none⟩) 1 1)::E) s,xv.cells)=(true,true,some (none,xv),some (none,rv),cs.toArray)) (hR:RowB T w e w0.heap.size rv ps) (hr:T.rep (λk=>w0.heap.size<=k/\iE w rv k) w cs a)
  (next: ∀g rv' w' a1 b c d,q g rv' w' a1 b c d) (hb:ZT w0 w:=by exact bK) (h1:cs.all (·.oneCell')=true:=by rfl) (hn:ps.length<=1000000:=by first|omega|exact ZB) (hbb:Nat.ble 1 bytes&&Nat.ble bytes 1000&&Nat.ble 1 T.n&&Nat.ble T.n 1000=true:=by rfl)
  (imp: ∀g rv' w' a1 b c d,Wp (q g rv' w' a1 b c d)->TW P r Q N ds ops rest (ins (ins E (some d1) none (.slice (some ⟨g,0,none⟩) 1 1)) d2 none rv') w':=by exact λ_ _ _ _ _ _ _ h=>jB h) :
  TW P r Q N ds ops (⟨some d1,.buildSlice t 1 #[(0,x)],ty,pos,af,none⟩::⟨d2,.call ⟨.builtin .append,#[s,.tmp d1],#[t,t]⟩,ty',pos',af',none⟩::rest) E w :=
 ra hok he h hR hr h1 hn hb.size (λg rv' w' a1 a2 a3 _=>(imp g rv' w' a1 (hb.grown a2 hb.size hR.2.2) a2 a3 ⟨next g rv' w' a1 (hb.grown a2 hb.size hR.2.2) a2 a3⟩)) hbb (λ_ _ _ _ _ _ _ h=>h.q)
theorem Ic {w:World} {g t:Nat} {l:List Int} (h:Blk w g t (l.map (.int .i64))) (b:F g) (c: ∀x∈l,fF x) (hl:l.length<=9223372036854775807):SL aS F w (.slice (some ⟨g,0,none⟩) l.length l.length) l :=
 dO (aU h ZM hl) c (λk a=>by cases a; exact b) hl
theorem RowB.lo {w:World} {b':Nat} (h:RowB T w e b v ps) (hb:b'<=b):RowB T w e b' v ps:=⟨h.1,λp c=>T.wider _ _ _ _ _ (λk a=>⟨Nat.le_trans hb a.1,a.2⟩) (h.2.1 p c),λg d=>Nat.le_trans hb (h.2.2 g d)⟩
theorem SL.bnd {w:World} (h:SL T F w v l):l.length<=9223372036854775807:=by
 obtain ⟨_,_,_,_,h,_⟩:=h;exact h
theorem SL.of {w:World} {s:α} (h:SL T F w v l) (hs:l[i]?=some s): ∃a,T.rep F w a s:=by
 obtain ⟨A,c,_,_,_,h⟩:=h;obtain ⟨_,a,_,_,_,h⟩:=h i s hs;exact ⟨a,h⟩
theorem cell0 {w w':World} {x:α} (h:SL T F w v l) (hb:ZT w w') (e:l[i]?=some x) (f: ∀a,T.rep F w a x->a[0]?=some u):w'.cell? ((vP v).add ((i:Int).toNat*T.n))=some u:=by
 obtain ⟨A,c,rfl,_,_,h⟩:=h;obtain ⟨g,a,rfl,_,b,d⟩:=h i x e;have:=b 0 u (f a d);exact (hb.cell (block_lt_of_cell this)).trans this
theorem SL.el {w w':World} {x:α} (h:SL T F w v l) (hb:ZT w w') (f:l[i]?=some x): ∃a,(∀j u,a[j]?=some u->w'.cell? (((vP v).add ((i:Int).toNat*T.n)).add j)=some u)/\T.rep F w a x:=by
 obtain ⟨A,c,rfl,_,_,h⟩:=h;obtain ⟨g,a,rfl,_,b,e⟩:=h i x f;exact ⟨a,λj u d=>(hb.cell (block_lt_of_cell (b j u d))).trans (b j u d),e⟩
abbrev OU (α:Type):=Nat×Value×List (List Value×α)
theorem SF (ks:List Nat) (s n rs:Nat) (T:Ty α) (e:TypeId) (l:List α)
  {q: ∀i rv ps W,i<n->ZT w W->RowB T W e w.heap.size rv ps->ps.map (·.2)=l.take i->Prop} {q2: ∀rv ps W,ZT w W->RowB T W e w.heap.size rv ps->ps.map (·.2)=l.take n->Prop}
  (go: ∀i rv ps W a b e f,q i rv ps W a b e f) (out: ∀rv ps W b e f,q2 rv ps W b e f)
  (hK:PF.pick E ks=some K:=by rfl) (hE:PF.pick E [s,rs]=some [(s,none,ZU ((0:Nat):Int)),(rs,none,.slice none 0 0)]:=by rfl)
  (imp:(∀i rv ps W a b e f,Wp (q i rv ps W a b e f))->(∀rv ps W b e f,Wp (q2 rv ps W b e f))-> ∀i (z:Value×List (List Value×α)) W,i<=n->ZT w W->RowB T W e w.heap.size z.1 z.2->z.2.map (·.2)=l.take i ->
   CW P r (Exit.then (λa' w'=> ∃x':OU α,Fit N ds ((λx:OU α=>(s,none,ZU (x.1:Int)):: [(rs,none,x.2.1)]) x'++K) a'/\(λ(x:OU α) W=>x.1<=n/\ZT w W/\RowB T W e w.heap.size x.2.1 x.2.2/\x.2.2.map (·.2)=l.take x.1) x' w'/\n-x'.1<n-i) Q) N ds c ((s,none,ZU (i:Int))::([(rs,none,z.1)]++K)) W:=by
    intro h1 h2 i x W a b e f;obtain ⟨rv,ps⟩:=x;refine rn ?_;refine aI rfl (λh=> ?_) (λh=> ?_)
    .have hi:=Lc a ZJ;clear h a;exact jB (h1 i rv ps W hi b e f)
    .have hi:=Le a ZJ;clear h;subst i;exact jB (h2 rv ps W b e f)):CW P r Q N ds (.loop c) E w :=
 dA ks (λx:OU α=>(s,none,ZU (x.1:Int)):: [(rs,none,x.2.1)]) (λ(x:OU α) W=>x.1<=n/\ZT w W/\RowB T W e w.heap.size x.2.1 x.2.2/\x.2.2.map (·.2)=l.take x.1) (λx:OU α=>n-x.1) (0,.slice none 0 0,[]) ⟨ZB,ZA,RowB.nil _ _ _ _,rfl⟩
  (λ(x:OU α) W ⟨a,b,e,f⟩=>imp (λi rv ps W a b e f=>⟨go i rv ps W a b e f⟩) (λrv ps W b e f=>⟨out rv ps W b e f⟩) x.1 x.2 W a b e f) hK hE
theorem Q6 {rs:Nat} {a:α} (hx:l[i]?=some a) (hR:RowB T w e w0.heap.size rv (ps++ [(cs,a)])) (hps:ps.map (·.2)=l.take i:=by assumption) (hb:ZT w0 w:=by exact bK) (hi:i<n:=by first|assumption|omega)
  (hp:PF.pick E (s::rs::K.map (·.1))=some (((s,none,ZU ((i+1:Nat):Int)):: [(rs,none,rv)])++K):=by rfl) :
  KW N ds (Exit.then (λa' w'=> ∃x':OU α,Fit N ds ((λx:OU α=>(s,none,ZU (x.1:Int)):: [(rs,none,x.2.1)]) x'++K) a'/\(λ(x:OU α) W=>x.1<=n/\ZT w0 W/\RowB T W e w0.heap.size x.2.1 x.2.2/\x.2.2.map (·.2)=l.take x.1) x' w'/\n-x'.1<n-i) Q .normal) E w :=
 λ_ ha=>⟨(i+1,rv,ps++ [(cs,a)]),ha.pick hp,⟨hi,hb,hR,by rw [List.map_append,hps,ZG,hx]; rfl⟩,by dsimp only; omega⟩
theorem jn {y:Code} (ks:List Nat) (F:σ->Env) (J:σ->World->Prop) {q: ∀K0:Act->World->Prop,(∀x W,ZT w W->Jv J x W->KW N ds K0 (Fw F x++K) W)->Prop} {q2: ∀x W,ZT w W->J x W->Prop}
  (hx: ∀K0 k,q K0 k) (hy: ∀x W b h,q2 x W b h) (hK:PF.pick E ks=some K:=by rfl)
  (imp1: ∀K0 k,Wp (q K0 k)->CW P r (Exit.then K0 Q) N ds c E w:=by exact λ_ _ h=>jB h) (imp2: ∀x W b h,Wp (q2 x W b h)->CW P r Q N ds y (Fw F x++K) W:=by exact λ_ _ _ _ h=>jB h):CW P r (Exit.then (y.wpIn (FR r) 0 P Q) Q) N ds c E w :=
 have hk:=λx W b h=>imp2 x W b h.q ⟨hy x W b h.q⟩
 imp1 _ hk ⟨hx _ hk⟩
theorem jb {id:Nat} {y:Code} (ks:List Nat) (F:σ->Env) (J:σ->World->Prop) {q: ∀K0:Act->World->Prop,(∀x W,ZT w W->Jv J x W->KW N ds K0 (Fw F x++K) W)->Prop} {q2: ∀x W,ZT w W->J x W->Prop}
  (hx: ∀K0 k,q K0 k) (hy: ∀x W b h,q2 x W b h) (hK:PF.pick E ks=some K:=by rfl)
  (imp1: ∀K0 k,Wp (q K0 k)->CW P r (Exit.inBlock id (Exit.then K0 Q)) N ds c E w:=by exact λ_ _ h=>jB h) (imp2: ∀x W b h,Wp (q2 x W b h)->CW P r Q N ds y (Fw F x++K) W:=by exact λ_ _ _ _ h=>jB h):CW P r (Exit.inBlock id (Exit.then (y.wpIn (FR r) 0 P Q) Q)) N ds c E w :=
 have hk:=λx W b h=>imp2 x W b h.q ⟨hy x W b h.q⟩
 imp1 _ hk ⟨hx _ hk⟩
theorem jd {F:σ->Env} {J:σ->World->Prop} {K0:Act->World->Prop} (k: ∀x W,ZT w0 W->Jv J x W->KW N ds K0 (Fw F x++K) W) (x:σ) (h:J x w) (hb:ZT w0 w:=by exact bK) (hp:PF.pick E ((Fw F x++K).map (·.1))=some (Fw F x++K):=by rfl):KW N ds (Exit.then K0 Q .normal) E w:=λ_ ha=>k x w hb ⟨h⟩ _ (ha.pick hp)
end
end
section
theorem Du {β:Type} {l:List β} {z x:β} (a:i=l.length) (h:i<n):(l++List.replicate (n-i) z).set i x=(l++ [x])++List.replicate (n-(i+1)) z:=by
 subst a;rw [List.set_append_right _ _ ZC,Nat.sub_self,show n-l.length=(n-(l.length+1))+1 by omega,List.replicate_succ,List.set_cons_zero,List.append_assoc];rfl
theorem Pp {g t:Nat} {L:List (List α)} (d:Blk w g t vs) (e:F g) (hl:vs.length=L.length) (hb:L.length<=9223372036854775807) (h: ∀(i:Nat) v l,vs[i]?=some v->L[i]?=some l->SL T F w v l):SL (sliceT T) F w (.slice (some ⟨g,0,none⟩) L.length L.length) L :=
 ⟨_,_,rfl,ZC,hb,λi l a=>by
  have b:vs[i]?=some (vs[i]'(by have:=(ZE a).1; omega)):=ZD _;refine ⟨_,[_],rfl,e,λj u c=> ?_,_,rfl,h i _ l b a⟩
  cases j with
  | zero=>cases c;  exact d.fld (by rw [show i*(sliceT T).n=i from Nat.mul_one i]; exact b)
  | succ j=>cases c⟩
theorem But.kept {g:Nat} (h:But g w w') (b: ¬F g):Kept F w w':=Kept.of_blocks λk a _=>h.block k ‹_› λe=>by cases e; exact b a
def RowG {α:Type} (T:Ty α) (G:Nat->Prop) (w:World) (e:TypeId) (b:Nat) (v:Value) (ps:List (List Value×α)):Prop:=OwnS w e T.n v ps.length (ps.flatMap (·.1))/\(∀p∈ps,T.rep (λk=>G k/\iE w v k) w p.1 p.2)/\ ∀g,v.ownBlock=some g->b<=g
section
variable {α:Type} {T:Ty α} {G G':Nat->Prop} {w w':World} {e:TypeId} {b b':Nat} {v v':Value} {ps qs:List (List Value×α)}
theorem RowG.nil:RowG T G w e b (.slice none 0 0) []:=⟨OwnS.nil _ _ _,(λp a=>by cases a),λg h=>by cases h⟩
theorem RowG.step (h:RowG T G w e b v ps) (hb:ZT w w'):RowG T G w' e b v ps :=
 ⟨h.1.below hb,λp c=>T.wider _ _ _ _ _ (λk a=>⟨a.1,Nat.lt_of_lt_of_le a.2.1 hb.size,a.2.2⟩) (T.mono _ _ _ _ _ (Kept.of_below hb) (h.2.1 p c)),h.2.2⟩
theorem RowG.imp (h:RowG T G w e b v ps) (f: ∀k,G k->G' k) (hb:b'<=b):RowG T G' w e b' v ps:=⟨h.1,λp c=>T.wider _ _ _ _ _ (λk a=>⟨f k a.1,a.2⟩) (h.2.1 p c),λg d=>Nat.le_trans hb (h.2.2 g d)⟩
theorem RowG.big (h:RowG T G w e b v ps) (d:0<T.n):ps.length<=9223372036854775807:=by
 rcases h.1.2 with ⟨_,h⟩|⟨_,_,_,_,_,_,c,a,_⟩
 .omega
 .simp only [maxLen] at a; omega
theorem RowG.sl (h:RowG T G w e b v ps) (d:0<T.n):SL T (λk=>(G k\/b<=k)/\k<w.heap.size) w v (ps.map (·.2)) :=
 eB ps (λp f=>T.wider _ _ _ _ _ (λ_ a=>⟨.inl a.1,a.2.1⟩) (h.2.1 p f)) d h.1 rfl (λg c=>⟨.inr (h.2.2 g c),h.1.lt c⟩) (h.big d)
theorem RowG.isl (h:RowG T G w e b v ps):nk v ps.length:=by
 obtain ⟨A,c,e,_⟩:=h.1.form;exact ⟨A,c,e⟩
theorem RowG.apps (h:RowG T G w e b v ps) (d: ∀p∈qs,T.rep (λk=>G k/\iE w v k) w p.1 p.2) (j:OwnS w' e T.n v' (ps.length+qs.length) (ps.flatMap (·.1)++qs.flatMap (·.1))) (g:w.grownBy w' v.ownBlock) (hn:v'.ownBlock=v.ownBlock\/v'.ownBlock=some w.heap.size) (hb:b<=w.heap.size):RowG T G w' e b v' (ps++qs):=by
 refine ⟨by rw [List.flatMap_append,List.length_append]; exact j,λp i=>T.wider _ _ _ _ _ (λk c=>⟨c.1,Nat.lt_of_lt_of_le c.2.1 g.size,λe=> ?_⟩) (T.mono _ _ _ _ _ (Kept.of_blocks λk c f=>g.block k f (λe=>c.2.2 e.symm)) ((ZH i).elim (h.2.1 p) (d p))),λq d=> ?_⟩
 .rcases hn with a|a
  .exact c.2.2 (by rw [<-a]; exact e)
  .rw [a] at e; cases e; exact absurd c.2.1 (Nat.lt_irrefl _)
 .rcases hn with a|a
  .exact h.2.2 q (by rw [<-a]; exact d)
  .rw [a] at d; cases d; exact hb
theorem RowG.perm (h:RowG T G w e b v ps) (g:OwnS w' e T.n v qs.length (qs.flatMap (·.1))) (d:w.grownBy w' v.ownBlock) (hm: ∀p∈qs,p∈ps):RowG T G w' e b v qs :=
 ⟨g,λp f=>T.wider _ _ _ _ _ (λk a=>⟨a.1,Nat.lt_of_lt_of_le a.2.1 d.size,a.2.2⟩) (T.mono _ _ _ _ _ (Kept.of_blocks λk a c=>d.block k c (λe=>a.2.2 e.symm)) (h.2.1 p (hm p f))),h.2.2⟩
end
section
variable {P:Program} {r:Option Nat} {Q:Exit->Act->World->Prop} {N:Nat} {ds:List Deferred} {ops rest:List Oper} {E:Env} {w w0:World} {ty ty':TypeId} {pos pos':String} {af af':Array Edge} {x s:Operand} {α:Type} {T:Ty α} {G G':Nat->Prop} {t e bytes b d1:Nat} {d2:Option Tmp} {rv xv sv:Value} {cs:List Value} {a:α} {ps qs:List (List Value×α)}
theorem gg {q: ∀(g:Nat) rv' w',RowG T G w' e w0.heap.size rv' (ps++ [(cs,a)])->ZT w0 w'->Prop}
  (hok:bZ P t e T.n bytes=true) (he:cB P t e T.n=true) (h:(aC N (some d1),aC N d2,ev E x,ev ((d1,none,.slice (some ⟨w.heap.size,0,none⟩) 1 1)::E) s,xv.cells)=(true,true,some (none,xv),some (none,rv),cs.toArray)) (hR:RowG T G w e w0.heap.size rv ps) (hr:T.rep (λk=>G k/\iE w rv k) w cs a)
  (next: ∀g rv' w' a1 b,q g rv' w' a1 b) (hb:ZT w0 w:=by exact bK) (h1:cs.all (·.oneCell')=true:=by rfl) (hn:ps.length<=1000000:=by first|omega|exact ZB) (hbb:Nat.ble 1 bytes&&Nat.ble bytes 1000&&Nat.ble 1 T.n&&Nat.ble T.n 1000=true:=by rfl)
  (imp: ∀g rv' w' a1 b,Wp (q g rv' w' a1 b)->TW P r Q N ds ops rest (ins (ins E (some d1) none (.slice (some ⟨g,0,none⟩) 1 1)) d2 none rv') w':=by exact λ_ _ _ _ _ h=>jB h) :
  TW P r Q N ds ops (⟨some d1,.buildSlice t 1 #[(0,x)],ty,pos,af,none⟩::⟨d2,.call ⟨.builtin .append,#[s,.tmp d1],#[t,t]⟩,ty',pos',af',none⟩::rest) E w:=by
 simp only [Prod.mk.injEq] at h;obtain ⟨hd1,hd2,hx,hs,hcs⟩:=h;simp only [Bool.and_eq_true,Nat.ble_eq] at hbb;have hl:=T.len _ _ _ _ hr;refine bI (cs:=cs) e [x] rfl hd1 rfl he (aA hx ct aJ) rfl ?_ ?_ rfl ?_ ?_
 .simp [hcs,hl]
 .have h2:T.n<=1000:=by simpa using hbb.2
  simp only [List.length_singleton,Nat.ble_eq]; omega
 .simp [hcs]
 intro g w1 f1;have e1:=f1.at_;subst e1;have hR1:=hR.step f1.below;have hsl:ev (ins E (some d1) none (.slice (some ⟨w.heap.size,0,none⟩) 1 1)) (.tmp d1)=some (none,.slice (some ⟨w.heap.size,0,none⟩) 1 1):=by
  simp [ins,ev,look]
 refine aT cs rfl hd2 hok hs hR1.1 hsl ZJ (λj u hj=>⟨_,rfl,f1.blk.fld hj⟩) (λu hu=>List.all_eq_true.1 h1 u hu) ?_ hbb.1.1.1 ?_
 .exact Nat.le_trans (Nat.mul_le_mul (show ps.length+1<=1000001 by omega) hbb.1.1.2) ZL
 intro rv' w2 hO hg hn';have hb1:=hb.step f1.below;have hR2:=hR1.apps (qs:= [(cs,a)]) (λp hp=>by
  rw [List.mem_singleton] at hp;subst hp;exact T.wider _ _ _ _ _ (λk hk=>⟨hk.1,Nat.lt_of_lt_of_le hk.2.1 f1.below.size,hk.2.2⟩) (T.mono _ _ _ _ _ (Kept.of_below f1.below) hr)) (by simpa using hO) hg hn' hb1.size
 exact imp _ rv' w2 hR2 (hb1.grown hg hb1.size hR.2.2) ⟨next _ rv' w2 hR2 (hb1.grown hg hb1.size hR.2.2)⟩
theorem ga {q: ∀rv' w',RowG T G w' e w0.heap.size rv' (ps++qs)->ZT w0 w'->Prop}
  (hok:bZ P t e T.n bytes=true) (h:(aC N d2,ev E s,ev E x)=(true,some (none,rv),some (none,sv))) (hR:RowG T G w e w0.heap.size rv ps) (hS:RowG T G' w e b sv qs) (hG: ∀k,G' k->k<w.heap.size->G k/\rv.ownBlock≠some k) (hone: ∀F w cs a,T.rep F w cs a->cs.all (·.oneCell')=true)
  (next: ∀rv' w' a1 b,q rv' w' a1 b) (hb:ZT w0 w:=by exact bK) (hn:ps.length+qs.length<=1000000:=by omega) (hbb:Nat.ble 1 bytes&&Nat.ble bytes 1000=true:=by rfl)
  (imp: ∀rv' w' a1 b,Wp (q rv' w' a1 b)->TW P r Q N ds ops rest (ins E d2 none rv') w':=by exact λ_ _ _ _ h=>jB h) :
  TW P r Q N ds ops (⟨d2,.call ⟨.builtin .append,#[s,x],#[t,t]⟩,ty,pos,af,none⟩::rest) E w:=by
 simp only [Prod.mk.injEq] at h;simp only [Bool.and_eq_true,Nat.ble_eq] at hbb;obtain ⟨A,c,rfl,_,hl,hcell⟩:=hS.1.form;have h2:bytes<=1000:=by simpa using hbb.2
 refine aT (qs.flatMap (·.1)) rfl h.1 hok h.2.1 hR.1 h.2.2 hl (λj u hu=> ?_) (λu hu=> ?_) (Nat.le_trans (Nat.mul_le_mul hn h2) ZL) hbb.1 λv' w' hO hg hn'=> ?_
 .obtain ⟨g,hA,_,h3,_⟩:=hcell j u hu;exact ⟨_,hA,by rw [dQ]; exact h3⟩
 .obtain ⟨p,hp,hu⟩:=List.mem_flatMap.1 hu;exact List.all_eq_true.1 (hone _ _ _ _ (hS.2.1 p hp)) u hu
 .have hR2:=hR.apps (λp hp=>T.wider _ _ _ _ _ (λk hk=>⟨(hG k hk.1 hk.2.1).1,hk.2.1,(hG k hk.1 hk.2.1).2⟩) (hS.2.1 p hp)) hO hg hn' hb.size;exact imp v' w' hR2 (hb.grown hg hb.size hR.2.2) ⟨next _ _ hR2 (hb.grown hg hb.size hR.2.2)⟩
theorem g1 {g t':Nat} {q: ∀rv' w',RowG T G w' e w0.heap.size rv' (ps++ [(cs,a)])->ZT w0 w'->Prop}
  (hok:bZ P t e T.n bytes=true) (h:(aC N d2,ev E s,ev E x)=(true,some (none,rv),some (none,.slice (some ⟨g,0,none⟩) 1 1))) (hR:RowG T G w e w0.heap.size rv ps) (hB:Blk w g t' cs) (hr:T.rep (λk=>G k/\iE w rv k) w cs a)
  (next: ∀rv' w' a1 b,q rv' w' a1 b) (hb:ZT w0 w:=by exact bK) (h1:cs.all (·.oneCell')=true:=by rfl) (hn:ps.length<=1000000:=by first|omega|exact ZB) (hbb:Nat.ble 1 bytes&&Nat.ble bytes 1000=true:=by rfl)
  (imp: ∀rv' w' a1 b,Wp (q rv' w' a1 b)->TW P r Q N ds ops rest (ins E d2 none rv') w':=by exact λ_ _ _ _ h=>jB h) :
  TW P r Q N ds ops (⟨d2,.call ⟨.builtin .append,#[s,x],#[t,t]⟩,ty,pos,af,none⟩::rest) E w:=by
 simp only [Prod.mk.injEq] at h;simp only [Bool.and_eq_true,Nat.ble_eq] at hbb;have h2:bytes<=1000:=by simpa using hbb.2
 have hl:=T.len _ _ _ _ hr;refine aT cs rfl h.1 hok h.2.1 hR.1 h.2.2 ZJ (λj u hu=>⟨_,rfl,hB.fld hu⟩) (λu hu=>List.all_eq_true.1 h1 u hu) (Nat.le_trans (Nat.mul_le_mul (show ps.length+1<=1000001 by omega) h2) ZL) hbb.1 λv' w' hO hg hn'=> ?_;have hR2:=hR.apps (qs:= [(cs,a)]) (λp hp=>by rw [List.mem_singleton] at hp; subst hp; exact hr) (by simpa using hO) hg hn' hb.size;exact imp v' w' hR2 (hb.grown hg hb.size hR.2.2) ⟨next _ _ hR2 (hb.grown hg hb.size hR.2.2)⟩
theorem pm (ho:ops[n]?=some ⟨d2,.move x,ty,pos,af,none⟩) (h:(aC N d2,ev E x)=(true,some (none,v))) (next:RW P none Q N ds ops (n+1) (ins E d2 none v) w) (hlex:fU ops=true:=by kernel_rfl) (hsel:Region.noSelect ops.toArray=true:=by kernel_rfl) (hQ:QO Q:=by exact λ_ _ d _ _ h=>by cases d<;>exact h):RW P none Q N ds ops n E w:=by
 simp only [Prod.mk.injEq] at h;exact jv hlex hsel hQ ho h.1 rfl (λ_ h=>by cases h) (λa w ha=>nT (ha.eval h.2 trivial)) next
theorem XO {id:Nat} {q: ∀W,ZT w W->Prop} [Mx P] (next: ∀W b,q W b) (imp: ∀W b,Wp (q W b)->RW P none Q N ds ops 0 E W:=by
   intro W b hq
   repeat (refine pm rfl rfl ?_)
   exact hq.q):CW P none Q N ds (.region id ops.toArray true) E w:=dP Mx.q λW b=>imp W b ⟨next W b⟩
theorem XR (t:Nat) {W:World} (hb:ZT w W) (next:q) (hlex:fU ops=true:=by kernel_rfl) (hcut:iL ops n t=true:=by kernel_rfl) (hst:Nat.ble n t=true:=by rfl) (htl:Nat.ble t ops.length=true:=by rfl)
  (imp:Wp q->DW P N ds .weak ops w (λD=> ∀a w',ZT w w'->FitD N ds D a w'->RK P r Q ops t a w') (bN ops n t) (lift E):=by exact λh=>Hz h):RW P r Q N ds ops n E W:=iP .weak t hlex hcut hst htl hb (imp ⟨next⟩)
theorem WX {K:Env} {y:Code} (w0:World) (ks:List Nat) (F:σ->Env) (J:σ->World->Prop) {q: ∀K0:Act->World->Prop,(∀x W,ZT w0 W->Jv J x W->KW N ds K0 (Fw F x++K) W)->Prop} {q2: ∀x W,ZT w0 W->J x W->Prop}
  (hx: ∀K0 k,q K0 k) (hy: ∀x W b h,q2 x W b h) (hK:PF.pick E ks=some K:=by rfl)
  (imp1: ∀K0 k,Wp (q K0 k)->CW P r (Exit.then K0 Q) N ds c E w:=by exact λ_ _ h=>jB h) (imp2: ∀x W b h,Wp (q2 x W b h)->CW P r Q N ds y (Fw F x++K) W:=by exact λ_ _ _ _ h=>jB h):CW P r (Exit.then (y.wpIn (FR r) 0 P Q) Q) N ds c E w :=
 have hk:=λx W b h=>imp2 x W b h.q ⟨hy x W b h.q⟩
 imp1 _ hk ⟨hx _ hk⟩
end
end
end Go.PF
namespace Go.Proofs.YtoleahhfkpkcjaaGreatDoor
open Go.Proofs.Tryz
open Go.PF Go.RowKit Go.Ord
attribute [local irreducible] TW CW KW DW
theorem _root_.Go.PF.SL.cs1 (h:SL T F w v l):v.cells= #[v]:=by
 obtain ⟨_,_,rfl,_⟩:=h;rfl
theorem J8 {l:List Ev} {x:Ev} (h:SL evT F w v l) (hb:ZT w w') (g:l[i]?=some x): ∃X c,(fF x.office/\fF x.low/\fF x.high/\SL aS F w (.slice X x.needs.length c) x.needs)/\ ∀j u,[Value.int .i64 x.office,ZU x.low,ZU x.high,.slice X x.needs.length c][j]?=some u->w'.cell? (((vP v).add ((i:Int).toNat*4)).add j)=some u:=by
 obtain ⟨_,b,n,rfl,d,e,f,a⟩:=SL.el h hb g;obtain ⟨X,c,rfl,_⟩:=a.form;exact ⟨X,c,⟨d,e,f,a⟩,b⟩
structure WfE (d:bG) (l:List Ev):Prop where
 wd:WfD d
 few:l.length<=16
 each: ∀e∈l,EOK d e
structure LegAt (w:World) (ad:Addr) (n:Nat) (g:Int):Prop where
 c: ∀j u,[Value.int .i64 (n:Int),ZU ((n:Int)+1),ZU g][j]?=some u->w.cell? (ad.add j)=some u
theorem LegAt.below (h:LegAt w ad n g) (hb:ZT w w'):LegAt w' ad n g:=⟨λj u a=>Rb (h.c j u a) hb⟩
theorem LegAt.at0 (h:LegAt w ad n g): ∀j u,[Value.int .i64 (n:Int),ZU ((n:Int)+1),ZU g][j]?=some u->w.cell? ((ad.add (Int.toNat ((0:Nat):Int)*3)).add j)=some u:=λj u a=>by
 exact h.c j u a
inductive Legs (w:World) (l rest:List Ev):Option (Ev×Ev×Int)->Option Addr->Nat->Prop
 | none {L:Option Addr}:rest=l->Legs w l rest none L 0
 | one {a b:Ev} {gp:Int} {la:Addr}:LegAt w la rest.length gp->l=rest++ [a,b]->0<=gp/\gp<=1000000->Legs w l rest (some (a,b,gp)) (some la) 1
theorem Legs.at {l rest:List Ev} (h:Legs w l rest lg L k) (j:i<k):k=1/\i=0/\ ∃a b c d,lg=some (a,b,c)/\L=some d/\LegAt w d rest.length c/\l=rest++ [a,b]/\0<=c/\c<=1000000:=by
 cases h with
 | none=>omega
 | one e f g=>exact ⟨rfl,ZJ,_,_,_,_,rfl,rfl,e,f,g⟩
theorem Legs.below {w w':World} {l rest:List Ev} {lg:Option (Ev×Ev×Int)} {L:Option Addr} {k:Nat} (h:Legs w l rest lg L k) (hb:ZT w w'):Legs w' l rest lg L k:=by
 cases h with
 | none h=>exact .none h
 | one a b c=>exact .one (a.below hb) b c
theorem K4 {g g5 g6:Nat} {ev:Value} {bs:List Bool} (hE:Blk w g 39 [ev]) (hs:nk ev n) (k:Blk w g6 149 [.slice (some ⟨g5,0,none⟩) n n]) (hb:Blk w g5 4 (bs.map Value.bool)) (hl:bs.length=n) (hn:n<=16) (l:i<n) (e:bs[i]?=some false) :
  Gives prog 250 #[ZU (i:Int),.pointer (some ⟨g,0,none⟩),.pointer (some ⟨g6,0,none⟩)] w λu d=>But g5 w d/\Blk d g5 4 ((bs.set i true).map Value.bool)/\u= .bool true:=by
 have h:w.cell? (Addr.add ⟨g5,0,none⟩ ((i:Int).toNat*1))=some (.bool false):=by
  rw [show (i:Int).toNat*1=i by omega];exact hb.fld (by rw [List.getElem?_map,e]; rfl)
 refine gw func250 ntmps250 ?_;refine iG rfl (λb=> ?_) λ_=> ?_
 .simp at b;omega
 refine sf rfl hb λj c a _=> ?_;refine aO rfl ⟨a,?_,rfl⟩;rw [show (i:Int).toNat*1=i by omega] at c;rw [List.map_set];exact c
theorem Md {d:bG} {l rest:List Ev} {kn lc:Nat} (hd:SD w v d) (hl:SE w u l) (hg:Legs w l rest lg L kn):Gives prog 160 #[v,u,.slice L kn lc] w λx w'=>ZT w w'/\x= .bool (dec (WfE d l)):=by
 have U:=hd.bnd;have G:=hl.bnd;have a0:kn<=1:=by cases hg<;>decide
 refine gw func160 ntmps160 ?_;refine nw (vx:=u) (cs:= [u]) (by rw [hl.cs1]; rfl) λg w1 H=> ?_;refine cv rfl (DJ (fI hd H.below)) λw2 Y=> ?_;have s:=H.below.step Y;have B:=H.blk.next Y;refine rn ?_;refine iG rfl (λj=> ?_) λm=> ?_
 .refine rF λh=> ?_;have:=h.few;simp [aD h.wd] at j;omega
 simp only [Bool.or_eq_false_iff,Bool.not_eq_false',decide_eq_false_iff_not] at m;have n:l.length<=16:=ZJ;refine BA [0,1,2,4,6,21,22] 23 l.length (Seen λi=> ∀e,l[i]?=some e->EOK d e) Seen.zero (λi W C D I=> ?_) λW D I=> ?_
 .have Z:=ZD C;obtain ⟨X,c,⟨i1,i2,i3,hn⟩,hc⟩:=J8 hl (s.step D) Z;refine rn ?_;refine Go.PF.nv tX rfl λg4 w4 f4=> ?_;refine iG rfl (λj=> ?_) λo=> ?_
  .refine rF λh=> ?_;have h1:=h.each _ (List.getElem_mem C);have:=h1.o1;have:=h1.o2;simp at j;omega
  .refine ou (I.go λe E=> ?_);rw [Z] at E;cases E;simp at o;exact ⟨ZJ,ZJ⟩
 .have o:WfE d l:=⟨dec_iff.1 m.1,n,λe E=>I.all e E⟩;have hB:=s.step D;have B:=B.next D;refine rn ?_;refine ms MZ Ua rfl λg5 w5 t=> ?_;refine WO Ur rfl λg6 w6 r=> ?_;have hU:=r.blk;have J:Blk w6 g5 4 ((List.replicate l.length false).map Value.bool):=by
   rw [List.map_replicate];exact t.blk.next r.below
  have q1:=B.lt;have q5:=t.at_;have q6:=r.at_;have z5:=t.size;have z6:=r.size;have K:=(hB.step t.below).step r.below;have hw:=hB.size;refine ME w [10,42,43] 44 kn (λi W=>i=0->W=w6) (λ_=>rfl) (λi W' C y h0=> ?_) λW' y _=> ?_
  .obtain ⟨rfl,rfl,a,b,gp,la,_,rfl,M,N,a1⟩:=hg.at C;obtain rfl:=h0 rfl;have a2:l.length=rest.length+2:=by rw [N,List.length_append]; rfl
   have a3:=(M.below K).at0;refine rn ?_;refine Go.PF.nv KR rfl λg7 w7 p=> ?_;have q7:=p.at_;have z:=B.next ((t.below.step r.below).step p.below);refine cw Ro rfl (K4 (i:=rest.length) z hl.isl (hU.next p.below) (J.next p.below) ZM n ZJ (by rw [List.getElem?_replicate,if_pos ZJ])) λ_ w8 h=> ?_;obtain ⟨F,b8,rfl⟩:=h;have O:=But.blk F z ZJ;have R:=But.blk F (hU.next p.below) ZJ;have S:=But.blk (k:=g7) F p.blk ZJ;refine rn ?_;refine dD ?_;refine aP rfl rfl ?_;refine rn ?_;refine cw Ro rfl (K4 (i:=rest.length+1) O hl.isl R b8 ZM n ZJ (by rw [List.getElem?_set_ne ZJ,List.getElem?_replicate,if_pos ZJ])) λ_ w9 h=> ?_;obtain ⟨t9,b9,rfl⟩:=h;have a4:=But.blk (k:=g7) t9 S ZJ;have A:=y.step p.below;have a5:ZT w w9:=A.grown (But.trans F t9) A.size (λq hq=>by cases hq; omega);refine rn ?_;refine iG rfl (λJ=> ?_) λ_=> ?_
   .exfalso;simp at J;omega
   .exact ou λh=>ZJ
  .exact rT o
end Go.Proofs.YtoleahhfkpkcjaaGreatDoor
namespace Go.Ord
section
variable {d:bG}
theorem TB: ∀(f:List Ev) (l:List UB),(l.map (·.1)).Perm (f.map ny)->l.Pairwise (λa b=>Bef d a b\/Bef d b a)-> ∃m:List ET,m.map (·.1)=f/\(m.map λx=>(ny x.1,x.2)).Perm l:=by
 intro f
 induction f with
 | nil =>
  intro l j _;have:l= []:=by
   have:=j.length_eq;simp at this;exact this
  subst this
  exact ⟨[],rfl,List.Perm.refl _⟩
 | cons e f r =>
  intro l j k;have p:ny e∈l.map (·.1):=j.mem_iff.2 ZM;rw [List.mem_map] at p;obtain ⟨x,s,h⟩:=p;obtain ⟨g,c,rfl⟩:=List.append_of_mem s;have t:((g++c).map (·.1)).Perm (f.map ny):=by
   have q:((g++x::c).map (·.1)).Perm (ny e::(g++c).map (·.1)):=by
    rw [<-h];exact (List.perm_middle (l₁:=g) (l₂:=c)).map (λy:UB=>y.1)
   have u:=q.symm.trans (by simpa using j);exact List.Perm.cons_inv u
  have i:=gY List.perm_middle k;obtain ⟨m,n,o⟩:=r (g++c) t (List.pairwise_cons.1 i).2;refine ⟨(e,x.2)::m,by simp [n],?_⟩;refine List.Perm.trans ?_ List.perm_middle.symm;have:(ny e,x.2)=x:=by rw [<-h]
  rw [List.map_cons];rw [this];exact o.cons x
def jU (a b:Ev) (g:Int):U:=⟨max (kM a) (kM b-g),min (gQ a) (gQ b-g),g,a.office.toNat,b.office.toNat⟩
def vU (e:Ev) (t:Int):Prop:=0<=t/\t<=1000000/\e.low<=t/\t<=e.high
theorem okt_iff {e:Ev}:vU e t↔kM e<=t/\t<=gQ e:=by
 unfold vU kM gQ;omega
def tN (d:bG) (a b:Ev) (g:Int):Prop:=at2 d a.office.toNat b.office.toNat≠ -1/\at2 d a.office.toNat b.office.toNat<=g
def TN (d:bG) (l:List ET) (a b:Ev) (g t:Int):Prop:=HoldsN d l/\vU a t/\vU b (t+g)/\ ∀x∈l,yI d x (a,t)\/yI d (b,t+g) x
def PossJ (d:bG) (rest:List Ev) (a b:Ev) (g:Int):Prop:=tN d a b g/\ ∃(l:List ET) (t:Int),l.map (·.1)=rest/\TN d l a b g t
theorem MO {b:Ev} (c:EOK d a) (hb:EOK d b) (hl:tN d a b g):UOK d (jU a b g):=by
 have e:=c.o1;have f:=c.o2;have i:=hb.o2;exact ⟨by show a.office.toNat<_; omega,by show b.office.toNat<_; omega,hl.1,hl.2⟩
theorem jU_win {b:Ev}:(jU a b g).low<=t/\t<=(jU a b g).high↔vU a t/\vU b (t+g):=by
 rw [okt_iff,okt_iff];show max (kM a) (kM b-g)<=t/\t<=min (gQ a) (gQ b-g)↔_;omega
theorem J3 (H:WfD d) {rest:List Ev} (he: ∀e∈rest,EOK d e) {b:Ev} (S:EOK d a) (hb:EOK d b) (hg:0<=g) (hl:tN d a b g) (hp:us.Perm (jU a b g::rest.map ny)):PossJ d rest a b g↔(∀u∈us,u.low<=u.high)/\Feas d (none,0) us:=by
 have s: ∀u∈us,UOK d u:=λu I=>by
  rcases List.mem_cons.1 (hp.mem_iff.1 I) with rfl|h
  .exact MO S hb hl
  .obtain ⟨e,i,rfl⟩:=List.mem_map.1 h;exact wo H (he e i)
 constructor
 .rintro ⟨_,l,t,rfl,h,v,D,J⟩;have n: ∀x∈l,(ny x.1).low<=x.2/\x.2<=(ny x.1).high:=λx i=>okt_iff.1 (h.each x i);have E:=jU_win.2 ⟨v,D⟩;refine ⟨λu I=> ?_,?_⟩
  .rcases List.mem_cons.1 (hp.mem_iff.1 I) with rfl|F
   .omega
   .rw [List.map_map,List.mem_map] at F;obtain ⟨x,i,rfl⟩:=F;have:=n x i;show (ny x.1).low<=(ny x.1).high;omega
  .have K:=qD H (l:=(jU a b g,t)::l.map λx=>(ny x.1,x.2)) ?_ ?_ ?_
   .obtain ⟨o,W,Y⟩:=K;refine ⟨o,W.trans (List.Perm.trans ?_ hp.symm),Y⟩;rw [List.map_cons,List.map_map,List.map_map];exact List.Perm.refl _
   .intro x i;rcases List.mem_cons.1 i with rfl|i
    .exact MO S hb hl
    .obtain ⟨y,j,rfl⟩:=List.mem_map.1 i;exact wo H (he _ (List.mem_map.2 ⟨y,j,rfl⟩))
   .intro x i;rcases List.mem_cons.1 i with rfl|i
    .exact ⟨v.1,E⟩
    .obtain ⟨y,j,rfl⟩:=List.mem_map.1 i;exact ⟨(h.each y j).1,n y j⟩
   .refine List.pairwise_cons.2 ⟨λx i=> ?_,?_⟩
    .obtain ⟨y,j,rfl⟩:=List.mem_map.1 i;rcases J y j with q|q
     .exact .inr ⟨q.1,by show y.2+0+at2 d y.1.office.toNat a.office.toNat<=t; have:=q.2; dsimp only at this; omega⟩
     .exact .inl ⟨q.1,by show t+g+at2 d b.office.toNat y.1.office.toNat<=y.2; have:=q.2; dsimp only at this; omega⟩
    .rw [List.pairwise_map];refine h.two.imp λ{a b} r=> ?_;rcases r with q|q
     .exact .inl ⟨q.1,by show a.2+0+at2 d a.1.office.toNat b.1.office.toNat<=b.2; have:=q.2; omega⟩
     .exact .inr ⟨q.1,by show b.2+0+at2 d b.1.office.toNat a.1.office.toNat<=a.2; have:=q.2; omega⟩
 .rintro ⟨Z,K⟩;obtain ⟨l,v,D,J⟩:=qx H s Z K;have L:l.Pairwise (λa b=>Bef d a b\/Bef d b a):=J.imp λh=> .inl h;have F:jU a b g∈l.map (·.1):=(v.trans hp).mem_iff.2 ZM;obtain ⟨x,i,k⟩:=List.mem_map.1 F;obtain ⟨f,c,rfl⟩:=List.append_of_mem i;have h4:((f++c).map (·.1)).Perm (rest.map ny):=by
   have q:((f++x::c).map (·.1)).Perm (jU a b g::(f++c).map (·.1)):=by
    rw [<-k];exact (List.perm_middle (l₁:=f) (l₂:=c)).map (λy:UB=>y.1)
   exact List.Perm.cons_inv (q.symm.trans (v.trans hp))
  have w:=gY List.perm_middle L;obtain ⟨M,z⟩:=List.pairwise_cons.1 w;obtain ⟨m,N,A⟩:=TB rest (f++c) h4 z;have p:=λy j=>A.mem_iff.1 (List.mem_map.2 ⟨y,j,rfl⟩);have O: ∀y∈f++c,y∈f++x::c:=λy j=>by
   rcases ZH j with h|h
   .simp [h]
   .simp [h]
  refine ⟨hl,m,x.2,N,⟨λy j=> ?_,?_⟩,?_⟩
  .exact okt_iff.2 (D _ (O _ (p y j))).2
  .have B:=gY A.symm z;rw [List.pairwise_map] at B;refine B.imp λ{a b} r=> ?_;rcases r with q|q
   .refine .inl ⟨q.1,?_⟩;have:a.2+0+at2 d a.1.office.toNat b.1.office.toNat<=b.2:=q.2;omega
   .refine .inr ⟨q.1,?_⟩;have:b.2+0+at2 d b.1.office.toNat a.1.office.toNat<=a.2:=q.2;omega
  .have E:=(D x ZM).2;rw [k] at E;obtain ⟨j1,j2⟩:=jU_win.1 E;refine ⟨j1,j2,λy j=> ?_⟩;rcases M _ (p y j) with q|q
   .right;have R:at2 d x.1.exit (ny y.1).entry=at2 d b.office.toNat y.1.office.toNat:=by rw [k]; rfl
    have e2:x.1.span=g:=by rw [k]; rfl
    have C:=q.1;have G:=q.2;rw [R] at C G;exact ⟨C,by show at2 d b.office.toNat y.1.office.toNat<=y.2-(x.2+g); omega⟩
   .left;have R:at2 d (ny y.1).exit x.1.entry=at2 d y.1.office.toNat a.office.toNat:=by rw [k]; rfl
    have C:=q.1;have G:y.2+0+at2 d (ny y.1).exit x.1.entry<=x.2:=q.2;rw [R] at C G;exact ⟨C,by show at2 d y.1.office.toNat a.office.toNat<=x.2-y.2; omega⟩
end
end Go.Ord
namespace Go.PF
open Go.RowKit
section
def Inv (P:Program) (name:String) (v:Value) (vs:List Value) (w:World) (R:Value->World->Prop):Prop:= ∃t x k,v= .iface t x/\KF P name t k/\Gives P k (x::vs).toArray w R
section
variable {P:Program} {r:Option Nat} {Q:Exit->Act->World->Prop} {N:Nat} {ds:List Deferred} {ops rest:List Oper} {E:Env} {D:DE} {w:World} {G:Option Bool} {Fin:DE->Prop} {ty:TypeId} {pos:String} {af:Array Edge} {gu:Option (Nat×Bool)} {d:Option Tmp} {u:Operand} {name:String} {v yv:Value} {xs:List Operand} {vs:List Value} {ts:Array TypeId}
theorem ci {q: ∀w',ZT w w'->Prop} (h:(aC N d,ev E u,evs E xs)=(true,some (none,v),some vs)) (hc:Inv P name v vs w λy w'=>ZT w w'/\y=yv) (next: ∀w' b,q w' b)
  (imp: ∀w' b,Wp (q w' b)->TW P r Q N ds ops rest (ins E d none yv) w':=by exact λ_ _ h=>jB h):TW P r Q N ds ops (⟨d,.call ⟨.invoke u name,xs.toArray,ts⟩,ty,pos,af,none⟩::rest) E w:=by
 simp only [Prod.mk.injEq] at h;obtain ⟨t,x,k,rfl,he,hc⟩:=hc;exact xM rfl h.1 he h.2.1 (fJ h.2.2) hc λ_ w' ⟨b,e⟩=>by subst e; exact imp w' b ⟨next w' b⟩
theorem cj {q: ∀y w',R y w'->Prop} (h:(aC N d,ev E u,evs E xs)=(true,some (none,v),some vs)) (hc:Inv P name v vs w R) (next: ∀y w' e,q y w' e)
  (imp: ∀y w' e,Wp (q y w' e)->TW P r Q N ds ops rest (ins E d none y) w':=by exact λ_ _ _ h=>jB h):TW P r Q N ds ops (⟨d,.call ⟨.invoke u name,xs.toArray,ts⟩,ty,pos,af,none⟩::rest) E w:=by
 simp only [Prod.mk.injEq] at h;obtain ⟨t,x,k,rfl,he,hc⟩:=hc;exact xM rfl h.1 he h.2.1 (fJ h.2.2) hc λy w' e=>imp y w' e ⟨next y w' e⟩
theorem Yu {cu:Option Bool} {q: ∀w',ZT w w'->Prop} (h:(gd ops E gu,aC N d,ev E u,xs)=(some G,true,some (cu,v),[])) (hc:Inv P name v [] w λy w'=>ZT w w'/\y=yv) (next: ∀w' b,q w' b) (ju:aF G->aF cu:=by first|exact ct|exact id|exact cZ|(simp_all [aF]; done))
  (imp: ∀w' b,Wp (q w' b)->TW P r Q N ds ops rest (ins E d G yv) w':=by exact λ_ _ h=>jB h):TW P r Q N ds ops (⟨d,.call ⟨.invoke u name,xs.toArray,ts⟩,ty,pos,af,gu⟩::rest) E w:=by
 simp only [Prod.mk.injEq] at h;obtain ⟨t,x,k,rfl,he,hc⟩:=hc;obtain ⟨h1,h2,h3,rfl⟩:=h;exact GM h1 h2 he h3 ju aJ (λ_=>hc) λw' b=>imp w' b ⟨next w' b⟩
theorem Xm (h:(aC N d,dev D u,xs)=(true,some (none,.ex v),[])) (hc: ∀w',ZT w w'->Inv P name v [] w' λy w''=>ZT w' w''/\y=yv) (next:q)
  (imp:Wp q->DW P N ds .weak ops w Fin rest (bE D d none (.ex yv)):=by exact λh=>Hz h):DW P N ds .weak ops w Fin (⟨d,.call ⟨.invoke u name,xs.toArray,ts⟩,ty,pos,af,none⟩::rest) D:=by
 simp only [Prod.mk.injEq] at h;obtain ⟨h2,h3,rfl⟩:=h;refine tO (e:= .ex yv) rfl h2 rfl trivial (λ_ a w' hb ha=> ?_) (imp ⟨next⟩);obtain ⟨t,x,k,rfl,he,hc⟩:=hc w' hb;exact ⟨_,_,sQ he (ha.eval h3 ZP trivial) rfl,hc⟩
theorem V4 {t:Nat} {md:Mode} {o:Oper} {E':Env} {q: ∀w',ZT w w'->Prop} (next: ∀w' b,q w' b) (hp:AU D=some E':=by rfl) (ho:ops[t]?=some o:=by rfl) (hlex:fU ops=true:=by kernel_rfl) (hcut:iL ops t (t+1)=true:=by kernel_rfl)
  (imp: ∀w' b,Wp (q w' b)->TW P r (Exit.then (RK P r Q ops (t+1)) Q) N ds ops [o] E' w':=by exact λ_ _ h=>jB h):DW P N ds md ops w (λD=> ∀a w',ZT w w'->FitD N ds D a w'->RK P r Q ops t a w') [] D :=
 Ex hp λw' b=>gy (eu hlex hcut ho (imp w' b ⟨next w' b⟩))
theorem Xn {t:TypeId} {md:Mode} (cs:List Value) (h:(fD ops D gu,aC N d,J9 D (parts.toList.map (·.2)))=(some G,true,some vs)) (next:q) (hb:P.built t ((parts.toList.map (·.1)).zip vs)=some cs.toArray:=by kernel_rfl)
  (imp:Wp q->DW P N ds md ops w Fin rest (bE D d G (.ex (.agg cs.toArray))):=by exact λh=>Hz h):DW P N ds md ops w Fin (⟨d,.build t parts,ty,pos,af,gu⟩::rest) D:=by
 simp only [Prod.mk.injEq] at h;refine OO (parts.toList.map (·.1)) (parts.toList.map (·.2)) _ h.1 h.2.1 ?_ ZM (uu h.2.2) hb (imp ⟨next⟩);have: ∀l:List (Nat×Operand),l=(l.map (·.1)).zip (l.map (·.2)):=λl=>by
  induction l with
  | nil=>rfl
  | cons a l ih=>rw [List.map_cons,List.map_cons,List.zip_cons_cons,<-ih]
 exact this _
theorem SC {K:Env} (ks:List Nat) (s n:Nat) (F:σ->Env) (J:Nat->σ->World->Prop) (x0:σ) {q: ∀i x W,i<n->J i x W->Prop} {q2: ∀x W,J n x W->Prop}
  (h0:J 0 x0 w) (go: ∀i x W a e,q i x W a e) (out: ∀x W e,q2 x W e)
  (hK:PF.pick E ks=some K:=by rfl) (hE:PF.pick E (((s,none,Value.int .i64 ((0:Nat):Int))::Fw F x0).map (·.1))=some ((s,none,ZU ((0:Nat):Int))::Fw F x0):=by rfl)
  (imp:(∀i x W a e,Wp (q i x W a e))->(∀x W e,Wp (q2 x W e))-> ∀i x W,i<=n->Jw J i x W ->
   CW P r (Exit.then (λa' w'=> ∃x':Nat×σ,Fit N ds ((λx:Nat×σ=>(s,none,ZU (x.1:Int))::Fw F x.2) x'++K) a'/\(λ(x:Nat×σ) W=>x.1<=n/\Jw J x.1 x.2 W) x' w'/\n-x'.1<n-i) Q) N ds c ((s,none,ZU (i:Int))::(Fw F x++K)) W:=by
    intro h1 h2 i x W a e;obtain ⟨e⟩:=e;refine rn ?_;refine aI rfl (λh=> ?_) (λh=> ?_)
    .have hi:=Lc a ZJ;clear h a;exact jB (h1 i x W hi e)
    .have hi:=Le a ZJ;clear h;subst i;exact jB (h2 x W e)):CW P r Q N ds (.loop c) E w :=
 dA ks (λx:Nat×σ=>(s,none,ZU (x.1:Int))::Fw F x.2) (λx W=>x.1<=n/\Jw J x.1 x.2 W) (λx=>n-x.1) (0,x0) ⟨ZB,⟨h0⟩⟩
  (λx W ⟨a,e⟩=>imp (λi x W a e=>⟨go i x W a e⟩) (λx W e=>⟨out x W e⟩) x.1 x.2 W a e) hK hE
theorem OT {K:Env} {F:σ->Env} (x':σ) (hJ:J (i+1) x' w) (hi:i<n:=by first|assumption|omega)
  (hp:PF.pick E ((((s,none,Value.int .i64 ((i+1:Nat):Int))::Fw F x')++K).map (·.1))=some (((s,none,ZU ((i+1:Nat):Int))::Fw F x')++K):=by rfl) :
  KW N ds (Exit.then (λa' w'=> ∃x':Nat×σ,Fit N ds ((λx:Nat×σ=>(s,none,ZU (x.1:Int))::Fw F x.2) x'++K) a'/\(λ(x:Nat×σ) W=>x.1<=n/\Jw J x.1 x.2 W) x' w'/\n-x'.1<n-i) Q .normal) E w :=
 λ_ ha=>⟨(i+1,x'),ha.pick hp,⟨hi,⟨hJ⟩⟩,by dsimp only; omega⟩
end
theorem Blk.part {g:Nat} {t:TypeId} (h:Blk w g t cs) (k:Nat) (ds:List Value) (c:(cs.drop k).take ds.length=ds): ∀j v,ds[j]?=some v->w.cell? ((Addr.add ⟨g,0,none⟩ k).add j)=some v:=λj v b=>by
 have a:=(ZE b).1;have e:((cs.drop k).take ds.length)[j]?=some v:=by rw [c]; exact b
 rw [List.getElem?_take_of_lt a,List.getElem?_drop] at e;rw [Addr.add_add];exact h.fld e
theorem Lx {l:List (List α)} {x:List α} (h:SL (sliceT T) F w v l) (hb:ZT w w') (d:l[i]?=some x): ∃a,SL T F w' a x/\w'.cell? ((vP v).add ((i:Int).toNat*1))=some a:=by
 obtain ⟨_,b,a,rfl,c⟩:=SL.el h hb d;have:=b 0 a rfl;exact ⟨a,c.below hb,this⟩
end
end Go.PF
namespace Go.Proofs.YtoleahhfkpkcjaaGreatDoor
open Go.Proofs.Tryz
open Go.PF Go.RowKit Go.Ord
attribute [local irreducible] TW CW KW DW
theorem AZ {e:Ev}:Gives prog 381 #[.agg #[ZU e.office,ZU e.low,ZU e.high,v]] w λx a=>ZT w a/\x= .tuple #[ZU (kM e),ZU (gQ e)]:=by
 refine gw func381 ntmps381 ?_;refine nw rfl λg b c=> ?_;refine dr λd h=> ?_;exact rD rfl ⟨bK,rfl⟩
def Times (w:World) (g:Nat) (n:Nat):Prop:= ∃xs:List Int,xs.length=n/\Blk w g 3 (xs.map (Value.int .i64))
theorem Times.next {w w':World} {g n:Nat} (h:Times w g n) (hb:ZT w w'):Times w' g n:=h.imp λ_ h=>⟨h.1,h.2.next hb⟩
structure UV (m:Nat) (v:Value) (u:U):Prop where
 wd: ∀w,Inv prog "postilion/order.window" v [] w λy w'=>ZT w w'/\y= .tuple #[ZU u.low,ZU u.high]
 en: ∀w,Inv prog "postilion/order.ends" v [] w λy w'=>ZT w w'/\y= .tuple #[ZU (u.entry:Int),ZU (u.exit:Int)]
 sp: ∀w,Inv prog "postilion/order.span" v [] w λy w'=>ZT w w'/\y= ZU u.span
 wr: ∀w g b,-1<=b->b<=3000000->Times w g m->Inv prog "postilion/order.write" v [.slice (some ⟨g,0,none⟩) m m,ZU b] w λ_ w'=>But g w w'/\Times w' g m
 one:v.oneCell'=true
def sV (i:Nat) (e:Ev) (v:Value):List Value:= [ZU (i:Int),ZU e.office,ZU e.low,ZU e.high,v]
theorem KY {e:Ev}:Gives prog 384 #[.agg (sV i e v).toArray] w λx a=>ZT w a/\x= .tuple #[ZU (kM e),ZU (gQ e)]:=by
 refine gw func384 ntmps384 ?_;refine nw rfl λg c b=> ?_;have d:=b.blk.part 1 [ZU e.office,ZU e.low,ZU e.high,v] rfl;refine rn ?_;refine cv rfl AZ λh j=> ?_;exact rD rfl ⟨bK,rfl⟩
theorem TE {e:Ev} (k:0<=e.office):Gives prog 382 #[.agg (sV i e v).toArray] w λx a=>ZT w a/\x= .tuple #[ZU (e.office.toNat:Int),ZU (e.office.toNat:Int)]:=by
 rw [show ((e.office.toNat:Nat):Int)=e.office by omega];refine gw func382 ntmps382 ?_;refine nw rfl λg c b=> ?_;refine dr λh j=> ?_;exact rD rfl ⟨bK,rfl⟩
theorem RV {e:Ev}:Gives prog 383 #[.agg (sV i e v).toArray] w λx a=>ZT w a/\x= ZU 0:=by
 refine gw func383 ntmps383 ?_;refine nw rfl λg b c=> ?_;exact aO rfl ⟨bK,rfl⟩
theorem OY {g:Nat} {e:Ev} (l:i<m) (hm:m<=16) (n:Times w g m):Gives prog 385 #[.agg (sV i e v).toArray,.slice (some ⟨g,0,none⟩) m m,ZU t] w λ_ d=>But g w d/\Times d g m:=by
 obtain ⟨j,a,k⟩:=n;refine gw func385 ntmps385 ?_;refine nw rfl λo p h=> ?_;refine sf rfl (k.next h.below) (λq b c _=> ?_);exact oU rfl ⟨But.trans (.of_below h.below) c,j.set i t,by simp [a],by simpa using b⟩
theorem IW {e:Ev} (a:i<m) (hm:m<=16) (c:0<=e.office):UV m (.iface 290 (.agg (sV i e v).toArray)) (ny e) :=
 ⟨λ_=>⟨_,_,_,rfl,(λ_ _ _=>ZK),KY⟩,λ_=>⟨_,_,_,rfl,(λ_ _ _=>ZK),TE c⟩,λ_=>⟨_,_,_,rfl,(λ_ _ _=>ZK),RV⟩,λ_ _ _ _ _ b=>⟨_,_,_,rfl,(λ_ _ _=>ZK),OY a hm b⟩,rfl⟩
def jV (n:Nat) (g:Int) (a b:Ev) (va vb:Value):List Value:= [ZU (n:Int),ZU ((n:Int)+1),ZU g,ZU a.office,ZU a.low,ZU a.high,va,ZU b.office,ZU b.low,ZU b.high,vb]
theorem JN {b:Ev} (u:0<=g/\g<=1000000):Gives prog 379 #[.agg (jV n g a b va vb).toArray] w λx d=>ZT w d/\x= .tuple #[ZU (jU a b g).low,ZU (jU a b g).high]:=by
 have h:0<=kM b/\kM b<=1000001:=by unfold kM; omega
 have i: -1<=gQ b/\gQ b<=1000000:=by unfold gQ; omega
 refine gw func379 ntmps379 ?_;refine nw rfl λj k c=> ?_;have m:=c.blk.part 3 [ZU a.office,ZU a.low,ZU a.high,va] rfl;refine rn ?_;refine cv rfl AZ λo e=> ?_;have p:=(c.blk.next e).part 7 [ZU b.office,ZU b.low,ZU b.high,vb] rfl;refine rn ?_;refine cv rfl AZ λq r=> ?_;refine dr λs t=> ?_;exact rD rfl ⟨bK,rfl⟩
theorem Qd {b:Ev} (m:0<=a.office) (hb:0<=b.office):Gives prog 377 #[.agg (jV n g a b va vb).toArray] w λx d=>ZT w d/\x= .tuple #[ZU (a.office.toNat:Int),ZU (b.office.toNat:Int)]:=by
 rw [show ((a.office.toNat:Nat):Int)=a.office by omega,show ((b.office.toNat:Nat):Int)=b.office by omega];refine gw func377 ntmps377 ?_;refine nw rfl λe h c=> ?_;refine dr λk l=> ?_;exact rD rfl ⟨bK,rfl⟩
theorem Qc {b:Ev}:Gives prog 378 #[.agg (jV n g a b va vb).toArray] w λx c=>ZT w c/\x= ZU g:=by
 refine gw func378 ntmps378 ?_;refine nw rfl λe h d=> ?_;exact aO rfl ⟨bK,rfl⟩
theorem MN {gt:Nat} {b:Ev} (hn:n+1<m) (hm:m<=16) (E:0<=g/\g<=1000000) (x: -1<=t) (y:t<=3000000) (z:Times w gt m):Gives prog 380 #[.agg (jV n g a b va vb).toArray,.slice (some ⟨gt,0,none⟩) m m,ZU t] w λ_ o=>But gt w o/\Times o gt m:=by
 obtain ⟨p,rfl,q⟩:=z;refine gv func380 ntmps380 ?_;refine aB ?_;refine bS rfl rfl rfl rfl ?_;rintro s A e;refine aB ?_;refine dP mixed λB h=> ?_;refine nX (gt) 3 ((p.map (Value.int .i64)).set ((n:Int).toNat*1) (ZU t)) 16 ZK ZK rfl rfl rfl h ?_;refine DS.move rfl rfl rfl ct ?_;refine DS.fieldAddr rfl rfl if288_0.q rfl ct ?_;refine DS.fieldAddr rfl rfl if255_0.q rfl ct ?_;have c:s≠gt:=by
  have:=e.at_;have:=q.lt;omega
 have i:=e.blk.part 0 [ZU (n:Int),ZU ((n:Int)+1),ZU g] rfl;have j:=q.next e.below;refine DS.load rfl rfl io3.q rfl ct (λ_=>⟨i 0 _ rfl,c⟩) ?_;refine DS.move rfl rfl rfl ct ?_;refine DS.fieldAddr rfl rfl if288_0.q rfl ct ?_;refine DS.fieldAddr rfl rfl if255_1.q rfl ct ?_;refine DS.load rfl rfl io3.q rfl ct (λ_=>⟨i 1 _ rfl,c⟩) ?_;refine DS.move rfl rfl rfl ct ?_;refine DS.move rfl rfl rfl ct ?_;refine DS.fieldAddr rfl rfl if288_0.q rfl ct ?_;refine DS.fieldAddr rfl rfl if255_2.q rfl ct ?_;refine DS.load rfl rfl io3.q rfl ct (λ_=>⟨i 2 _ rfl,c⟩) ?_;refine DS.add rfl rfl rfl ct rfl ct (λ_=>by (try dsimp only); omega) ?_;refine DS.indexAddr rfl rfl underlying66 is3.q rfl ct rfl ct (λ_=>by (try dsimp only); omega) ?_;refine DS.store rfl is3.q rfl rfl j ZO rfl rfl ?_;refine DS.nil (DS.fin [0,1,2,3,10,13,19] [(0,_,_),(1,_,_),(2,_,_),(3,_,_),(10,_,_),(13,_,_),(19,_,_)] rfl (λC u k=>gy ?_));refine eu ZK ZK rfl ?_;refine aM V.indexAddr rfl ⟨ct,ct,trivial⟩ (λ_=>by (try dsimp only); omega) ?_;refine dG (bD [0,1,2,3,19,21] [(0,_,_),(1,_,_),(2,_,_),(3,_,_),(19,_,_),(21,_,_)] rfl (iB ?_));refine eu ZK ZK rfl ?_;refine mq rfl is3.q rfl rfl k ZO rfl ?_;rintro D l d r
 refine dG (bD [0,1,2,3] [(0,_,_),(1,_,_),(2,_,_),(3,_,_)] rfl (iB ?_));refine kG rfl (bD [0,1,2,3] [(0,_,_),(1,_,_),(2,_,_),(3,_,_)] rfl ?_);refine oU results380 ⟨(But.of_below e.below).trans (But.trans u d),(p.set n t).set (n+1) (t+g),ZM,?_⟩;rw [List.map_set,List.map_set];simpa using l
theorem EO {b:Ev} (hn:n+1<m) (hm:m<=16) (c:0<=g/\g<=1000000) (h:0<=a.office) (hb:0<=b.office):UV m (.iface 288 (.agg (jV n g a b va vb).toArray)) (jU a b g) :=
 ⟨λ_=>⟨_,_,_,rfl,(λ_ _ _=>ZK),JN c⟩,λ_=>⟨_,_,_,rfl,(λ_ _ _=>ZK),Qd h hb⟩,λ_=>⟨_,_,_,rfl,(λ_ _ _=>ZK),Qc⟩,λ_ _ _ d e f=>⟨_,_,_,rfl,(λ_ _ _=>ZK),MN hn hm c d e f⟩,rfl⟩
def Ux (m:Nat):Ty U where
 n:=1
 rep:=λ_ _ cs u=> ∃v,cs= [v]/\UV m v u
 len:=λ_ _ _ _ h=>by obtain ⟨v,h,_⟩:=h; rw [h]; rfl
 mono:=λ_ _ _ _ _ _ h=>h
 wider:=λ_ _ _ _ _ _ h=>h
structure Srch (w:World) (g m:Nat) (d:bG) (us:List U) (dv uv fv:Value):Prop where
 blk:Blk w g 232 [dv,uv,fv]
 dist:SL (sliceT aS) (λk=>k<g) w dv d
 units:SL (Ux m) (λk=>k<g) w uv us
theorem Srch.step {g:Nat} {d:bG} {dv uv fv:Value} (h:Srch w g m d us dv uv fv) (hb:ZT w w'):Srch w' g m d us dv uv fv :=
 ⟨h.blk.next hb,h.dist.below hb,h.units.below hb⟩
theorem uH {uv:Value} (h:SL (Ux m) F w uv us) {u:U} (c:us[i]?=some u): ∃v,w.cell? ((vP uv).add ((i:Int).toNat*1))=some v/\UV m v u:=by
 obtain ⟨_,a,v,rfl,b⟩:=SL.el h ZA c;have:=a 0 v rfl;exact ⟨v,this,b⟩
def iD:Option Nat->Int
 | none=> -1
 | some x=>x
noncomputable def lU (d:bG) (s:St) (u:U):Int:=if dec (kH d s u) then pp d s u else -1
structure Num (d:bG) (u:U):Prop where
 ok:UOK d u
 low:0<=u.low/\u.low<=1000001
 high: -1<=u.high/\u.high<=1000000
 span:0<=u.span/\u.span<=1000000
theorem p9 {g:Nat} {d:bG} {u:U} {dv uv fv:Value} {s:St} (h:WfD d) (t:Srch w g m d us dv uv fv) (A:us[i]?=some u) (hn:Num d u) (hs:yf d s) (ht: -1<=s.2/\s.2<=3000000) :
  Gives prog 165 #[.pointer (some ⟨g,0,none⟩),.agg #[.int .u32 (k:Int),ZU (iD s.1)],ZU s.2,ZU (i:Int)] w λx B=>ZT w B/\x= ZU (lU d s u):=by
 obtain ⟨v,J,q⟩:=uH t.units A;obtain ⟨L,C,M⟩:=t;have D:=(ZE A).1;have N:=hn.low;have O:=hn.high;have R: -1<=far d s.1 u/\far d s.1 u<=1000000:=by
  cases e:s.1 with
  | none=>simp [far]
  | some y=>exact h.rng y u.entry (hs y e) hn.ok.e1
 refine gw func165 ntmps165 ?_;refine nw rfl λS E Y=> ?_;refine ci rfl (q.wd E) λF Z=> ?_;refine ci rfl (q.en F) λw3 b3=> ?_;refine jn [0,2,9,10] (λz:Int=> [(13,none,ZU z)]) (λz _=>z=far d s.1 u) (λK0 K=> ?_) λz W hW n=> ?_
 .refine cd rfl (λc=> ?_) λo=> ?_
  .cases a:s.1 with
   | none=>rw [a] at c; exact absurd rfl c
   | some y =>
    have G:iD s.1=(y:Int):=by rw [a]; rfl
    have p:=ZD (hs y a);obtain ⟨sv,r,b⟩:=Lx C ZA p;rw [<-G] at b;have H:=h.row y _ p;have he:=hn.ok.e1;have I:=hs y a;have n:=ZD (l:=d[y]) (i:=u.entry) ZJ;refine dr λw4 b4=> ?_;exact jd K d[y][u.entry] (by rw [a]; exact (nR p n).symm)
  .exact jd K 0 (by
    cases a:s.1 with
    | none=>rfl
    | some y=>exact absurd (show iD s.1≠ -1 by rw [a]; simp only [iD]; omega) o)
 .subst n;refine iG rfl (λj=> ?_) λj=> ?_
  .refine aO rfl ⟨bK,?_⟩;rw [lU,aH]
   .rfl
   .rintro ⟨h1,h2⟩;simp at j;omega
  .refine aO rfl ⟨bK,?_⟩;simp at j;rw [lU,aD ⟨j.1,ZJ⟩];rfl
end Go.Proofs.YtoleahhfkpkcjaaGreatDoor
