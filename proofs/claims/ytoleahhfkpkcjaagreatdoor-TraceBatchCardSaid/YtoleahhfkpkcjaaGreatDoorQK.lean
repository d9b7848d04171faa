/- Texts of this claim,joined. -/
import Derived.Test.YtoleahhfkpkcjaaGreatDoorQJ
set_option linter.unusedSimpArgs false
set_option linter.unusedVariables false
set_option maxRecDepth 100000
set_option maxHeartbeats 4000000
variable {w w':Go.World} {d:Go.Ord.bG} {lg:Option (Go.Ord.Ev×Go.Ord.Ev×Int)} {F:Nat->Prop} {us:List Go.Ord.U} {v dv uv fv:Go.Value} {l rest:List Go.Ord.Ev} {S:List Int} {g m i k b n gf x cap:Nat} {L A:Option Go.Addr} {M:List (Go.Ord.SK×Go.Value)} {o:Option Nat} {vs xs caps:List Go.Value} {u:Go.Ord.U} {p:Int->Bool} {nx:List Go.Ord.SK} {s:Go.Ord.St}
namespace Go.Proofs.YtoleahhfkpkcjaaGreatDoor
open Go.Proofs.Tryz
open Go.PF Go.RowKit Go.Ord
attribute [local irreducible] TW CW KW DW
theorem uP (h:i<32):(1 <<< i:Nat)<2 ^ 32:=by rw [Nat.one_shiftLeft]; exact Nat.pow_lt_pow_right ZL h
theorem Bf {o:Int} (l:Srch w g m d us dv uv fv) (n:us[i]?=some u) (A:k<2 ^ 32) (p:i<32) :
  Gives prog 166 #[.pointer (some ⟨g,0,none⟩),.agg #[.int .u32 (k:Int),ZU o],ZU (i:Int)] w λx r=>ZT w r/\x= .agg #[.int .u32 ((k ||| 1 <<< i:Nat):Int),ZU (u.exit:Int)]:=by
 obtain ⟨v,B,s⟩:=uH l.units n;obtain ⟨C,D,E⟩:=l;have t:=(ZE n).1;refine gw func166 ntmps166 ?_;refine nw rfl λF G c=> ?_;refine na uG λH y a=> ?_;refine ci rfl (s.en y) λI h=> ?_;refine NB 7 ?_;refine bM sS rfl ⟨ct,ct,trivial⟩ (λ_=>p) ?_;refine bM GK rfl ⟨ct,ct,trivial⟩ (λ_=>⟨A,uP p⟩) (rd ?_);refine Xn [.int .u32 ((k ||| 1 <<< i:Nat):Int),ZU (u.exit:Int)] rfl ?_;refine V4 λJ j=> ?_;refine sb rfl ((a.blk.next h).next j) λK b z _=> ?_;have q:=(c.below.step (a.below.step h)).step j;exact rc rfl b ⟨q.grown z q.size (λk e=>by cases e; have:=a.at_; have:=c.below.size; omega),rfl⟩
theorem iY (hn:Num d u):(0<=lU d s u)↔kH d s u:=by
 unfold lU;constructor
 .intro h
  cases a:dec (kH d s u) with
  | true=>exact dec_iff.1 a
  | false=>rw [a] at h; simp at h
 .intro h;rw [aD h,if_pos rfl];have:=hn.low;unfold pp;omega
theorem xD (hn:Num d u): -1<=lU d s u/\lU d s u<=1000001:=by
 unfold lU;have b:=hn.low;have c:=hn.high
 cases a:dec (kH d s u) with
 | true =>
  have h:=dec_iff.1 a;have:=h.2;unfold pp
  omega
 | false=>simp
theorem Ng {j:Nat} {v:U} (e:WfD d) (c:Srch w g m d us dv uv fv) (h:us[i]?=some u) (t:us[j]?=some v) (hn:Num d u) (b:Num d v) :
  Gives prog 253 #[.pointer (some ⟨g,0,none⟩),ZU (i:Int),ZU (j:Int)] w λx k=>ZT w k/\x= .bool (dec (Fits d u v)):=by
 obtain ⟨y,z,a⟩:=uH c.units h;have A:=c.blk;have B:=c.units;have l:=(ZE h).1;have C:=hn.low;have D:=hn.span;refine gw func253 ntmps253 ?_;refine ci rfl (a.wd w) λn o=> ?_;refine ci rfl (a.en n) λp q=> ?_;refine eD [.int .u32 ((0:Nat):Int),ZU (u.exit:Int)] rfl (rn ?_);refine ci rfl (a.sp p) λE r=> ?_;refine cv rfl (p9 (s:=(some u.exit,u.low+u.span)) e (c.step (o.step (q.step r))) t b (λy a=>by cases a; exact hn.ok.e2) ⟨show -1<=u.low+u.span by omega,show u.low+u.span<=3000000 by omega⟩) λF G=> ?_;refine aO rfl ⟨bK,?_⟩;rw [<-yz,dJ (iY b)];rfl
theorem Tz (j:WfD d) (e:Srch w g m d us dv uv fv) (l:us[i]?=some u) (hn:Num d u) (hs:yf d s) (E:0<=s.2/\s.2<=3000000) :
  Gives prog 297 #[.pointer (some ⟨g,0,none⟩),.agg #[.int .u32 (k:Int),ZU (iD s.1)],ZU s.2,ZU (i:Int)] w λx q=>ZT w q/\x= .bool (dec (Free d s u)):=by
 obtain ⟨y,F,n⟩:=uH e.units l;have G:=e.blk;have H:=e.units;have r:=(ZE l).1;refine gw func297 ntmps297 ?_;refine nw rfl λI t v=> ?_;refine ci rfl (n.en t) λz A=> ?_;refine Yu rfl (n.sp z) λJ B=> ?_;refine cg rfl (λ_=>p9 (k:=k) j (e.step (v.below.step (A.step B))) l hn hs ⟨ZJ,E.2⟩) λK L=> ?_;refine rB rfl ?_;simp only [Bool.and_eq_true,decide_eq_true_eq];constructor
 .rintro ⟨⟨⟨b,o⟩,h⟩,c⟩;have a:kH d s u:=(iY hn).1 ZJ;refine ⟨?_,?_,h,a,?_⟩
  .cases p:s.1 with
   | none=>rw [p] at b; simp only [iD] at b; omega
   | some y=>rw [p] at b; simp only [iD] at b; congr 1; omega
  .omega
  .unfold lU at c
   rwa [aD a,if_pos rfl] at c
 .rintro ⟨b,o,h,c,C⟩;have D:lU d s u=s.2:=by unfold lU; rw [aD c,if_pos rfl,C]
  rw [b];simp [iD,o,h,D]
structure SrchF (w:World) (g m:Nat) (d:bG) (us:List U) (dv uv:Value) (gf:Nat) (F:List Nat):Prop where
 s:Srch w g m d us dv uv (.slice (some ⟨gf,0,none⟩) F.length F.length)
 len:F.length=us.length
 fst:Blk w gf 234 (F.map λx:Nat=>Value.int .u32 (x:Int))
 small: ∀x∈F,x<2 ^ 32
theorem SrchF.step {w w':World} {g m:Nat} {d:bG} {us:List U} {dv uv:Value} {gf:Nat} {F:List Nat} (h:SrchF w g m d us dv uv gf F) (hb:ZT w w'):SrchF w' g m d us dv uv gf F :=
 ⟨h.s.step hb,h.len,h.fst.next hb,h.small⟩
theorem SrchF.at {F:List Nat} (h:SrchF w g m d us dv uv gf F) (b:i<us.length):F.getD i 0<2 ^ 32/\w.cell? (Addr.add ⟨gf,0,none⟩ ((i:Int).toNat*1))=some (.int .u32 ((F.getD i 0:Nat):Int)):=by
 have a:i<F.length:=by rw [h.len]; exact b
 have e:F.getD i 0=F[i]:=by simp [a]
 exact ⟨by rw [e]; exact h.small _ (List.getElem_mem a),h.fst.fld (by simp [a])⟩
theorem sD (h:But k w w') (d:g<=k):Kept (λb=>b<g) w w':=Kept.of_blocks λb c a=>h.block b a (λe=>by cases e; omega)
theorem SrchF.put {F:List Nat} (h:SrchF w g m d us dv uv gf F) (b:x<2 ^ 32) (c:Blk w' gf 234 ((F.map λx:Nat=>Value.int .u32 (x:Int)).set ((i:Int).toNat*1) (.int .u32 (x:Int)))) (hb:But gf w w') (f:g<gf):SrchF w' g m d us dv uv gf (F.set i x):=by
 refine ⟨⟨?_,h.s.dist.mono (sD hb ZJ),h.s.units.mono (sD hb ZJ)⟩,by simp [h.len],?_,λz a=>(List.mem_or_eq_of_mem_set a).elim (h.small z) λe=>e ▸ b⟩
 .simpa using hb.blk h.s.blk ZJ
 .simpa using c
theorem But.more {w'':World} (h:But g w w') (hb:But k w' w'') (c:w.heap.size<=k):But g w w'' :=
 ⟨hb.os.trans h.os,hb.tape.trans h.tape,hb.output.trans h.output,Nat.le_trans h.size hb.size,λx b a=>(hb.block x (Nat.lt_of_lt_of_le b h.size) (λe=>by cases e; omega)).trans (h.block x b a)⟩
def TT (j i a b:Nat):Prop:=max a b<j\/max a b=j/\min a b<i
def MaskOK (d:bG) (us:List U) (F:List Nat) (j i:Nat):Prop:= ∀(a:Nat) (u:U),us[a]?=some u-> ∀b,((F.getD a 0).testBit b=true↔TT j i a b/\a≠b/\ ∃v,us[b]?=some v/\ ¬Fits d u v)
theorem MaskOK.next {F F':List Nat} {j:Nat} {v:U} (h:MaskOK d us F j i) (o:i<j) (g:us[i]?=some u) (k:us[j]?=some v)
  (p: ∀a b,a<us.length->((F'.getD a 0).testBit b=true↔(F.getD a 0).testBit b=true\/(a=i/\b=j/\ ¬Fits d u v)\/(a=j/\b=i/\ ¬Fits d v u))):MaskOK d us F' j (i+1):=by
 intro a x c b;rw [p a b (ZE c).1,h a x c b];have n:TT j (i+1) a b↔TT j i a b\/(a=i/\b=j)\/(a=j/\b=i):=by unfold TT; omega
 rw [n];constructor
 .rintro (⟨e,l⟩|⟨rfl,rfl,e⟩|⟨rfl,rfl,e⟩)
  .exact ⟨.inl e,l⟩
  .rw [g] at c; cases c;exact ⟨.inr (.inl ⟨rfl,rfl⟩),ZJ,v,k,e⟩
  .rw [k] at c; cases c;exact ⟨.inr (.inr ⟨rfl,rfl⟩),ZJ,u,g,e⟩
 .rintro ⟨e|⟨rfl,rfl⟩|⟨rfl,rfl⟩,l,y,f,m⟩
  .exact .inl ⟨e,l,y,f,m⟩
  .rw [g] at c; cases c;rw [k] at f; cases f;exact .inr (.inl ⟨rfl,rfl,m⟩)
  .rw [k] at c; cases c;rw [g] at f; cases f;exact .inr (.inr ⟨rfl,rfl,m⟩)
theorem Hg {F:List Nat} {y:Nat} (c:x<F.length) (a b:Nat):((F.set x (F.getD x 0 ||| 1 <<< y)).getD a 0).testBit b=true↔(F.getD a 0).testBit b=true\/(a=x/\b=y):=by
 by_cases h:a=x
 .subst h;simp only [List.getD_eq_getElem?_getD,List.getElem?_set_self c,Option.getD_some,Nat.testBit_or,Nat.one_shiftLeft,Nat.testBit_two_pow,Bool.or_eq_true,decide_eq_true_eq,true_and,eq_comm (a:=y)]
 .simp [List.getElem?_set_ne (Ne.symm h),h]
theorem Jq (K:WfD d) (hS:Srch w g m d us dv uv fv) (hn: ∀u∈us,Num d u) (a6:us.length<=16) :
  Gives prog 162 #[.pointer (some ⟨g,0,none⟩)] w λx w'=>But g w w'/\((x= .bool false/\ ∃(i j:Nat) (u v:U),us[i]?=some u/\us[j]?=some v/\i≠j/\ ¬Fits d u v/\ ¬Fits d v u)\/(x= .bool true/\ ∃gf F,SrchF w' g m d us dv uv gf F/\vV d us (λi=>F.getD i 0)/\ ∀i j,i<us.length->(F.getD i 0).testBit j=true->j<us.length)):=by
 have R:=hS.blk;have hU:=hS.units;have a0:=R.lt;refine gw func162 ntmps162 ?_;refine ms U5 Uj rfl λL w1 D=> ?_;have e1:=D.at_;refine sf (j:=2) rfl (R.next D.below) λw2 S p a1=> ?_;have z:SrchF w2 g m d us dv uv L (List.replicate us.length 0) :=
  ⟨⟨by simpa using S,(hS.dist.below D.below).mono (sD p ZC),(hU.below D.below).mono (sD p ZC)⟩,ZM,by simpa using p.blk D.blk ZJ,λx hx=>by rw [List.eq_of_mem_replicate hx]; decide⟩
 have Y:MaskOK d us (List.replicate us.length 0) 0 0:=λa u e b=>by
  have Z:=(ZE e).1;simp [List.getD_eq_getElem?_getD,List.getElem?_replicate,Z,TT]
 have a2:=z.s.blk;have a3:=z.s.units;have r:=But.trans (.of_below D.below) p;clear R hU;refine rn ?_;refine SC [0,20] 21 us.length (λ_:List Nat=> []) (λj F W=>But g w W/\SrchF W g m d us dv uv L F/\MaskOK d us F j 0) (List.replicate us.length 0) ⟨r,z,Y⟩ (λj F W E ⟨A,n,o⟩=> ?_) λF W ⟨A,n,o⟩=> ?_
 .refine SC [0,3,20,21,24] 25 j (λ_:List Nat=> []) (λi F W=>But g w W/\SrchF W g m d us dv uv L F/\MaskOK d us F j i) F ⟨A,n,o⟩ (λi F W t ⟨A,n,o⟩=> ?_) λF W ⟨A,n,o⟩=> ?_
  .obtain ⟨u,e,G⟩:=eP (l:=us) (k:=i) ZJ;obtain ⟨v,y,H⟩:=eP (l:=us) (k:=j) E;refine rn ?_;refine cv rfl (Ng K n.s e y (hn u G) (hn v H)) λw3 M=> ?_;refine cv rfl (Ng K (n.s.step M) y e (hn v H) (hn u G)) λw4 b4=> ?_;have q:=But.trans A (.of_below (M.step b4));have c:=(n.step M).step b4;have a4:=c.s.blk;have a5:=c.len;obtain ⟨si,ci⟩:=c.at (i:=i) ZJ;obtain ⟨sj,cj⟩:=c.at E;clear n M b4;refine iG rfl (λr=> ?_) λr=> ?_
   .exact aO rfl ⟨q,.inl ⟨rfl,i,j,u,v,e,y,ZJ,λh=>by simp [aD h] at r,λh=>by simp [aD h] at r⟩⟩
   refine iG rfl (λI=> ?_) λI=> ?_
   .have n1: ¬Fits d u v:=λh=>by simp [aD h] at I
    have y2:Fits d v u:=dec_iff.1 (by simpa [I] using r);refine NB 11 ?_;refine bM sS rfl ⟨ct,ct,trivial⟩ (λ_=>ZJ) ?_;refine bM GK rfl ⟨ct,ct,trivial⟩ (λ_=>⟨si,uP ZJ⟩) (rd ?_);refine V4 λw6 B=> ?_;refine sf rfl (c.step B).fst (λw7 C J _=> ?_) (hj:=by simp; omega);refine OT _ ⟨But.more (But.trans q (.of_below B)) J ZJ,(c.step B).put (Nat.or_lt_two_pow si (uP ZJ)) C J ZJ,o.next t e y λa b ha=> ?_⟩;rw [Hg ZJ];simp [n1,y2]
   have y1:Fits d u v:=dec_iff.1 (by simpa using I);refine iG rfl (λN=> ?_) λN=> ?_
   .have n2: ¬Fits d v u:=λh=>by simp [aD h] at N
    refine NB 11 ?_;refine bM sS rfl ⟨ct,ct,trivial⟩ (λ_=>ZJ) ?_;refine bM GK rfl ⟨ct,ct,trivial⟩ (λ_=>⟨sj,uP ZJ⟩) (rd ?_);refine V4 λw6 B=> ?_;refine sf rfl (c.step B).fst (λw7 C J _=> ?_) (hj:=by simp; omega);refine OT _ ⟨But.more (But.trans q (.of_below B)) J ZJ,(c.step B).put (Nat.or_lt_two_pow sj (uP ZJ)) C J ZJ,o.next t e y λa b ha=> ?_⟩;rw [Hg ZJ];simp [n2,y1]
   .have y2:Fits d v u:=dec_iff.1 (by simpa using N);exact OT F ⟨q,c,o.next t e y λa b ha=>by simp [y1,y2]⟩
  .refine OT F ⟨A,n,λa u e b=> ?_⟩;rw [o a u e b];refine and_congr_left λh=> ?_;unfold TT;omega
 .refine aO rfl ⟨A,.inr ⟨rfl,L,F,n,λi j u v t E=> ?_,λi j t r=>by obtain ⟨_,_,v,y,_⟩:=(o i us[i] (ZD t) j).1 r; exact (ZE y).1⟩⟩;rw [o i u t j];have I:=(ZE t).1;have N:=(ZE E).1;constructor
  .rintro ⟨_,q1,v',O,q3⟩;rw [E] at O; cases O;exact ⟨q1,q3⟩
  .rintro ⟨q1,O⟩;exact ⟨by unfold TT; omega,q1,v,E,O⟩
section
def Nums (w:World) (b:Nat) (v:Value) (L:List Nat):Prop:= ∃n,n=L.length/\OwnS w 3 1 v n (L.map λi:Nat=>Value.int .i64 (i:Int))/\ ∀g,v.ownBlock=some g->b<=g
section
variable {w w':World} {b b':Nat} {v:Value} {L:List Nat}
theorem Nums.below (h:Nums w b v L) (hb:ZT w w'):Nums w' b v L:=by
 obtain ⟨n,a,c,d⟩:=h;exact ⟨n,a,c.below hb,d⟩
theorem Nums.nil (w:World) (b:Nat):Nums w b (.slice none 0 0) []:=⟨0,rfl,OwnS.nil _ _ _,λg h=>by simp [Value.ownBlock] at h⟩
theorem Nums.less (h:Nums w b v L) (hb:b'<=b):Nums w b' v L:=by
 obtain ⟨n,a,c,d⟩:=h;exact ⟨n,a,c,λg e=>Nat.le_trans hb (d g e)⟩
theorem Nums.keptO (h:Nums w b v L) (hb:w.grownBy w' o) (i: ∀g,v.ownBlock=some g->o≠some g):Nums w' b v L:=by
 obtain ⟨n,d,a,f⟩:=h;exact ⟨n,d,a.kept λq c=>hb.block q (a.lt c) (λe=>i q c e.symm),f⟩
theorem Nums.lt (h:Nums w b v L) {g:Nat} (c:v.ownBlock=some g):g<w.heap.size:=by
 obtain ⟨n,d,a,e⟩:=h;exact a.lt c
theorem Nums.lo (h:Nums w b v L) (c:v.ownBlock=some g):b<=g:=by
 obtain ⟨n,d,e,a⟩:=h;exact a g c
theorem Nums.isl (h:Nums w b v L):nk v L.length:=by
 obtain ⟨n,rfl,c,e⟩:=h;obtain ⟨A,a,d,f,_⟩:=c.form;exact ⟨A,a,d⟩
theorem Nums.get (h:Nums w b v L) (f:L[i]?=some x):(∃l c,v= .slice (some (vP v)) l c/\0<=(i:Int)/\(i:Int)<(l:Int))/\w.cell? ((vP v).add ((i:Int).toNat*1))=some (ZU (x:Int)):=by
 obtain ⟨m,rfl,j,k⟩:=h;obtain ⟨A,d,rfl,n,o,a⟩:=j.form;obtain ⟨g,rfl,_,e,_⟩:=a i (ZU (x:Int)) (by simp [f]);have:=(ZE f).1;exact ⟨⟨_,_,rfl,ZJ,ZJ⟩,by rw [show vP (Value.slice (some ⟨g,0,none⟩) L.length d)=⟨g,0,none⟩ from rfl,dQ]; simpa using e⟩
theorem Nums.big (h:Nums w b v L):L.length<=9223372036854775807:=by
 obtain ⟨n,f,a,i⟩:=h;rcases a.2 with ⟨rfl,j⟩|⟨g,c,d,k,l,m,o,e,p,q⟩
 .omega
 .simp only [maxLen] at e;omega
theorem Nums.app {v':Value} (h:Nums w b v L) (hn:n=L.length) (c:OwnS w' 3 1 v' (n+1) (L.map (λi:Nat=>Value.int .i64 (i:Int))++ [ZU (x:Int)])) (d:v'.ownBlock=v.ownBlock\/v'.ownBlock=some w.heap.size) (hb:b<=w.heap.size):Nums w' b v' (L++ [x]):=by
 refine ⟨n+1,by simp [hn],by rw [List.map_append]; exact c,λq a=> ?_⟩;rcases d with e|e
 .exact h.lo (by rw [<-e]; exact a)
 .rw [e] at a; cases a; exact hb
end
theorem gn {r:Option Nat} {Q:Exit->Act->World->Prop} {N:Nat} {ds:List Deferred} {ops rest:List Oper} {E:Env} {w0:World} {ty ty':TypeId} {pos pos':String} {af af':Array Edge} {x s:Operand} {d1:Nat} {d2:Option Tmp} {rv:Value} {L:List Nat} {q: ∀(g:Nat) rv' w',Nums w' b rv' (L++ [i])->ZT w0 w'->w.grownBy w' rv.ownBlock->(∀k,rv'.ownBlock=some k->rv.ownBlock=some k\/w.heap.size<=k)->Prop}
  (h:(aC N (some d1),aC N d2,ev E x,ev ((d1,none,.slice (some ⟨w.heap.size,0,none⟩) 1 1)::E) s)=(true,true,some (none,ZU (i:Int)),some (none,rv))) (hL:Nums w b rv L) (hb0:w0.heap.size<=b) (hbw:b<=w.heap.size)
  (next: ∀g rv' w' a1 a2 a3 a4,q g rv' w' a1 a2 a3 a4) (hb:ZT w0 w:=by exact bK) (hn:L.length<=1000000:=by omega)
  (imp: ∀g rv' w' a1 a2 a3 a4,Wp (q g rv' w' a1 a2 a3 a4)->TW prog r Q N ds ops rest (ins (ins E (some d1) none (.slice (some ⟨g,0,none⟩) 1 1)) d2 none rv') w':=by exact λ_ _ _ _ _ _ _ h=>jB h) :
  TW prog r Q N ds ops (⟨some d1,.buildSlice 66 1 #[(0,x)],ty,pos,af,none⟩::⟨d2,.call ⟨.builtin .append,#[s,.tmp d1],#[66,66]⟩,ty',pos',af',none⟩::rest) E w:=by
 simp only [Prod.mk.injEq] at h;obtain ⟨hd1,hd2,hx,hs⟩:=h;refine bI 3 [x] rfl hd1 rfl kC (aA hx ct aJ) rfl rfl rfl rfl rfl λg w1 f1=> ?_;have e1:=f1.at_;subst e1;obtain ⟨n,hn1,h2,h3⟩:=hL.below f1.below;have hz:=f1.size;have hsl:ev (ins E (some d1) none (.slice (some ⟨w.heap.size,0,none⟩) 1 1)) (.tmp d1)=some (none,.slice (some ⟨w.heap.size,0,none⟩) 1 1):=by
  simp [ins,ev,PF.look]
 refine aT [ZU (i:Int)] rfl hd2 ji hs h2 hsl rfl (λj u hj=>⟨_,rfl,f1.blk.fld hj⟩) (λu hu=>by simp at hu; subst hu; rfl) ZJ ZJ λrv' w2 hO hg hn'=> ?_;have hB:=hb.step f1.below;have hB2:=hB.grown hg hB.size (λq hq=>Nat.le_trans hb0 (hL.lo hq));have hN:=Nums.app (hL.below f1.below) hn1 hO hn' ZJ;have hG:=GB.trans (GB.of_below f1.below) hg;have hk: ∀k,rv'.ownBlock=some k->rv.ownBlock=some k\/w.heap.size<=k:=λk e=>hn'.elim (λe'=> .inl (e' ▸ e)) λe'=> .inr (by rw [e'] at e; cases e; omega);exact imp _ rv' w2 hN hB2 hG hk ⟨next _ rv' w2 hN hB2 hG hk⟩
theorem Is (k c:Nat):((k &&& 1 <<< c:Nat):Int)≠0↔k.testBit c=true:=by
 have e:k &&& 1 <<< c=2 ^ c*(k.testBit c).toNat:=by
  apply Nat.eq_of_testBit_eq;intro i;rw [Nat.testBit_and,Nat.one_shiftLeft,Nat.testBit_two_pow];by_cases h:c=i
  .subst h;cases a:k.testBit c<;>simp
  .cases a:k.testBit c with
   | false=>simp [h]
   | true=>simp [h]
 rw [e]
 cases a:k.testBit c with
 | false=>simp
 | true =>
  have:=Nat.two_pow_pos c;simp only [Bool.toNat_true,iff_true];omega
def Uc:Option Nat->Int
 | none=> -1
 | some i=>i
theorem M8 (h: ¬0<=Uc o):o=none:=by
 cases o with
 | none=>rfl
 | some y=>exact absurd (by simp only [Uc]; omega) h
theorem zD {F:List Nat} (R:WfD d) (G:SrchF w g m d us dv uv gf F) (hn: ∀u∈us,Num d u) (aa:us.length<=16) (hk:k<2 ^ 32) (hs:yf d s) (ht:0<=s.2/\s.2<=3000000) :
  Gives prog 254 #[.pointer (some ⟨g,0,none⟩),.agg #[.int .u32 (k:Int),ZU (iD s.1)],ZU s.2] w λx w'=>ZT w w'/\ ∃L,Nums w' w.heap.size x L/\Cho d us F k s L:=by
 have hB:=G.s.blk;have hU:=G.s.units;have a8:=G.len;refine gw func254 ntmps254 ?_;refine nw rfl λg1 w1 H=> ?_;refine ze w1 [0,2,4,14] 15 us.length (λx:Value×Int=> [(7,none,x.1),(8,none,ZU x.2)])
  (λc x W=>Nums W w1.heap.size x.1 (iJ F k c)/\x.2=Uc ((iJ F k c).find? (freeAt d us s))/\ ∀(i:Nat) (u:U),i<c->us[i]?=some u->k.testBit i=false->kH d s u) (.slice none 0 0,-1) ⟨Nums.nil _ _,rfl,λi u S=>ZJ⟩ (λc x W hc I hJ=> ?_) λx W I hJ=> ?_
 .obtain ⟨lv,C⟩:=x;obtain ⟨t,a,e⟩:=hJ;dsimp only at t a;obtain ⟨u,o,a0⟩:=eP hc;have Y:=hn u a0;refine rn ?_;refine dx ?_;refine bM sS rfl ⟨ct,ct,trivial⟩ (λ_=>ZJ) ?_;refine bM QI rfl ⟨ct,ct,trivial⟩ (λ_=>⟨hk,uP ZJ⟩) (rd ?_);refine dz λw2 Z=> ?_;refine cd rfl (λl=> ?_) λl=> ?_
  .have J:=(Is k c).1 l;have j:iJ F k (c+1)=iJ F k c:=by rw [qR,J]; simp
   refine qz (lv,C) ?_;rw [j];refine ⟨t.below Z,a,λi z S n A=> ?_⟩;rcases Nat.lt_succ_iff_lt_or_eq.1 S with h|rfl
   .exact e i z h n A
   .rw [J] at A; cases A
  have K:k.testBit c=false:=by
   cases D:k.testBit c with
   | false=>rfl
   | true=>exact absurd ((Is k c).2 D) l
  refine cv rfl (p9 (k:=k) R ((G.step H.below).step (I.step Z)).s o Y hs ⟨ZJ,ht.2⟩) λw3 b3=> ?_;refine cd rfl (λa5=> ?_) λa6=> ?_
  .refine aO rfl ⟨bK,[],Nums.nil _ _,.inl ⟨⟨c,u,o,K,λh=> ?_⟩,rfl⟩⟩;have:=(iY (s:=s) Y).2 h;omega
  have a1:kH d s u:=(iY Y).1 ZJ;have b: ∀(i:Nat) (z:U),i<c+1->us[i]?=some z->k.testBit i=false->kH d s z:=λi z S n A=>by
   rcases Nat.lt_succ_iff_lt_or_eq.1 S with h|rfl
   .exact e i z h n A
   .rw [o] at n; cases n; exact a1
  have a2:=(G.step H.below).step (I.step (Z.step b3));obtain ⟨_,cc⟩:=a2.at hc;refine dx ?_;refine bM xL rfl ⟨ct,ct,trivial⟩ (λ_=>trivial) (rd ?_);refine dz λw4 b4=> ?_;have B:=Z.step (b3.step b4);have a9:=B.size;have zW:=I.size;refine cd rfl (λM=> ?_) λM=> ?_
  .have a3:qp (F.getD c 0) k=0:=by exact_mod_cast M
   have j:iJ F k (c+1)=iJ F k c++ [c]:=by rw [qR,K,a3]; simp
   have a7:(iJ F k c).length<=c:=by unfold iJ; exact Nat.le_trans (List.length_filter_le _ _) ZM
   refine gn (w0:=w1) rfl (t.below B) ZC ZJ λg5 N w5 hN b5 _ _=> ?_;have a4:freeAt d us s c=dec (Free d s u):=dJ ⟨λ⟨z,h1,h2⟩=>by rw [o] at h1; cases h1; exact h2,λh=>⟨u,o,h⟩⟩;have p:Uc ((iJ F k (c+1)).find? (freeAt d us s))=if (decide (C<0)&&dec (Free d s u))=true then (c:Int) else C:=by
    rw [j,List.find?_append,a,<-a4]
    cases D:(iJ F k c).find? (freeAt d us s) with
    | some y =>
     have: ¬((y:Int)<0):=ZJ
     simp [Uc,this]
    | none=>cases M:freeAt d us s c<;>simp [Uc,List.find?,M]
   rw [<-j] at hN;refine cg rfl (λ_=>Tz (k:=k) R ((G.step H.below).step b5).s o Y hs ht) λw6 b6=> ?_;refine iG rfl (λE=> ?_) λE=> ?_
   .exact qz (N,(c:Int)) ⟨hN.below b6,by rw [p,if_pos E],b⟩
   .exact qz (N,C) ⟨hN.below b6,by rw [p,if_neg (by rw [E]; simp)],b⟩
  .have j:iJ F k (c+1)=iJ F k c:=by rw [qR,if_neg (λh=>by rw [Bool.and_eq_true,decide_eq_true_eq] at h; exact M (by rw [h.2]; rfl)),List.append_nil]
   exact qz (lv,C) (by rw [j]; exact ⟨t.below B,a,b⟩)
 .obtain ⟨lv,C⟩:=x;obtain ⟨t,a,e⟩:=hJ;dsimp only at t a;have r: ∀(i:Nat) (u:U),us[i]?=some u->k.testBit i=false->kH d s u:=λi u o A=>e i u (ZE o).1 o A;refine cd rfl (λO=> ?_) λO=> ?_
  .obtain ⟨y,E⟩: ∃y,(iJ F k us.length).find? (freeAt d us s)=some y:=by
    cases D:(iJ F k us.length).find? (freeAt d us s) with
    | some y=>exact ⟨y,rfl⟩
    | none=>rw [a,D] at O; exact absurd (show (0:Int)<= -1 from O) ZL
   rw [E] at a;subst a;refine bs [ZU (y:Int)] kC rfl λg5 w5 f5=> ?_;refine aO rfl ⟨bK,[y],⟨1,rfl,aU f5.blk rfl ZL,λq D=> ?_⟩,.inr ⟨r,by unfold D6; rw [E]⟩⟩;have e5:g5=q:=by simpa [Value.ownBlock] using D
   have:=f5.at_;have:=I.size;have:=H.below.size;omega
  .rw [a] at O;exact aO rfl ⟨bK,_,t.less H.below.size,.inr ⟨r,by unfold D6; rw [M8 O]⟩⟩
end
theorem PL {F:List Nat} (K:WfD d) (N:SrchF w g m d us dv uv gf F) (hn: ∀u∈us,Num d u) (a5:us.length<=16) :
  Gives prog 163 #[.pointer (some ⟨g,0,none⟩)] w λx C=>ZT w C /\
   (x= .tuple #[.slice none 0 0,.bool false]\/ ∃v L,x= .tuple #[v,.bool true]/\Nums C w.heap.size v L/\(∀i∈L,i<us.length)/\Feas d (none,0) us):=by
 have hB:=N.s.blk;have hU:=N.s.units;refine gw func163 ntmps163 ?_;refine eD [.int .u32 ((0:Nat):Int),ZU (-1)] rfl ?_;refine Go.PF.nv uG rfl λg1 O D=> ?_;have a6:=D.at_;have a7:=D.size;have h0:ZT w O/\Blk O g1 236 [.int .u32 ((0:Nat):Int),ZU (-1)]:=⟨D.below,D.blk⟩;clear D;refine SC [0,4,14] 15 us.length (λx:Nat×St×Value=> [(5,none,ZU x.2.1.2),(6,none,x.2.2)])
  (λc x W=>ZT w W/\O.heap.size<=W.heap.size/\Blk W g1 236 [.int .u32 (x.1:Int),ZU (iD x.2.1.1)]/\(∃L,Nums W O.heap.size x.2.2 L/\L.length=c/\ ∀i∈L,i<us.length)/\Go.Ord.Way d us x.1 x.2.1 c/\x.1<2 ^ 32/\0<=x.2.1.2/\x.2.1.2<=3000000) (0,(none,0),.slice none 0 0)
  ⟨h0.1,ZC,h0.2,⟨[],Nums.nil _ _,rfl,(λi Y=>by cases Y)⟩,Way.zero us,(ZL:0<2 ^ 32),Int.le_refl _,(ZL:(0:Int)<=3000000)⟩ (λc x W hc Z=> ?_) λx W Z=> ?_
 .obtain ⟨k,s,sv⟩:=x;obtain ⟨A,hz,r,⟨L,B,rfl,t⟩,a,R,E,z⟩:=Z;dsimp only at r B a R E z;have o:yf d s:=a.sok λu p=>(hn u p).ok;refine rn ?_;refine cr rfl (zD (k:=k) K (N.step A) hn a5 R o ⟨E,z⟩) λy w2 b2 h=> ?_;obtain ⟨M,hM,G⟩:=h;have a8:=hM.isl;have a9:=hM.big;refine rn ?_;refine cd rfl (λhz=> ?_) λhz=> ?_
  .exact rD rfl ⟨bK,.inl rfl⟩
  obtain ⟨i,Y,a0⟩:=eP (l:=M) (k:=0) ZJ;obtain ⟨ha,aa⟩:=hM.get Y;obtain ⟨u,p,H,b⟩:=G.mem a0;have ab:=(ZE p).1;have S:=hn u (ZF p);obtain ⟨v,hc,hv⟩:=uH hU p;have a1:lU d s u=pp d s u:=by unfold lU; rw [aD b,if_pos rfl]
  have ac:=xD (s:=s) S;have ad:=(iY (s:=s) S).2 b;have ae:=S.span;refine rn ?_;refine aM fM rfl ⟨ct,ct,trivial⟩ (λ_=>ha) (rn ?_);refine dx ?_;refine dc Rp rfl (λ_ C b'=>p9 (k:=k) K ((N.step A).step (b2.step b')).s p S o ⟨ZJ,z⟩) ?_;refine Xm rfl (λC _=>hv.sp C) ?_;refine dz λw3 b3=> ?_;refine cv rfl (Bf (k:=k) ((N.step A).step (b2.step b3)).s p R ZJ) λw4 b4=> ?_;have n:=b2.step (b3.step b4);have af:=n.size;have I:=A.step n;refine sb rfl (r.next n) λw5 a2 b5 z5=> ?_;have ag:ZT w w5:=I.grown b5 I.size (λq hq=>by cases hq; omega);have a3:=(B.below n).keptO b5 (λq hq e=>by cases e; have:=B.lo hq; omega);refine gn (w0:=w) rfl a3 ZJ ZJ λg6 a4 w6 hN b6 J _=> ?_;have z6:=J.size;refine OT (k ||| 1 <<< i,nxt d s u,a4) ⟨b6,ZJ,GB.blk J a2 (λe=>by have:=B.lo e; omega),⟨_,hN,ZM,λj hj=> ?_⟩,a.step p H b,Nat.or_lt_two_pow R (uP ZJ),?_,?_⟩ (hp:=by rw [a1]; rfl)
  .rcases ZH hj with h|h
   .exact t j h
   .rw [List.mem_singleton] at h; omega
  .show 0<=pp d s u+u.span;omega
  .show pp d s u+u.span<=3000000;omega
 .obtain ⟨k,s,sv⟩:=x;obtain ⟨A,hz,r,⟨L,B,hl,t⟩,a,_⟩:=Z;exact rD rfl ⟨A,.inr ⟨_,L,rfl,B.less ZJ,t,a.feas⟩⟩
theorem CB {a b:Option Nat} (h:iD a=iD b):a=b:=by
 cases a<;>cases b<;>simp only [iD] at h<;>first|rfl|omega|(congr 1; omega)
theorem PQ (a:Option Nat): -1<=iD a:=by cases a<;>simp only [iD]<;>omega
theorem PP {f:Int} (h: -1<=f): ∃o,f=iD o:=by
 by_cases q:f<0
 .exact ⟨none,by simp only [iD]; omega⟩
 .exact ⟨some f.toNat,by simp only [iD]; omega⟩
def Pb (r:SK):Value:= .agg #[.int .u32 (r.1:Int),ZU (iD r.2)]
theorem RQ (a b:SK) (w:World):(Op.equal 236 (Pb a) (Pb b)).run prog w= .ok (decide (a=b)) w:=by
 have h:=(mP (P:=prog) (w:=w) (t:=236) (xs:= [.int .u32 (a.1:Int),ZU (iD a.2)]) (ys:= [.int .u32 (b.1:Int),ZU (iD b.2)]) ZK).1;have e:yw [.int .u32 (a.1:Int),ZU (iD a.2)] [.int .u32 (b.1:Int),ZU (iD b.2)]=decide (a=b):=by
  simp only [yw,U7];by_cases h:a=b
  .subst h; simp
  .have: ¬((a.1:Int)=b.1/\iD a.2=iD b.2):=λ⟨d,c⟩=>h (Prod.ext ZJ (CB c));simp [h];intro d c;exact this ⟨ZJ,c⟩
 rw [<-e];exact h
theorem RP (e:Bool) (a:SK) (w:World):(Instr.checkKey e 10000 236 (Pb a)).run prog w= .ok () w:=by
 have b: ∀x,(part 234 #[.int .u32 (a.1:Int),ZU (iD a.2)] 0).run prog x= .ok (.int .u32 (a.1:Int)) x:=λx=>by simp [part,isAgg]
 have c: ∀x,(part 3 #[.int .u32 (a.1:Int),ZU (iD a.2)] 1).run prog x= .ok (ZU (iD a.2)) x:=λx=>by simp [part,isAgg]
 unfold Pb Instr.checkKey;simp [b,c,jG underlying234,jG underlying3]
theorem O9 (a b:SK) (h:Pb a=Pb b):a=b:=by
 unfold Pb at h;simp only [Value.agg.injEq,Array.mk.injEq,List.cons.injEq,Value.int.injEq,true_and,and_true] at h;exact Prod.ext ZJ (CB h.2)
def rH:GKey prog 236 SK:=TJ prog 236 Pb (λa b=>decide (a=b)) _ underlying236 (λa b=>ZM) RQ (λa b=>rfl) (λa=>by simp [Pb,Instr.sameBits]) RP O9
theorem Wx:(prog.info? 297).bind (·.zero)=some (jA 0 0 0):=ZK
def KN (r:SK):List Value:= [.int .u32 (r.1:Int),ZU (iD r.2)]
def Lst (w:World) (b:Nat) (v:Value) (l:List SK):Prop:= ∃n,n=l.length/\OwnS w 236 2 v n (l.flatMap KN)/\ ∀g,v.ownBlock=some g->b<=g
theorem Lst.below {w w':World} {b:Nat} {v:Value} {l:List SK} (h:Lst w b v l) (hb:ZT w w'):Lst w' b v l:=by
 obtain ⟨n,a,c,d⟩:=h;exact ⟨n,a,c.below hb,d⟩
theorem Lst.less {b':Nat} {l:List SK} (h:Lst w b v l) (hb:b'<=b):Lst w b' v l:=by
 obtain ⟨n,a,c,d⟩:=h;exact ⟨n,a,c,λg e=>Nat.le_trans hb (d g e)⟩
theorem Lst.lt {w:World} {b:Nat} {v:Value} {l:List SK} (h:Lst w b v l) {g:Nat} (c:v.ownBlock=some g):g<w.heap.size:=by
 obtain ⟨n,d,a,e⟩:=h;exact a.lt c
theorem Lst.kept {w w':World} {b:Nat} {o:Option Nat} {v:Value} {l:List SK} (h:Lst w b v l) (hb:w.grownBy w' o) (i: ∀g,v.ownBlock=some g->o≠some g):Lst w' b v l:=by
 obtain ⟨n,d,a,f⟩:=h;exact ⟨n,d,a.kept λq c=>hb.block q (a.lt c) (λe=>i q c e.symm),f⟩
theorem Lst.nil (w:World) (b:Nat):Lst w b (.slice none 0 0) []:=⟨0,rfl,OwnS.nil _ _ _,λg h=>by simp [Value.ownBlock] at h⟩
theorem Lst.isl {l:List SK} (h:Lst w b v l):nk v l.length:=by
 obtain ⟨n,rfl,c,e⟩:=h;obtain ⟨A,a,d,f,_⟩:=c.form;exact ⟨A,a,d⟩
theorem Lst.get {l:List SK} (h:Lst w b v l) {r:SK} (p:l[i]?=some r):(∃o c,v= .slice (some (vP v)) o c/\0<=(i:Int)/\(i:Int)<(o:Int))/\ ∀j u,(KN r)[j]?=some u->w.cell? (((vP v).add ((i:Int).toNat*2)).add j)=some u:=by
 obtain ⟨m,rfl,q,t⟩:=h;obtain ⟨A,f,rfl,y,z,a⟩:=q.form;have d:=λj (e:j<2)=>nN KN 2 l (λx _=>rfl) i j r p e;have s:=(ZE p).1;obtain ⟨g,rfl,_,_,_⟩:=a (i*2+0) (.int .u32 (r.1:Int)) (by rw [d 0 ZL]; rfl);refine ⟨⟨_,_,rfl,ZJ,ZJ⟩,λj u e=> ?_⟩;obtain ⟨B,k,_,n,_⟩:=a (i*2+j) u (by rw [d j (ZE e).1]; exact e);cases k;rw [show vP (Value.slice (some ⟨g,0,none⟩) l.length f)=⟨g,0,none⟩ from rfl,add_add,dQ];simpa using n
theorem Lst.big {l:List SK} (h:Lst w b v l):l.length<=9223372036854775807:=by
 obtain ⟨n,f,a,i⟩:=h;rcases a.2 with ⟨rfl,j⟩|⟨g,c,d,k,m,o,p,e,q,r⟩
 .omega
 .simp only [maxLen] at e;omega
theorem Blk.keptO {t:TypeId} {cs:List Value} (h:Blk w g t cs) (hb:w.grownBy w' o) (a:o≠some g):Blk w' g t cs:=GB.blk hb h a
structure FM (w0 W:World) (bm:Nat) (M:List (SK×Value)) (lvv:Value) (lv:List SK) (b2:Nat) (nxv:Value) (nx:List SK):Prop where
 bel:ZT w0 W
 map:MapL rH W bm M
 lvl:Lst W (bm+1) lvv lv
 lvb: ∀g,lvv.ownBlock=some g->g<b2
 nxt:Lst W b2 nxv nx
 b0:w0.heap.size<=bm
 bb:bm<b2
 b2s:b2<=W.heap.size
theorem FM.step {w0 W W':World} {bm:Nat} {M:List (SK×Value)} {lvv:Value} {lv:List SK} {b2:Nat} {nxv:Value} {nx:List SK} (h:FM w0 W bm M lvv lv b2 nxv nx) (hb:ZT W W'):FM w0 W' bm M lvv lv b2 nxv nx :=
 ⟨h.bel.step hb,h.map.below hb,h.lvl.below hb,h.lvb,h.nxt.below hb,h.b0,h.bb,Nat.le_trans h.b2s hb.size⟩
theorem FM.put {w0 W W':World} {bm:Nat} {M':List (SK×Value)} {lvv:Value} {lv:List SK} {b2:Nat} {nxv:Value} (h:FM w0 W bm M lvv lv b2 nxv nx) (hs:W'.heap.size=W.heap.size) (hb:But bm W W') (hm:MapL rH W' bm M'):FM w0 W' bm M' lvv lv b2 nxv nx:=by
 refine ⟨h.bel.grown hb h.bel.size (λq c=>by cases c; exact h.b0),hm,h.lvl.kept hb (λg a e=> ?_),h.lvb,h.nxt.kept hb (λg a e=> ?_),h.b0,h.bb,by rw [hs]; exact h.b2s⟩
 .cases e;obtain ⟨n,d,f,b⟩:=h.lvl;have:=b _ a;omega
 .cases e;obtain ⟨n,d,f,b⟩:=h.nxt;have:=b _ a;have:=h.bb;omega
theorem FM.app {w0 W W':World} {bm:Nat} {lvv:Value} {lv:List SK} {b2:Nat} {nxv nxv':Value} {nx':List SK} (h:FM w0 W bm M lvv lv b2 nxv nx) (b:W.grownBy W' nxv.ownBlock) (hn:Lst W' b2 nxv' nx'):FM w0 W' bm M lvv lv b2 nxv' nx':=by
 have a: ∀g,nxv.ownBlock=some g->b2<=g:=by obtain ⟨n,i,j,d⟩:=h.nxt; exact d
 have:=h.bb;have:=h.b0;refine ⟨h.bel.grown b h.bel.size (λq f=>by have:=a q f; omega),h.map.kept (b.block bm h.map.lt (λe=>by have:=a bm e.symm; omega)),h.lvl.kept b (λg c e=>by have:=a g e; have:=h.lvb g c; omega),h.lvb,hn,h.b0,h.bb,Nat.le_trans h.b2s b.size⟩
end Go.Proofs.YtoleahhfkpkcjaaGreatDoor
namespace Go.Ord
open Go.PF
section
variable {d:bG} {us:List U} {c y k:Nat} {lv rest nx:List SK} {ys:List Nat} {r r':SK} {t T t2 f f2:Int} {u2:Nat} {u:U} {M:List (SK×Value)} {o:Option Value}
structure G3 (d:bG) (us:List U) (c:Nat) (lv rest:List SK) (ys:List Nat) (r:SK) (t:Int) (M:List (SK×Value)) (nx:List SK):Prop where
 lev:Lev d us (c+1) M nx
 had:Had us c M lv
 good:Feas d (none,0) us->Good d us M rest\/Good d us M nx\/ ∃y∈ys,∃u,us[y]?=some u/\Feas d (nxt d (r.2,t) u) (left us (r.1 ||| 1 <<< y))
theorem G8 {t t2:Int} {u u2:Nat} {f f2:Int} {M:List (SK×Value)} {q:SK} (a:TU M) (h:(q,jA t u f)∈M) (b:(q,jA t2 u2 f2)∈M):t=t2:=Lh (HZ a h b)
theorem G3.step (D: ∀u∈us,UOK d u) (A:TU M) (h:G3 d us c lv rest (y::ys) r t M nx) (n:us[y]?=some u) (I:r'=(r.1 ||| 1 <<< y,some u.exit)) (E:Way d us r'.1 (r'.2,T) (c+1)) (J:nxt d (r.2,t) u=(some u.exit,T)) (hb:0<=T/\T<=3000000) (K:r'.1<2 ^ 16) (L: -1<=f)
  (hm:PF.Found M r' o) (B:o.getD (jA 0 0 0)=jA t2 u2 f2) (N:(!o.isSome||decide (T<t2))=true):G3 d us c lv rest ys r t (jK M r' (jA T y f)) (if o.isSome then nx else nx++ [r']):=by
 have k: ∀s p C,(r',jA s p C)∈M->T<=s:=λs p C l=>by
  cases o with
  | none=>exact absurd rfl (hm _ l)
  | some v =>
   have w:=B;subst w;have:=G8 A l hm;simp at N;omega
 have g: ∀q,q∈(if o.isSome then nx else nx++ [r'])↔q∈nx\/q=r':=λq=>by
  cases o with
  | none=>simp
  | some v=>exact ⟨.inl,λm=>m.elim id λe=>by subst e; exact h.lev.there (hm) E.cnt⟩
 refine ⟨h.lev.put E hb K (ZE n).1 L ?_ g,h.had.put _ _,λF=> ?_⟩
 .cases o with
  | some v=>exact h.lev.nd
  | none =>
   refine List.nodup_append.2 ⟨h.lev.nd,ZM,λa G b hb e=> ?_⟩;rw [List.mem_singleton] at hb;subst hb;subst e;obtain ⟨⟨v,w⟩,_⟩:=h.lev.mem _ G;exact hm _ w rfl
 .rcases h.good F with m|m|⟨z,x,p,i,j⟩
  .exact .inl (m.put D A k)
  .exact .inr (.inl ((m.put D A k).more λq H=>(g q).2 (.inl H)))
  .rcases List.mem_cons.1 x with rfl|x
   .rw [n] at i; cases i;rw [J] at j;subst I;exact .inr (.inl ⟨_,(g _).2 (.inr rfl),_,_,_,mem_lput.2 (.inl rfl),j⟩)
   .exact .inr (.inr ⟨z,x,p,i,j⟩)
theorem G3.stay (s: ∀u∈us,UOK d u) (h:G3 d us c lv rest (y::ys) r t M nx) (g:us[y]?=some u) (w:r'=(r.1 ||| 1 <<< y,some u.exit)) (A:Way d us r'.1 (r'.2,T) (c+1)) (B:nxt d (r.2,t) u=(some u.exit,T))
  (hm:PF.Found M r' o) (i:o.getD (jA 0 0 0)=jA t2 u2 f2) (j:(!o.isSome||decide (T<t2))=false):G3 d us c lv rest ys r t M (if o.isSome then nx else nx++ [r']):=by
 cases o with
 | none=>cases j
 | some v =>
  have k:=i;subst k;refine ⟨h.lev,h.had,λl=> ?_⟩;rcases h.good l with e|e|⟨z,f,m,a,b⟩
  .exact .inl e
  .exact .inr (.inl e)
  .rcases List.mem_cons.1 f with rfl|f
   .rw [g] at a; cases a;rw [B] at b;subst w;refine .inr (.inl ⟨_,h.lev.there (hm) A.cnt,_,_,_,hm,vg (mh (by simp at j; omega)) (λx n=> ?_) b⟩);obtain ⟨q,_,p⟩:=mem_left.1 n;exact s x (ZF p)
   .exact .inr (.inr ⟨z,f,m,a,b⟩)
end
end Go.Ord
namespace Go.Proofs.YtoleahhfkpkcjaaGreatDoor
open Go.Proofs.Tryz
open Go.PF Go.RowKit Go.Ord
attribute [local irreducible] TW CW KW DW
theorem Dm {c:Nat} {k:SK} {o:Option Value} (g: ∀p∈M,Row d us c nx p.1 p.2) (hm:PF.Found M k o): ∃t u f,o.getD (jA 0 0 0)=jA t u f/\(u<us.length\/u=0)/\ -1<=f:=by
 cases o with
 | none=>exact ⟨0,0,0,rfl,.inr rfl,ZL⟩
 | some v =>
  obtain ⟨t,u,f,n,a,b,_,_,_,_,_,_,e⟩:=g _ hm;exact ⟨t,u,f,a,b,e⟩
structure Bk (w W:World) (us:List U) (bm:Nat) (M:List (SK×Value)) (g17 gx:Nat):Prop where
 bel:ZT w W
 map:MapL rH W bm M
 lt:g17<gx
 xs: ∃xs:List Nat,xs.length=us.length/\(∀y∈xs,y<us.length)/\Blk W g17 3 (xs.map λy:Nat=>Value.int .i64 (y:Int))
 at_: ∃q:SK,q.1<2 ^ 32/\Blk W gx 236 (KN q)
theorem Tx {F:List Nat} (aq:WfD d) (hS:SrchF w g m d us dv uv gf F) (hn: ∀u∈us,Num d u) (d1:us.length<=16) (hF:vV d us λi=>F.getD i 0) (d2: ∀i j,i<us.length->(F.getD i 0).testBit j=true->j<us.length) :
  Gives prog 164 #[.pointer (some ⟨g,0,none⟩)] w λx w'=>ZT w w' /\
   ((x= .tuple #[.slice none 0 0,.bool false]/\ ¬Feas d (none,0) us)\/ ∃v L,x= .tuple #[v,.bool true]/\Nums w' w.heap.size v L/\(∀i∈L,i<us.length)/\Feas d (none,0) us):=by
 have hu: ∀u∈us,UOK d u:=λu h=>(hn u h).ok;have hB:=hS.s.blk;have hU:=hS.s.units;refine gw func164 ntmps164 ?_;refine eD [.int .u32 ((0:Nat):Int),ZU (-1)] rfl ?_;refine Go.PF.nv uG rfl λg1 w1 f1=> ?_;refine eZ rH rfl rfl λbm w2 d8 d9 b2 cf=>rn ?_;refine eD [ZU 0,ZU ((0:Nat):Int),ZU 0] rfl ?_;refine rz rH (0,none) (vz:=jA 0 0 0) rfl underlying298 rfl rfl rfl cf λw3 z3 b3 cg=> ?_;have af:=b3.blk (f1.blk.next b2) (by have:=f1.size; omega);have az:=f1.below.step b2;have J:ZT w w3:=az.grown b3 az.size (λq b=>by cases b; have:=f1.below.size; omega);have z1:=f1.below.size;clear f1 az b2 b3;refine rn ?_;refine bs [.int .u32 ((0:Nat):Int),ZU (-1)] Rl rfl λg4 w4 f4=> ?_;have q4:=f4.at_;have z4:=f4.size;have bq:FM w w4 bm [((0,none),jA 0 0 0)] (.slice (some ⟨g4,0,none⟩) 1 1) [(0,none)] w4.heap.size (.slice none 0 0) []:=by
  refine ⟨J.step f4.below,?_,⟨1,rfl,aU f4.blk rfl ZL,λq b=> ?_⟩,λq b=> ?_,Lst.nil _ _,ZJ,?_,ZC⟩
  .have:=cg.below f4.below
   rwa [show jK ([]:List (SK×Value)) (0,none) (jA 0 0 0)= [((0,none),jA 0 0 0)] from by unfold jK; rw [if_neg ZM]; rfl] at this
  .have e:g4=q:=by simpa [Value.ownBlock] using b
   omega
  .have e:g4=q:=by simpa [Value.ownBlock] using b
   omega
  .omega
 have da:=J.step f4.below;clear f4 J af;refine rn ?_;refine SC [0,5,32] 33 us.length (λx:List (SK×Value)×Value×List SK=> [(6,none,x.2.1)])
  (λc x W=>FM w W bm x.1 x.2.1 x.2.2 W.heap.size (.slice none 0 0) []/\Lev d us c x.1 x.2.2/\(Feas d (none,0) us->Go.Ord.Good d us x.1 x.2.2)) ([((0,none),jA 0 0 0)],.slice (some ⟨g4,0,none⟩) 1 1,[(0,none)]) ⟨bq,Lev.start us,λh=>⟨(0,none),ZM,0,0,0,ZM,by rw [uo]; exact h⟩⟩ (λc x W hc hJ=> ?_) λx W hJ=> ?_
 .obtain ⟨M,ag,S⟩:=x;obtain ⟨a,A,D⟩:=hJ;dsimp only at a A D;have d3:=a.lvl.big;have ch:=a.lvl.isl;refine rn ?_;refine SC [0,5,32,33,35,36] 37 S.length (λx:List (SK×Value)×Value×List SK=> [(7,none,x.2.1)])
   (λj x W'=>FM w W' bm x.1 ag S W.heap.size x.2.1 x.2.2/\G3 d us c S (S.drop j) [] (0,none) 0 x.1 x.2.2) (M,.slice none 0 0,[]) ⟨a,A.next,A.mem,λh=> .inl (D h)⟩ (λj x W' hj hJ=> ?_) λx W' hJ=> ?_
  .obtain ⟨M,b1,nx⟩:=x;obtain ⟨a,hG⟩:=hJ;dsimp only at a hG;have hr:=ZD hj;obtain ⟨ha,C⟩:=a.lvl.get hr;have ah:=List.getElem_mem hj;have br:=List.drop_eq_getElem_cons hj
   generalize S[j]=r at hr C ah br
   refine aM fM rfl ⟨ct,ct,trivial⟩ (λ_=>ha) (rn ?_);refine Go.PF.nv uG rfl λg9 w9 f9=> ?_;have H:=a.step f9.below;have q9:=f9.at_;obtain ⟨⟨v0,a3⟩,Y⟩:=hG.had r ah;obtain ⟨t,u0,fo,n0,ar,_,B,_,ci,bt,hk,_,db⟩:=hG.lev.rows _ a3;dsimp only at ar B hk;subst ar;obtain rfl:n0=c:=by have:=B.cnt; unfold OV at this Y; omega
   refine ik rH r rfl rfl underlying298 Wx rfl rfl H.map λov E=> ?_;obtain rfl:ov=jA t u0 fo:=by
    rcases E with E|⟨E,_⟩
    .exact HZ H.map.once E a3
    .exact absurd rfl (E _ a3)
   have a7:yf d (r.2,t):=B.sok hu;have bu:=H.bel;refine rn ?_;refine aM (QH (v:= ZU t)) rfl ⟨ct,trivial⟩ (λ_=>rfl) (rn ?_);refine cr rfl (zD (k:=r.1) (s:=(r.2,t)) aq (hS.step bu) hn d1 (Nat.lt_trans hk ZL) a7 ⟨ci,bt⟩) λcv dd b4 h=> ?_;obtain ⟨L,hL,au⟩:=h;have de:=hL.isl;have df:=hL.big;have b6:=H.step b4;have cj:G3 d us n0 S (S.drop (j+1)) (L.drop 0) r t M nx:=⟨hG.lev,hG.had,λh=>by
    rcases hG.good h with ⟨q,b,t',u',f',hm,hf⟩|Z|⟨_,Z,_⟩
    .rw [br] at b;rcases List.mem_cons.1 b with rfl|b
     .obtain rfl:=G8 a.map.once hm a3;exact .inr (.inr (by rw [List.drop_zero]; exact Cho.feas aq hu hS.small hF d2 a7 au hf Y hc))
     .exact .inl ⟨q,b,t',u',f',hm,hf⟩
    .exact .inr (.inl Z)
    .cases Z⟩
   have ai:=f9.blk.next b4;have b7:=a.nxt;have dg:=H.map.lt;have bv:=a.map.lt;clear f9 b4 bu ha C;refine rn ?_;refine SC [0,5,9,10,32,33,35,36,37,48,49] 50 L.length (λx:List (SK×Value)×Value×List SK=> [(7,none,x.2.1)])
    (λi x W3=>FM w W3 bm x.1 ag S W.heap.size x.2.1 x.2.2/\G3 d us n0 S (S.drop (j+1)) (L.drop i) r t x.1 x.2.2/\Nums W3 0 cv L/\(∀q,cv.ownBlock=some q->x.2.1.ownBlock≠some q/\bm<q)/\Blk W3 g9 236 (KN r)/\x.2.1.ownBlock≠some g9) (M,b1,nx)
    ⟨b6,cj,hL.less ZB,λq b=>⟨λe=>by have:=hL.lo b; have:=H.nxt.lt e; omega,by have:=hL.lo b; omega⟩,ai,λe=>by have:=b7.lt e; omega⟩ (λi x W3 hi hJ=> ?_) λx W3 hJ=> ?_
   .obtain ⟨M3,a0,aj⟩:=x;obtain ⟨a1,a4,b8,p,af,N⟩:=hJ;dsimp only at a1 a4 b8 p af N;have hy:=ZD hi;have bw:=List.getElem_mem hi;have bx:=List.drop_eq_getElem_cons hi
    generalize L[i]=y at hy bw bx
    rw [bx] at a4;obtain ⟨ha,ck⟩:=b8.get hy;obtain ⟨u,I,bz,a8⟩:=au.mem bw;have dh:=(ZE I).1;have nu:=hn u (ZF I);obtain ⟨v,di,hv⟩:=uH hU I;have c0:lU d (r.2,t) u=pp d (r.2,t) u:=by unfold lU; rw [aD a8,if_pos rfl]
    have dj:=xD (s:=(r.2,t)) nu;have dk:=(iY (s:=(r.2,t)) nu).2 a8;have dl:=nu.span;have J:=a1.bel;refine aM fM rfl ⟨ct,ct,trivial⟩ (λ_=>ha) (rn ?_);refine Go.PF.cv rfl (Bf (k:=r.1) (o:=iD r.2) (hS.step J).s I (Nat.lt_trans hk ZL) ZJ) λdm ak=> ?_;refine Go.PF.nv uG rfl λb9 dn a9=> ?_;refine dx ?_;refine dc Rp rfl (λ_ w' b'=>p9 (k:=r.1) (s:=(r.2,t)) aq (hS.step (J.step (ak.step (a9.below.step b')))).s I nu a7 ⟨show -1<=t by omega,bt⟩) ?_;refine Xm rfl (λw' _=>hv.sp w') ?_;refine dz λcl ba=> ?_;have al:=ak.step (a9.below.step ba);have aa:=a1.step al;have c1:=af.next al;have c2:=b8.below al;have bc:Blk cl b9 236 (KN (r.1 ||| 1 <<< y,some u.exit)):=a9.blk.next ba;have dp:=a9.at_;have dq:=bc.lt;have dr:=ak.size;clear a9 ba ak al J ck;refine rn ?_;refine nW rH (r.1 ||| 1 <<< y,some u.exit) (ok:=true) rfl rfl underlying298 Wx rfl rfl aa.map λo ho=> ?_;obtain ⟨t2,u2,f2,E,_⟩:=Dm a4.lev.rows ho;rw [if_pos rfl,E];refine rn ?_;refine Go.PF.nv QZ rfl λcm ds O=> ?_;have a2:=aa.step O.below;have bd:=c1.next O.below;have be:=c2.below O.below;have bf:=bc.next O.below;have bg:=O.blk;have dt:=O.at_;clear O c1 c2 bc;have av: ∀q,a0.ownBlock=some q->q<b9:=λq b=>by have:=a1.nxt.lt b; omega
    refine WX w [0,5,9,10,12,13,14,15,16,32,33,35,36,37,48,49,50] (λz:Value=> [(7,none,z)])
     (λz W5=>FM w W5 bm M3 ag S W.heap.size z (if o.isSome then aj else aj++ [(r.1 ||| 1 <<< y,some u.exit)])/\Nums W5 0 cv L/\(∀q,cv.ownBlock=some q->z.ownBlock≠some q/\bm<q)/\Blk W5 g9 236 (KN r)/\z.ownBlock≠some g9/\Blk W5 b9 236 (KN (r.1 ||| 1 <<< y,some u.exit))/\Blk W5 cm 297 [ZU t2,ZU (u2:Int),ZU f2])
     (λK0 K=> ?_) (λz W5 b5 hJ=> ?_) (imp2:=λ_ _ _ _ h=>h.q)
    .refine iG rfl (λhb=> ?_) λhb=> ?_
     .rw [Bool.not_eq_true'] at hb;refine bs (KN (r.1 ||| 1 <<< y,some u.exit)) Rl rfl λcn du a5=> ?_;have G:=a2.step a5.below;have c3:=be.below a5.below;obtain ⟨n,b7,c4,c5⟩:=id G.nxt;have d4:=a4.lev.few aq hu;refine aT (m:=1) (KN (r.1 ||| 1 <<< y,some u.exit)) rfl rfl U4 rfl c4 rfl rfl (λj v hj=>⟨⟨cn,0,none⟩,rfl,a5.blk.fld hj⟩) (λv hv=>by simp [KN] at hv; rcases hv with rfl|rfl<;>rfl) ZJ ZJ λz co hO hg hz=>rn ?_;have h9:=bd.next a5.below;have cp:=bf.next a5.below;have cq:=bg.next a5.below;have l9:=h9.lt;refine jd K z ⟨?_,c3.keptO hg (λq b=>(p q b).1),λq b=>⟨λe=> ?_,(p q b).2⟩,GB.blk hg h9 N,λe=> ?_,GB.blk hg cp (λe=>by have:=av _ e; omega),GB.blk hg cq (λe=>by have:=av _ e; omega)⟩ (G.bel.grown hg G.bel.size (λq b=>by have:=G.b0; have:=G.bb; have:=c5 q b; omega))
      .rw [hb,if_neg ZM];exact G.app hg ⟨n+1,by simp [b7],by rw [List.flatMap_append]; simpa using hO,λq b=>hz.elim (λh=>c5 q (by rw [<-h]; exact b)) λh=>by rw [h] at b; cases b; exact G.b2s⟩
      .rcases hz with h|h
       .exact (p q b).1 (by rw [<-h]; exact e)
       .rw [h] at e; cases e; have:=c3.lt b; omega
      .rcases hz with h|h
       .exact N (by rw [<-h]; exact e)
       .rw [h] at e; cases e; omega
     .rw [Bool.not_eq_false'] at hb;exact jd K a0 ⟨by rw [hb,if_pos rfl]; exact a2,be,p,bd,N,bf,bg⟩ a2.bel
    .obtain ⟨a,hL,p,ai,N,hR,hA⟩:=hJ;have ab:Go.Ord.Way d us (r.1 ||| 1 <<< y) (some u.exit,lU d (r.2,t) u+u.span) (n0+1):=by rw [c0]; exact B.step I bz a8
     have hT:nxt d (r.2,t) u=(some u.exit,lU d (r.2,t) u+u.span):=by rw [c0]; rfl
     have c6:r.1 ||| 1 <<< y<2 ^ 16:=Nat.or_lt_two_pow hk (by rw [Nat.one_shiftLeft]; exact Nat.pow_lt_pow_right ZL ZJ);clear bd be bf bg a2 aa b5;refine rn ?_;refine iG rfl (λhc=> ?_) λhc=> ?_
     .refine eD [ZU (lU d (r.2,t) u+u.span),ZU (y:Int),ZU (iD r.2)] rfl ?_;refine dM rH (r.1 ||| 1 <<< y,some u.exit) (vz:=jA (lU d (r.2,t) u+u.span) y (iD r.2)) rfl underlying298 rfl rfl rfl a.map λdw cs bh c7=>rn ?_;exact OT (_,z,_) ⟨a.put cs bh c7,a4.step hu a.map.once I rfl ab hT ZJ c6 (PQ _) ho E hc,hL.keptO bh (λq b e=>by cases e; have:=(p _ b).2; omega),p,bh.blk ai (λe=>ZJ),N⟩
     .exact OT (_,z,_) ⟨a,a4.stay hu I rfl ab hT ho E hc,hL,p,ai,N⟩
   .obtain ⟨M3,a0,aj⟩:=x;obtain ⟨h1,h2,_⟩:=hJ;dsimp only at h1 h2;refine OT (M3,a0,aj) ⟨h1,h2.lev,h2.had,λh=> ?_⟩;rcases h2.good h with Z|Z|⟨_,Z,_⟩
    .exact .inl Z
    .exact .inr (.inl Z)
    .rw [List.drop_length] at Z; cases Z
  .obtain ⟨M,b1,nx⟩:=x;obtain ⟨h1,h2⟩:=hJ;dsimp only at h1 h2;refine OT (M,b1,nx) ⟨⟨h1.bel,h1.map,h1.nxt.less (by have:=h1.bb; omega),λq b=>h1.nxt.lt b,Lst.nil _ _,h1.b0,h1.map.lt,ZC⟩,h2.lev,λh=> ?_⟩;rcases h2.good h with ⟨q,b,_⟩|Z|⟨_,Z,_⟩
   .rw [List.drop_length] at b; cases b
   .exact Z
   .cases Z
 .obtain ⟨M,ag,S⟩:=x;obtain ⟨a,A,D⟩:=hJ;dsimp only at a A D;have ch:=a.lvl.isl;have hW:=a.bel;refine rn ?_;refine cd rfl (λhz=> ?_) λhz=> ?_
  .refine rD rfl ⟨hW,.inl ⟨rfl,λh=> ?_⟩⟩;obtain ⟨q,b,_⟩:=D h;rw [List.eq_nil_of_length_eq_zero (show S.length=0 by omega)] at b;cases b
  obtain ⟨r,hr,ah⟩:=eP (l:=S) (k:=0) ZJ;obtain ⟨ha,C⟩:=a.lvl.get hr;obtain ⟨⟨v0,a3⟩,Y⟩:=A.mem r ah;obtain ⟨t,u0,fo,n0,_,_,B,_,_,_,hk,_,_⟩:=A.rows _ a3;dsimp only at B hk;obtain rfl:n0=us.length:=by have:=B.cnt; unfold OV at this Y; omega
  have bi:=B.feas;have d5:=hS.len;refine ms ji Ub rfl λbj co a6=> ?_;refine NB 11 ?_;refine bM fM rfl ⟨ct,ct,trivial⟩ (λ_=>ha) (rd ?_);refine zU rfl uG (rd ?_);refine Qq 19 [5,17,18,120] rfl λ_ dy am e=> ?_;obtain ⟨c8,rfl,d6,aw⟩:=e;refine sb rfl aw λcu ax an e0=> ?_;have e1:=a6.at_;have e2:=a6.size;have zW:=hW.size;have bk:=hW.step (a6.below.step am);have c9:Bk w cu us bm M bj c8:=⟨bk.grown an bk.size (λq b=>by cases b; omega),((a.map.below a6.below).below am).but an (by have:=a.map.lt; omega),ZJ,⟨List.replicate us.length 0,ZM,λy hy=>by rw [List.eq_of_mem_replicate hy]; have:=List.length_pos_of_mem hy; simpa using this,by simpa using an.blk (a6.blk.next am) ZJ⟩,r,Nat.lt_trans hk ZL,ax⟩;have bv:=a.map.lt;have e3:=a.b0;clear bk hW a6 am aw ax C;refine rn ?_;refine dA [5,17] (λx:Nat×Nat=> [(18,none,ZU ((x.1:Int)-1)),(19,none,.pointer (some ⟨x.2,0,none⟩))]) (λx W3=>x.1<=us.length/\Bk w W3 us bm M bj x.2) (λx=>x.1) (us.length,c8) ⟨ZC,c9⟩ ?_;clear c9 an;rintro ⟨x,gx⟩ W3 ⟨hx,hW,hM,cw,⟨xs,bl,ca,bn⟩,q,e4,ao⟩;dsimp only at hx cw ao;refine rn ?_;refine cd rfl (λh0=> ?_) λ_=> ?_
  .refine nW rH q (ok:=false) rfl rfl underlying298 Wx rfl rfl hM λo ho=> ?_;obtain ⟨t2,u2,f2,E,e5,cx⟩:=Dm A.rows ho;obtain ⟨o2,rfl⟩:=PP cx;rw [if_neg ZM,E];have cy:u2<us.length:=ZJ;refine rn ?_;refine Go.PF.nv QZ rfl λe6 e7 R=> ?_;have e8:=R.at_;refine sf rfl (bn.next R.below) (λe9 cb ap ea=> ?_) (hj:=by simp; omega);have lq:=ao.lt;have hA:=ap.blk R.blk ZJ;have cc:=ap.blk (ao.next R.below) ZJ;have ac:=hW.step R.below;have ce:=ac.grown ap ac.size (λq b=>by cases b; omega);have cz:=(hM.below R.below).but ap ZJ;have eb:1<=x:=ZJ;have lA:=hA.lt;clear R bn ao ac hM hW;refine NB 9 ?_;refine bM sS rfl ⟨ct,ct,trivial⟩ (λ_=>ZJ) ?_;refine bM xL rfl ⟨ct,ct,trivial⟩ (λ_=>trivial) (rd ?_);refine Xn (KN (qp q.1 (1 <<< u2),o2)) rfl ?_;refine V4 λec ad=> ?_;refine sb rfl (cc.next ad) λed d7 bo ee=> ?_;refine Go.PF.nv uG rfl λd0 ef ae=> ?_;have ay:=ce.step ad;have eg:=ae.at_;have eh:=ad.size
   refine cK (x-1,d0) ⟨by show x-1<=us.length; omega,(ay.grown bo ay.size (λq b=>by cases b; omega)).step ae.below,((cz.below ad).but bo ZJ).below ae.below,ZJ,⟨xs.set ((x:Int)-1).toNat u2,by simp [bl],λy hy=>(List.mem_or_eq_of_mem_set hy).elim (ca y) λe=>e ▸ cy,?_⟩,(qp q.1 (1 <<< u2),o2),It _ _,ae.blk⟩ (hp:=by rw [show (((x-1:Nat):Int))=(x:Int)-1 by omega]; rfl);simpa [List.map_set] using (bo.blk (cb.next ad) ZJ).next ae.below
  .exact rD rfl ⟨hW,.inr ⟨_,xs,rfl,⟨xs.length,rfl,by rw [bl]; exact aU bn (by simp [bl]) ZJ,λq b=>by have e:bj=q:=(by simpa [Value.ownBlock] using b); have:=bv; omega⟩,ca,bi⟩⟩
theorem Ib {x:Int}:Gives prog 274 #[ZU x] w λy a=>ZT w a/\y= .bool false:=by
 refine gw func274 ntmps274 ?_;exact aO rfl ⟨bK,ZM⟩
def Kh (a b:Int):Int:=if a<b then -1 else if a>b then 1 else 0
theorem Ke {a b:Int}:Gives prog 191 #[ZU a,ZU b] w λy d=>ZT w d/\y= ZU (Kh a b):=by
 refine gw func191 ntmps191 ?_;refine cv rfl Ib λe g=> ?_;refine cv rfl Ib λi j=> ?_;refine cF rfl ?_;refine cF rfl ?_;refine cd rfl (λh=> ?_) λh=> ?_
 .exact aO rfl ⟨bK,by unfold Kh; rw [if_pos h]⟩
 refine cd rfl (λc=> ?_) λc=> ?_
 .exact aO rfl ⟨bK,by unfold Kh; rw [if_neg h,if_pos c]⟩
 .exact aO rfl ⟨bK,by unfold Kh; rw [if_neg h,if_neg c]⟩
theorem RZ {a b:Value} {v:U} (e:UV m a u) (hb:UV m b v):Gives prog 252 #[a,b] w λy c=>ZT w c/\y= ZU (Kh u.high v.high):=by
 refine gw func252 ntmps252 ?_;refine ci rfl (e.wd w) λd g=> ?_;refine ci rfl (hb.wd d) λh i=> ?_;refine cv rfl Ke λj k=> ?_;exact aO rfl ⟨bK,rfl⟩
def V9 (m:Nat) (vs:List Value):Prop:= ∀v∈vs,∃u,UV m v u
theorem Db (hO:OwnS w 239 1 (.slice A n cap) n vs) (hn:n<=16) (hU:V9 m vs) :
  Gives prog 326 #[.slice A n cap,ZU 0,ZU (n:Int),.func (.func 252) #[] #[]] w λ_ M=>w.grownBy M (Value.slice A n cap).ownBlock/\ ∃C,C.Perm vs/\OwnS M 239 1 (.slice A n cap) n C:=by
 have hl:vs.length=n:=by simpa using hO.1
 refine gv func326 ntmps326 ?_;refine aB ?_;refine dA [0,1,2,3] (λx:Nat×List Value=> [(8,none,ZU (x.1:Int))])
  (λx W=>1<=x.1/\x.1<=n+1/\w.grownBy W (Value.slice A n cap).ownBlock/\x.2.Perm vs/\OwnS W 239 1 (.slice A n cap) n x.2) (λx=>n+1-x.1) (1,vs) ⟨ZC,by show 1<=n+1; omega,⟨rfl,rfl,rfl,ZC,λ_ _ _=>rfl⟩,List.Perm.refl _,hO⟩ ?_
 rintro ⟨i,D⟩ W ⟨N,O,t,L,p⟩;dsimp only at N O t L p;refine aB ?_;refine aI rfl (λa5=> ?_) (λa6=> ?_)
 .have a2:i<n:=ZJ;obtain ⟨g,rfl⟩:=p.addr (by rw [L.length_eq,hl]; omega);refine aB ?_;refine dA [0,1,2,3,8] (λx:Nat×List Value=> [(9,none,ZU (x.1:Int))])
   (λx W=>x.1<=i/\w.grownBy W (some g)/\x.2.Perm vs/\OwnS W 239 1 (.slice (some ⟨g,0,none⟩) n cap) n x.2) (λx=>x.1) (i,D) ⟨ZC,t,L,p⟩ ?_
  rintro ⟨j,b⟩ W2 ⟨R,l,k,o⟩;dsimp only at R l k o;have a7:b.length=n:=by rw [k.length_eq,hl]
  refine aB ?_;refine gV mixed ZK ?_;refine jE ?_;by_cases hj:j=0
  .skip
   refine kP (.bool false) rfl (by simp [aF]; omega) rfl rfl ?_;refine kP (.bool false) rfl (by simp [aF]; omega) rfl rfl ?_;refine kP (.bool false) rfl (by simp [aF]; omega) rfl rfl ?_;refine kP (.bool false) rfl (by simp [aF]; omega) rfl rfl ?_;refine kP (.bool false) rfl (by simp [aF]; omega) rfl rfl ?_;refine kP (.bool false) rfl (by simp [aF]; omega) rfl rfl ?_;refine kP (.bool false) rfl (by simp [aF]; omega) rfl rfl ?_;refine kP (.bool false) rfl (by simp [aF]; omega) rfl rfl ?_;refine jE ?_;refine qG [0,1,2,3,8,9,34] rfl λw3 e=> ?_;refine aL ?_;refine aK rfl (λs=> ?_) (λS=> ?_)
   .exfalso;simp [hj] at s
   refine aB ?_;refine cK (i+1,b) ⟨by show 1<=i+1; omega,by show i+1<=n+1; omega,ib l (But.of_below e),k,o.below e⟩
  .obtain ⟨E,q⟩: ∃v,b[j]?=some v:=⟨b[j]'(by omega),ZD ZJ⟩;obtain ⟨F,r⟩: ∃v,b[j-1]?=some v:=⟨b[j-1]'(by omega),ZD ZJ⟩;obtain ⟨u1,G⟩:=hU E (k.mem_iff.1 (ZF q));obtain ⟨u2,H⟩:=hU F (k.mem_iff.1 (ZF r));have u:W2.cell? (Addr.add ⟨g,0,none⟩ ((j:Int).toNat*1))=some E:=o.cell1 (by simpa using q);have y:W2.cell? (Addr.add ⟨g,0,none⟩ (((j:Int)-1).toNat*1))=some F:=o.cell1 (by rw [Nat.mul_one,show ((j:Int)-1).toNat=j-1 by omega]; exact r);refine dF rfl u ?_;refine jE ?_;refine dF rfl y ?_;refine vY (.ex (ZU (Kh u1.high u2.high))) trivial rfl rfl Vn rfl id (cO rfl id (cO rfl id dR)) (λ_ M _=>RZ G H) ?_;refine jE ?_;refine qG [0,1,2,3,8,9,34] rfl λw3 e=> ?_;refine aL ?_;refine aK rfl (λs=> ?_) (λS=> ?_)
   .have U:=o.below e;have I:=(e.cell (block_lt_of_cell u)).trans u;have J:=(e.cell (block_lt_of_cell y)).trans y;refine aB ?_;refine dP mixed λW4 Y=> ?_;refine jv ZK ZK (λ_ _ d _ _ h=>by cases d<;>exact h) rfl rfl rfl (λ_ h=>by cases h) (λa w c=>nT (c.eval rfl trivial)) ?_;refine jv ZK ZK (λ_ _ d _ _ h=>by cases d<;>exact h) rfl rfl rfl (λ_ h=>by cases h) (λa w c=>nT (c.eval rfl trivial)) ?_;refine jv ZK ZK (λ_ _ d _ _ h=>by cases d<;>exact h) rfl rfl rfl (λ_ h=>by cases h) (λa w c=>nT (c.eval rfl trivial)) ?_;refine jv ZK ZK (λ_ _ d _ _ h=>by cases d<;>exact h) rfl rfl rfl (λ_ h=>by cases h) (λa w c=>nT (c.eval rfl trivial)) ?_;refine jv ZK ZK (λ_ _ d _ _ h=>by cases d<;>exact h) rfl rfl rfl (λ_ h=>by cases h) (λa w c=>N5 (c.eval rfl trivial) (c.eval rfl trivial) (by (try dsimp only); omega)) ?_;refine jv ZK ZK (λ_ _ d _ _ h=>by cases d<;>exact h) rfl rfl rfl (λ_ h=>by cases h) (λa w c=>nT (c.eval rfl trivial)) ?_;refine jv ZK ZK (λ_ _ d _ _ h=>by cases d<;>exact h) rfl rfl rfl (λ_ h=>by cases h) (λa w c=>nT (c.eval rfl trivial)) ?_
    refine jv ZK ZK (λ_ _ d _ _ h=>by cases d<;>exact h) rfl rfl rfl (λ_ h=>by cases h) (λa w c=>N5 (c.eval rfl trivial) (c.eval rfl trivial) (by (try dsimp only); omega)) ?_;refine jv ZK ZK (λ_ _ d _ _ h=>by cases d<;>exact h) rfl rfl rfl (λ_ h=>by cases h) (λa w c=>pq underlying226 is239.q (c.eval rfl trivial) (c.eval rfl trivial) (by (try dsimp only); omega)) ?_;refine iP .weak 14 ZK ZK rfl rfl Y ?_;refine dF rfl (J) ?_;refine jE ?_;refine dF rfl (I) ?_;refine gJ (Bv [0,1,2,3,8,9,37,38,39,41,46,50] [(0,_,_),(1,_,_),(2,_,_),(3,_,_),(8,_,_),(9,_,_),(37,_,_),(38,_,_),(39,_,_),(41,_,_),(46,_,_),(50,_,_)] rfl (λw5 K=>gy ?_));refine eu ZK ZK rfl ?_;refine aM V.indexAddr rfl ⟨ct,ct,trivial⟩ (λ_=>by (try dsimp only); omega) ?_;refine dG (bD [0,1,2,3,8,9,39,41,46,50,51] [(0,_,_),(1,_,_),(2,_,_),(3,_,_),(8,_,_),(9,_,_),(39,_,_),(41,_,_),(46,_,_),(50,_,_),(51,_,_)] rfl (iB ?_));refine eu ZK ZK rfl ?_;have Z:=U.below K;refine tF rfl is239.q rfl rfl Z ZJ H.one ?_;rintro w6 a0 z a3;refine dG (bD [0,1,2,3,8,9,39,41,50] [(0,_,_),(1,_,_),(2,_,_),(3,_,_),(8,_,_),(9,_,_),(39,_,_),(41,_,_),(50,_,_)] rfl (iB ?_));refine eu ZK ZK rfl ?_
    refine aM V.indexAddr rfl ⟨ct,ct,trivial⟩ (λ_=>by (try dsimp only); omega) ?_;refine dG (bD [0,1,2,3,8,9,50,52] [(0,_,_),(1,_,_),(2,_,_),(3,_,_),(8,_,_),(9,_,_),(50,_,_),(52,_,_)] rfl (iB ?_));refine eu ZK ZK rfl ?_;refine tF rfl is239.q rfl rfl a0 (by rw [List.length_set]; omega) G.one ?_;rintro w7 a1 B a4;refine dG (bD [0,1,2,3,8,9] [(0,_,_),(1,_,_),(2,_,_),(3,_,_),(8,_,_),(9,_,_)] rfl (iB ?_));refine kG rfl (bD [0,1,2,3,8,9] [(0,_,_),(1,_,_),(2,_,_),(3,_,_),(8,_,_),(9,_,_)] rfl (fB (aL ?_)));refine aB ?_;refine cK (j-1,(b.set ((j:Int).toNat*1) F).set (((j:Int)-1).toNat*1) E) ⟨by show j-1<=i; omega,ib (ib (ib (ib l (But.of_below e)) (But.of_below K)) z) B,?_,a1⟩ (hp:=by rw [show (((j-1:Nat):Int))=(j:Int)-1 by omega]; rfl);refine List.Perm.trans ?_ k;have e1:(j:Int).toNat*1=j:=ZJ;have e2:((j:Int)-1).toNat*1=j-1:=ZJ;show ((b.set ((j:Int).toNat*1) F).set (((j:Int)-1).toNat*1) E).Perm b;rw [e1,e2];have h1:b[j]'(by omega)=E:=by rw [ZD ZJ] at q; simpa using q
    have h2:b[j-1]'(by omega)=F:=by rw [ZD ZJ] at r; simpa using r
    rw [<-h1,<-h2];exact List.set_set_perm ZJ ZJ
   .refine aB ?_;refine cK (i+1,b) ⟨by show 1<=i+1; omega,by show i+1<=n+1; omega,ib l (But.of_below e),k,o.below e⟩
 .refine aB ?_;refine oU results326 ⟨t,D,L,p⟩
theorem Lj (p:OwnS w 239 1 (.slice A n cap) n vs) (hn:n<=16) (q:V9 m vs) :
  Gives prog 296 #[.slice A n cap,ZU (n:Int),.func (.func 252) #[] #[]] w λ_ g=>w.grownBy g (Value.slice A n cap).ownBlock/\ ∃a,a.Perm vs/\OwnS g 239 1 (.slice A n cap) n a:=by
 refine gv func296 ntmps296 ?_;refine aB ?_;refine bT (λ_:Unit=> [(0,none,.slice A n cap),(1,none,ZU (n:Int)),(2,none,.func (.func 252) #[] #[]),(6,none,ZU 20),(7,none,ZU 0),(8,none,ZU 20)])
  (λ_ W=>W=w) (λ_=>0) () [0,1,2,6,7,8] rfl rfl ?_
 rintro _ W rfl;refine aB ?_;refine aI rfl (λk=> ?_) (λl=> ?_)
 .exfalso;omega
 refine aB ?_;refine aN rfl (Db p hn q) ?_;rintro r o ⟨b,c,d,e⟩;refine aB ?_;refine dC [0,1,2,6,7,8] rfl ?_;refine bT (λ_:Unit=> [(0,none,.slice A n cap),(1,none,ZU (n:Int)),(2,none,.func (.func 252) #[] #[]),(6,none,ZU 20)])
  (λ_ h=>h=o) (λ_=>0) () [0,1,2,6] rfl rfl ?_
 rintro _ h rfl;refine aB ?_;refine aI rfl (λi=> ?_) (λj=> ?_)
 .exfalso;omega
 refine aB ?_;refine oU results296 ⟨b,c,d,e⟩
theorem Ae (d:OwnS w 239 1 (.slice A n cap) n vs) (hn:n<=16) (e:V9 m vs) :
  Gives prog 251 #[.slice A n cap,.func (.func 252) #[] #[]] w λ_ b=>w.grownBy b (Value.slice A n cap).ownBlock/\ ∃a,a.Perm vs/\OwnS b 239 1 (.slice A n cap) n a:=by
 refine gv func251 ntmps251 ?_;refine aB ?_;refine aN rfl (Lj d hn e) ?_;rintro g h c;refine aB ?_;refine oU results251 (c)
theorem rV {α β:Type} {f:α->β}: ∀(l:List α) (e:List β),e.Perm (l.map f)-> ∃m:List α,m.Perm l/\m.map f=e
 | l,[],h=>by
  have:l= []:=by have:=h.length_eq; simp at this; exact List.eq_nil_of_length_eq_zero this.symm
  subst this
  exact ⟨[],List.Perm.refl _,rfl⟩
 | l,b::e,h=>by
  have g:b∈l.map f:=h.mem_iff.1 ZM;rw [List.mem_map] at g;obtain ⟨x,i,rfl⟩:=g;obtain ⟨d,c,rfl⟩:=List.append_of_mem i;have j:e.Perm ((d++c).map f):=by
   have q:=(List.perm_middle (a:=x) (l₁:=d) (l₂:=c)).map f;exact List.Perm.cons_inv (a:=f x) (by simpa using h.trans q)
  obtain ⟨m,k,n⟩:=rV (d++c) e j;exact ⟨x::m,(k.cons x).trans List.perm_middle.symm,by simp [n]⟩
def C6:Option (Ev×Ev×Int)->List U
 | none=> []
 | some (a,b,g)=> [jU a b g]
def xU (d:bG):Option (Ev×Ev×Int)->Prop
 | none=>True
 | some (a,b,g)=>tN d a b g
def Prs (m:Nat) (ps:List (Value×U)):Prop:= ∀p∈ps,UV m p.1 p.2
theorem Prs.sl {ps:List (Value×U)} (h:Prs m ps) (s:OwnS w 239 1 (.slice A n cap) n (ps.map (·.1))) (hn:n<=16) (y: ∀g,(Value.slice A n cap).ownBlock=some g->F g):SL (Ux m) F w (.slice A n cap) (ps.map (·.2)):=by
 have o:ps.length=n:=by simpa using s.1
 obtain ⟨z,p,q,t,_,a⟩:=s.form;obtain ⟨rfl,_,rfl⟩:=q;refine ⟨A,cap,by simp [o],by simp [o]; exact t,ZO,λi u d=> ?_⟩;have r:i<ps.length:=by have:=(ZE d).1; simpa using this
 have b:=ZD r;have e:ps[i].2=u:=by simp [b] at d; exact d
 obtain ⟨g,v,c,f,_⟩:=a i ps[i].1 (by simp [b]);refine ⟨⟨g,0,none⟩,[ps[i].1],v,y g c,λj x k=> ?_,ps[i].1,rfl,by rw [<-e]; exact h _ (List.getElem_mem r)⟩;have l:j=0:=by have:=(ZE k).1; simp at this; exact this
 subst l;simp at k;subst k;rw [add_add,dQ];have:i*(Ux m).n+0=i:=by show i*1+0=i; omega
 rw [this];exact f
theorem O5 (hm:m=n+2) (c:k<m):(((List.replicate m false).set n true).set (n+1) true)[k]?=some (decide (n<=k)):=by
 rw [List.getElem?_set,List.getElem?_set,List.length_set,List.length_replicate,List.getElem?_replicate];by_cases a:n+1=k
 .rw [if_pos a,if_pos ZJ,decide_eq_true ZJ]
 .rw [if_neg a];by_cases b:n=k
  .rw [if_pos b,if_pos ZJ,decide_eq_true ZJ]
  .rw [if_neg b,if_pos c,decide_eq_false ZJ]
theorem _root_.Go.PF.OwnS.at1 {e:Nat} {x:Value} (h:OwnS w e 1 v n xs) (d:xs[i]?=some x):(∃l c,v= .slice (some (vP v)) l c/\0<=(i:Int)/\(i:Int)<(l:Int))/\w.cell? ((vP v).add ((i:Int).toNat*1))=some x:=by
 obtain ⟨A,b,rfl,_,_,a⟩:=h.form;obtain ⟨g,rfl,_,f,_⟩:=a i x d;have:=(ZE d).1;exact ⟨⟨_,_,rfl,ZJ,ZJ⟩,by rw [show vP (Value.slice (some ⟨g,0,none⟩) n b)=⟨g,0,none⟩ from rfl,dQ]; simpa using f⟩
theorem _root_.Go.PF.OwnS.isl {e sz:Nat} (h:OwnS w e sz v n xs):nk v n:=by
 obtain ⟨A,a,b,_⟩:=h.form;exact ⟨A,a,b⟩
theorem Legs.get (h:Legs w l rest lg L k):rest.length<=l.length/\ ∀i,i<rest.length->l[i]?=rest[i]?:=by
 cases h with
 | none e=>subst e; exact ⟨ZC,λ_ _=>rfl⟩
 | one _ e _=>subst e; exact ⟨ZM,λi a=>List.getElem?_append_left a⟩
theorem Legs.len (h:Legs w l rest lg L k):(C6 lg).length+rest.length<=l.length:=by
 cases h with
 | none e=>subst e; simp [C6]
 | one _ e _=>subst e; simp [C6]; omega
structure Sp1 (d:bG) (l rest:List Ev) (lg:Option (Ev×Ev×Int)) (w0:World) (g1:Nat) (uv:Value) (ps:List (Value×U)) (W:World):Prop where
 bel:ZT w0 W
 ok:xU d lg
 used: ∃ub:List Bool,Blk W g1 4 (ub.map Value.bool)/\ ∀k,k<l.length->ub[k]?=some (decide (rest.length<=k))
 own:OwnS W 239 1 uv ps.length (ps.map (·.1))
 gt: ∀g,uv.ownBlock=some g->g1<g
 prs:Prs l.length ps
 snd:ps.map (·.2)=C6 lg
theorem Pg {u:Value} {kn lc:Nat} (hd:SD w dv d) (hl:SE w u l) (hg:Legs w l rest lg L kn) (J:WfE d l):Gives prog 161 #[dv,u,.slice L kn lc] w λx w'=>ZT w w' /\
  ((x= .tuple #[.slice none 0 0,.bool false]/\(¬xU d lg\/ ∃u∈C6 lg++rest.map ny,u.high<u.low))\/ ∃v us,x= .tuple #[v,.bool true]/\SL (Ux l.length) (λk=>k<w'.heap.size) w' v us/\us.Perm (C6 lg++rest.map ny)/\xU d lg/\ ∀u∈us,u.low<=u.high):=by
 have ah:=J.few;have c1:=hl.bnd;have c2:kn<=1:=by cases hg<;>decide
 refine gw func161 ntmps161 ?_;refine ms MZ Ua rfl λK w1 R=> ?_;have q1:=R.at_;have z1:=R.size;refine SC [0,1,9,22,23] 24 kn (λx:Value×List (Value×U)=> [(8,none,x.1)]) (λi x W=>if i=0 then W=w1/\x=(.slice none 0 0,[]) else Sp1 d l rest lg w K x.1 x.2 W) (.slice none 0 0,[]) ⟨rfl,rfl⟩ (λi x W hi S=> ?_) λx W S=> ?_
 .obtain ⟨rfl,rfl,a,b,gp,la,rfl,rfl,be,a6,bf⟩:=hg.at hi;obtain ⟨rfl,rfl⟩:=S;have bg:l.length=rest.length+2:=by rw [a6,List.length_append]; rfl
  have ai:l[rest.length]?=some a:=by rw [a6,List.getElem?_append_right ZC]; simp
  have aj:l[rest.length+1]?=some b:=by rw [a6,List.getElem?_append_right ZJ]; simp
  have ak:=J.each a (ZF ai);have al:=J.each b (ZF aj);have a1:=ak.o1;have a2:=ak.o2;have b1:=al.o1;have b2:=al.o2;have bh:=(be.below R.below).at0;refine rn ?_;refine Go.PF.nv KR rfl λam w2 s=> ?_;have a7:am≠K:=by have:=s.at_; omega
  have an:Blk W K 4 ((List.replicate l.length false).map Value.bool):=by rw [List.map_replicate]; exact R.blk
  have ao:=an.next s.below;refine dP mixed λW1 bi=> ?_;refine nX K 4 (((List.replicate l.length false).map Value.bool).set ((rest.length:Int).toNat*1) (.bool true)) 8 ZK ZK rfl rfl rfl bi ?_;refine DS.move rfl rfl rfl ct ?_;refine DS.fieldAddr rfl rfl if255_0.q rfl ct ?_;refine DS.load rfl rfl io3.q rfl ct (λ_=>⟨s.blk.fld rfl,a7⟩) ?_;refine DS.move rfl rfl rfl ct ?_;refine DS.fieldAddr rfl rfl if255_1.q rfl ct ?_;refine DS.load rfl rfl io3.q rfl ct (λ_=>⟨s.blk.fld rfl,a7⟩) ?_;refine DS.indexAddr rfl rfl underlying149 is4.q rfl ct rfl ct (λ_=>by (try dsimp only); omega) ?_;refine DS.store rfl is4.q rfl rfl ao ZO rfl rfl ?_;refine DS.nil (DS.fin [0,1,8,9,11,22,23,24,31,33] _ rfl λw3 b3 a8=>gy (rn ?_));refine sf rfl a8 (λw4 bj b4 z4=> ?_) (hj:=by simp; omega);have E:=But.trans b3 b4;have F:=R.below.step s.below;have B:ZT w w4:=F.grown E F.size (λq n=>by cases n; omega);have c3:=But.blk (k:=am) E s.blk a7;clear R s an ao a8 bh F E b3 b4;obtain ⟨Xa,ca,⟨c4,c5,c6,c7⟩,c8⟩:=J8 hl B ai;obtain ⟨Xb,cb,⟨c9,cc,ce,cf⟩,bk⟩:=J8 hl B aj;rw [show ((rest.length+1:Nat):Int)=(rest.length:Int)+1 by omega] at bk;have hr:=ZD (l:=d) (i:=a.office.toNat) ZJ;obtain ⟨sv,ap,a9⟩:=Lx hd B hr;have aq:=J.wd.row _ _ hr
  have hz:=ZD (l:=d[a.office.toNat]) (i:=b.office.toNat) ZJ;have Y:=nR hr hz;have ar:=cell0 ap ZA hz (λcs h=>by rw [h.1]; rfl);rw [show ((a.office.toNat:Nat):Int)=a.office by omega] at a9;rw [show ((b.office.toNat:Nat):Int)=b.office by omega] at ar
  generalize d[a.office.toNat][b.office.toNat]=z at hz Y ar
  refine rn ?_;refine dr λw5 b5=> ?_;have t: ∃M:List Bool,Blk w5 K 4 (M.map Value.bool)/\ ∀k,k<l.length->M[k]?=some (decide (rest.length<=k)):=by
   refine ⟨((List.replicate l.length false).set rest.length true).set (rest.length+1) true,?_,λk hk=>O5 bg hk⟩;rw [List.map_set,List.map_set];simpa using bj.next b5
  have a0:=B.step b5;refine iG rfl (λG=> ?_) λH=> ?_
  .refine rD rfl ⟨a0,.inl ⟨rfl,.inl λh=> ?_⟩⟩;have q1:=h.1;have q2:=h.2;rw [Y] at q1 q2;simp at G;omega
  have aa:tN d a b gp:=by
   simp at H;exact ⟨by rw [Y]; omega,by rw [Y]; omega⟩
  refine NB 15 ?_;refine Xn (jV rest.length gp a b (.slice Xa a.needs.length ca) (.slice Xb b.needs.length cb)) rfl ?_;refine bM (uZ rfl) rfl ⟨ct,trivial⟩ (λ_=>trivial) ?_;refine kw 239 _ rfl rfl rfl Rm (cO rfl ct dR) rfl rfl rfl rfl rfl (rd ?_);refine Qq 75 [0,1,9,22,23,24,61] rfl λ_ w6 b6 e=> ?_;obtain ⟨g6,rfl,bl⟩:=e;refine aT [.iface 288 (.agg (jV rest.length gp a b (.slice Xa a.needs.length ca) (.slice Xb b.needs.length cb)).toArray)] rfl rfl Rf rfl (OwnS.nil _ _ _) rfl rfl (λj v hj=>⟨⟨g6,0,none⟩,rfl,bl.fld hj⟩) (λv N=>by simp at N; subst N; rfl) ZJ ZJ λab w7 bm au bn=>rn ?_;have a3:=a0.step b6;obtain ⟨M,t,I⟩:=t;have bo:=(t.next b6).lt;refine OT (ab,[(.iface 288 (.agg (jV rest.length gp a b (.slice Xa a.needs.length ca) (.slice Xb b.needs.length cb)).toArray),jU a b gp)]) (by
   rw [if_neg ZJ];refine ⟨a3.grown au a3.size (λq n=>by simp [Value.ownBlock] at n),aa,⟨M,GB.blk au (t.next b6) (λe=>by simp [Value.ownBlock] at e),I⟩,bm,λq n=> ?_,λp y=> ?_,rfl⟩
   .rcases bn with h|h
    .rw [h] at n; simp [Value.ownBlock] at n
    .rw [h] at n; cases n; exact bo
   .rw [List.mem_singleton] at y;subst y;exact EO ZJ ah bf a1 b1)
 .have hS:Sp1 d l rest lg w K x.1 x.2 W:=by
   cases hg with
   | one=>exact S
   | none h =>
    obtain ⟨rfl,rfl⟩:=S;exact ⟨R.below,trivial,⟨List.replicate l.length false,by rw [List.map_replicate]; exact R.blk,λk hk=>by rw [List.getElem?_replicate,if_pos hk,h,decide_eq_false ZJ]⟩,OwnS.nil _ _ _,(λg h=>by simp [Value.ownBlock] at h),(λp y=>by cases y),rfl⟩
  clear S R;obtain ⟨bq,br⟩:=x;obtain ⟨hW,aa,t,av,a4,aw,ax⟩:=hS;dsimp only at t av a4 aw ax;obtain ⟨aq,ay⟩:=hg.get;refine rn ?_;refine ze w [9,78,79] 80 l.length (λx:Value×List (Value×U)=> [(8,none,x.1)])
   (λk x W=>(∃M:List Bool,Blk W K 4 (M.map Value.bool)/\ ∀k,k<l.length->M[k]?=some (decide (rest.length<=k)))/\OwnS W 239 1 x.1 x.2.length (x.2.map (·.1))/\(∀g,x.1.ownBlock=some g->K<g)/\Prs l.length x.2/\x.2.map (·.2)=C6 lg++(rest.take k).map ny) (bq,br)
   ⟨t,av,a4,aw,by rw [ax]; simp⟩ (λk x W hk hW S=> ?_) λx W hW S=> ?_
  .obtain ⟨uv,D⟩:=x;obtain ⟨⟨M,ac,I⟩,O,o,r,m⟩:=S;dsimp only at O o r m;have hx:=ZD hk
   generalize l[k]=e at hx
   have az:=J.each e (ZF hx);obtain ⟨X,c,⟨i1,i2,i3,hn⟩,hc⟩:=J8 hl hW hx;have ad:D.length<=l.length:=by
    have:=congrArg List.length m;have:=hg.len;simp only [List.length_map,List.length_append,List.length_take] at *;omega
   refine rn ?_;refine na tX λg2 w2 s=> ?_;refine sb rfl s.blk λw3 a8 b3 z3=> ?_;have q2:=s.at_;have l1:=ac.lt;have zW:=hW.size;have ae:=hW.step s.below;have b0:ZT w w3:=ae.grown b3 ae.size (λq n=>by cases n; omega);have C:=But.blk b3 (ac.next s.below) ZJ;have b7:OwnS w3 239 1 uv D.length (D.map (·.1)):=(O.below s.below).kept λq n=>b3.block q ((O.below s.below).lt n) (λe=>by cases e; have:=O.lt n; omega);have cg:w3.cell? (Addr.add ⟨K,0,none⟩ ((k:Int).toNat*1))=some (.bool (decide (rest.length<=k))):=C.fld (by simp [I k hk]);clear s ac O ae hc hW;refine rn ?_;refine iG rfl (λbt=> ?_) λb8=> ?_
   .have af:k<rest.length:=by simpa using bt
    refine eD (sV k e (.slice X e.needs.length c)) rfl (rn ?_);refine aM (uZ rfl) rfl ⟨ct,trivial⟩ (λ_=>trivial) (rn ?_);refine bs [.iface 290 (.agg (sV k e (.slice X e.needs.length c)).toArray)] Rm rfl λg5 w5 f5=> ?_;refine aT [.iface 290 (.agg (sV k e (.slice X e.needs.length c)).toArray)] rfl rfl Rf rfl (b7.below f5.below) rfl rfl (λj v hj=>⟨⟨g5,0,none⟩,rfl,f5.blk.fld hj⟩) (λv N=>by simp at N; subst N; rfl) ZJ ZJ λab w6 bu b9 bv=>rn ?_;have ba:=b0.step f5.below;have l5:=(C.next f5.below).lt;refine qz (ab,D++ [(.iface 290 (.agg (sV k e (.slice X e.needs.length c)).toArray),ny e)]) ⟨⟨M,GB.blk b9 (C.next f5.below) (λe=>by have:=o K e; omega),I⟩,by rw [List.map_append,List.length_append]; exact bu,λq n=> ?_,λp y=> ?_,?_⟩ (ba.grown b9 ba.size λq n=>by have:=o q n; omega)
    .rcases bv with h|h
     .exact o q (by rw [<-h]; exact n)
     .rw [h] at n; cases n; exact l5
    .rcases ZH y with h|h
     .exact r p h
     .rw [List.mem_singleton] at h;subst h;exact IW ZJ ah az.o1
    .show List.map Prod.snd (D++ [_])=_;rw [List.map_append,m,ZG,<-ay k af,hx,List.map_append,<-List.append_assoc];rfl
   .have af:rest.length<=k:=by simpa using b8
    refine qz (uv,D) ⟨⟨M,C,I⟩,b7,o,r,?_⟩;show D.map (·.2)=_;rw [m,List.take_of_length_le af,List.take_of_length_le ZJ]
  .obtain ⟨uv,D⟩:=x;obtain ⟨_,O,o,r,m⟩:=S;dsimp only at O o r m;rw [List.take_of_length_le aq] at m;have ch:=O.isl;have ad:D.length<=16:=by
    have:=congrArg List.length m;have:=hg.len;simp only [List.length_map,List.length_append,List.length_take] at *;omega
   refine rn ?_;refine BA [8,98,99] 100 D.length (Go.PF.Seen λi=> ∀p,D[i]?=some p->p.2.low<=p.2.high) Seen.zero (λi W2 hi Z hs=> ?_) λW2 Z hs=> ?_
   .obtain ⟨p,y,bb⟩:=eP hi;have N:=r p bb;obtain ⟨ha,hc⟩:=(O.below Z).at1 (i:=i) (x:=p.1) (by simp [y]);refine aM fM rfl ⟨ct,ct,trivial⟩ (λ_=>ha) (rn ?_);refine ci rfl (N.wd _) λw3 b3=> ?_;refine cd rfl (λG=> ?_) λH=> ?_
    .exact rD rfl ⟨bK,.inl ⟨rfl,.inr ⟨p.2,by rw [<-m]; exact List.mem_map_of_mem bb,G⟩⟩⟩
    .exact ou (hs.go λq n=>by rw [y] at n; cases n; omega)
   .have hU:V9 l.length (D.map (·.1)):=λv N=>by
     rw [List.mem_map] at N;obtain ⟨p,y,rfl⟩:=N;exact ⟨p.2,r p y⟩
    have a5:=hW.step Z;have bc:=O.below Z;obtain ⟨A,cj,rfl,_⟩:=bc.form;refine aN rfl (Ae bc ad hU) λy4 w4 h=>rn ?_;obtain ⟨bw,bx,bz,bd⟩:=h;obtain ⟨c0,ag,rfl⟩:=rV D bx bz;refine rD rfl ⟨a5.grown bw a5.size (λq n=>by have:=o q n; omega),.inr ⟨_,c0.map (·.2),rfl,Prs.sl (λp y=>r p (ag.mem_iff.1 y)) bd ad (λq n=>bd.lt n),by rw [<-m]; exact ag.map _,aa,λu hu=> ?_⟩⟩;obtain ⟨p,y,rfl⟩:=List.mem_map.1 hu;obtain ⟨i,hi⟩:=List.mem_iff_getElem?.1 (ag.mem_iff.1 y);exact hs i (ZE hi).1 p hi
theorem Mq (a:WfD d) {e:Ev} (h:EOK d e):Num d (ny e):=by
 refine ⟨wo a h,?_,?_,(ZL:(0:Int)<=0/\(0:Int)<=1000000)⟩
 .show 0<=kM e/\kM e<=1000001;unfold kM; omega
 .show -1<=gQ e/\gQ e<=1000000;unfold gQ; omega
theorem WP {a b:Ev} {g:Int} (c:EOK d a) (hb:EOK d b) (hl:tN d a b g) (e:0<=g/\g<=1000000) (m:(jU a b g).low<=(jU a b g).high):Num d (jU a b g):=by
 have f:0<=kM a/\kM a<=1000001:=by unfold kM; omega
 have i: -1<=gQ a/\gQ a<=1000000:=by unfold gQ; omega
 have k:(jU a b g).low=max (kM a) (kM b-g):=rfl;have l:(jU a b g).high=min (gQ a) (gQ b-g):=rfl;exact ⟨MO c hb hl,ZJ,ZJ,e⟩
def jX (d:bG) (l:List Ev):Prop:=WfE d l/\Poss d l
def IK (d:bG) (l rest:List Ev) (a b:Ev) (g:Int):Prop:=WfE d l/\PossJ d rest a b g
def II (d:bG) (rest:List Ev):Option (Ev×Ev×Int)->Prop
 | none=>Poss d rest
 | some (a,b,g)=>PossJ d rest a b g
theorem Legs.poss (h:Legs w l rest lg L k) (c:WfE d l):(II d rest lg->xU d lg)/\ ∀f:List U,f.Perm (C6 lg++rest.map ny)->xU d lg->(II d rest lg↔(∀u∈f,u.low<=u.high)/\Feas d (Option.none,0) f)/\((∀u∈f,u.low<=u.high)-> ∀u∈f,Num d u):=by
 cases h with
 | none e =>
  subst e;refine ⟨λ_=>trivial,λf g _=>⟨Nl c.wd c.each g,λ_ u j=> ?_⟩⟩;obtain ⟨e,r,rfl⟩:=List.mem_map.1 (g.mem_iff.1 j)
  exact Mq c.wd (c.each e r)
 | @one a b t v _ e n =>
  have o:=λx m=>c.each x (by rw [e]; exact List.mem_append_left _ m);have p:=c.each a (by rw [e]; simp);have q:=c.each b (by rw [e]; simp);refine ⟨λh=>h.1,λf g i=>⟨J3 c.wd o p q n.1 i g,λs u j=> ?_⟩⟩;rcases List.mem_cons.1 (g.mem_iff.1 j) with rfl|h
  .exact WP p q i n (s _ j)
  .obtain ⟨x,m,rfl⟩:=List.mem_map.1 h;exact Mq c.wd (o x m)
theorem Ni {ev:Value} {kn lc:Nat} (hd:SD w dv d) (hl:SE w ev l) (hg:Legs w l rest lg L kn):Gives prog 82 #[dv,ev,.slice L kn lc] w λx w'=>ZT w w'/\ ∃v,x= .tuple #[v,.bool (dec (WfE d l/\II d rest lg))]:=by
 obtain ⟨A,a3,rfl,b7⟩:=hd.form;have b8:=hl.bnd;refine gw func82 ntmps82 ?_;refine cv rfl (Md hd hl hg) λw1 N=> ?_;refine iG rfl (λm=> ?_) λm=> ?_
 .exact rD rfl ⟨bK,_,by rw [aH λh=>WR m h.1]⟩
 have o:WfE d l:=UQ m;have bb:=o.few;have p:=o.wd;obtain ⟨ak,a4⟩:=hg.poss o;refine cr rfl (Pg (fI hd N) (dW hl N) (hg.below N) o) λx w2 b2 h=> ?_;rcases h with ⟨rfl,n⟩|⟨uv,D,rfl,O,r,E,I⟩
 .refine rn ?_;refine cT rfl ?_;refine rD rfl ⟨bK,.slice none 0 0,?_⟩;rw [aH];intro h;have E:=ak h.2;rcases n with h0|⟨u0,al,bc⟩
  .exact h0 E
  .have:=((a4 _ (List.Perm.refl _) E).1.1 h.2).1 u0 al;omega
 obtain ⟨c,e⟩:=a4 D r E
 replace e:=e I
 have a5: ∀u∈D,UOK d u:=λu hu=>(e u hu).ok
 replace c:II d rest lg↔Feas d (none,0) D:=by rw [c]; exact ⟨λh=>h.2,λh=>⟨I,h⟩⟩
 have t:D.length<=16:=by
  have:=r.length_eq;have:=hg.len;simp only [List.length_append,List.length_map] at *;omega
 obtain ⟨UA,ba,am,_⟩:=O.form;refine rn ?_;refine cF rfl ?_;refine eD [.slice A d.length a3,uv,.slice none 0 0] rfl (rn ?_) (by rw [am]; kernel_rfl);refine nw rfl λg w3 f3=> ?_;have q3:=f3.at_;have R:=(N.step b2).step f3.below;have z2:=(N.step b2).size;have hS:Srch w3 g l.length d D (.slice A d.length a3) uv (.slice none 0 0) :=
  ⟨f3.blk,by rw [q3]; exact (fI hd (N.step b2)).below f3.below,by rw [q3]; exact O.below f3.below⟩
 clear N b2 O;refine aN rfl (Jq p hS e t) λx w4 h=> ?_;obtain ⟨a6,a7⟩:=h;have a8:ZT w w4:=R.grown a6 R.size (λq hq=>by cases hq; omega);clear f3 hS a6 R;rcases a7 with ⟨rfl,i,j,u,v,hi,hj,an,ao,ap⟩|⟨rfl,gf,F,S,hF,aq⟩
 .refine rn ?_;refine cT rfl ?_;refine rD rfl ⟨a8,.slice none 0 0,?_⟩;rw [aH];intro h;rcases JY p a5 (s:=(none,0)) (λx hx=>by cases hx) (c.1 h.2) hi hj an with h'|h'
  .exact ao h'
  .exact ap h'
 refine rn ?_;refine cF rfl ?_;refine cr rfl (PL p S e t) λx w5 b5 h=> ?_;obtain ⟨v,b,rfl,ar⟩: ∃v b,x= .tuple #[v,.bool b]/\(b=true-> ∃L,Nums w5 w4.heap.size v L/\(∀i∈L,i<D.length)/\Feas d (none,0) D):=by
  rcases h with rfl|⟨v,L,rfl,h⟩
  .exact ⟨_,_,rfl,λh=>by cases h⟩
  .exact ⟨_,_,rfl,λ_=>⟨L,h⟩⟩
 refine rn ?_;refine WX w4 [1,8,10] (λz:Value×Bool=> [(9,none,.bool z.2),(11,none,z.1)]) (λz W=>(z.2=false-> ¬Feas d (none,0) D)/\(z.2=true-> ∃L,Nums W w4.heap.size z.1 L/\(∀i∈L,i<D.length)/\Feas d (none,0) D)) (λK0 K=> ?_) (λz W bW hJ=> ?_) (imp2:=λ_ _ _ _ h=>h.q)
 .refine iG rfl (λm=> ?_) λm=> ?_
  .refine cr rfl (Tx p (S.step b5) e t hF aq) λx w6 b6 h=> ?_;rcases h with ⟨rfl,n⟩|⟨v',L,rfl,hL,h⟩
   .refine rn ?_;exact jd K (_,false) ⟨λ_=>n,λh=>by cases h⟩
   .refine rn ?_;exact jd K (v',true) ⟨λh=>(by cases h),λ_=>⟨L,hL.less b5.size,h⟩⟩
  .rw [Bool.not_eq_false'] at m;exact jd K (v,b) ⟨λh'=>(by rw [m] at h'; cases h'),ar⟩
 obtain ⟨v,b⟩:=z;obtain ⟨n,J⟩:=hJ;dsimp only at n J;have a9:=a8.step bW;refine rn ?_;refine iG rfl (λm=> ?_) λm=> ?_
 .rw [Bool.not_eq_true'] at m;exact rD rfl ⟨bK,.slice none 0 0,by rw [aH λh=>n m (c.1 h.2)]⟩
 rw [Bool.not_eq_false'] at m;obtain ⟨L,hL,au,av⟩:=J m;have aa:=S.step bW;have bd:=hL.isl;have be:=hL.big;clear b5;refine ms ji Ub rfl λG w7 f7=> ?_;refine eD [.int .u32 ((0:Nat):Int),ZU (-1)] rfl ?_;refine Go.PF.nv uG rfl λU w8 f8=> ?_;have bf:=f7.at_;have bg:=f8.at_;have z7:=f7.size;have ab:=f7.below.step f8.below;have Y:Times w8 G l.length/\Blk w8 U 236 [.int .u32 ((0:Nat):Int),ZU (-1)]:=⟨⟨List.replicate l.length 0,ZM,by simpa using f7.blk.next f8.below⟩,f8.blk⟩;clear f7 f8;refine ze W [8,10,12,13,57,58] 59 L.length (λx:Nat×St=> [(14,none,ZU x.2.2)]) (λi x W'=>Times W' G l.length/\Blk W' U 236 [.int .u32 (x.1:Int),ZU (iD x.2.1)]/\yf d x.2/\ -1<=x.2.2/\x.2.2<=3000000/\x.1<2 ^ 32) (0,(none,0))
  ⟨Y.1,Y.2,(λx hx=>by cases hx),ZL,ZL,(ZL:0<2 ^ 32)⟩ (λi x W' hi B hJ=> ?_) (λx W' B hJ=> ?_) (hb:=ab)
 .obtain ⟨k,s⟩:=x;obtain ⟨hT,H,ac,ad,ae,hk⟩:=hJ;dsimp only at H ac ad ae hk;clear ab Y;have hy:=ZD hi;have af:=au _ (List.getElem_mem hi)
  generalize L[i]=y at hy af
  obtain ⟨ha,aw⟩:=(hL.below B).get hy;obtain ⟨u,hu,ax⟩:=eP af;have nu:=e u ax;have Z:=aa.step B;have hU:=Z.s.units;obtain ⟨v',ay,az⟩:=uH hU hu;have bh:=xD (s:=s) nu;have bi:=nu.span;refine aM fM rfl ⟨ct,ct,trivial⟩ (λ_=>ha) (rn ?_);refine Go.PF.cv rfl (p9 (k:=k) p Z.s hu nu ac ⟨ad,ae⟩) λw9 b9=> ?_;refine cj rfl (az.wr w9 G _ ZJ ZJ (hT.next b9)) λ_ b0 h=> ?_;obtain ⟨a0,ag⟩:=h;have zB:=a9.size;have q1:=B.step b9;have z1:=q1.size;have M:ZT W b0:=q1.grown a0 z1 (λq hq=>by cases hq; omega);have a1:=But.blk (k:=U) a0 (H.next b9) ZJ;have C:=aa.step M;obtain ⟨v2,bj,b3⟩:=uH C.s.units hu;have bk:=H.lt;clear H hT ay aw ha q1 a0 b9 Z hU;have hU:=C.s.units;refine ED [4] 11 mixed ZK (λ_ _ d _ _ h=>by cases d<;>exact h) λW2 b4=> ?_;refine iP .weak 10 ZK ZK rfl rfl b4 (rd ?_);refine dc VD rfl (λ_ w' b'=>Bf (k:=k) (C.step b').s hu hk ZJ) ?_;refine Xm rfl (λw' _=>b3.sp w') ?_;refine Ex rfl λbl a2=>gy ?_;refine jv ZK ZK (λ_ _ d _ _ h=>by cases d<;>exact h) rfl rfl rfl (λ_ h=>by cases h) (λa w ha=>Oi (ha.eval rfl trivial) (ha.eval rfl trivial) (by (try dsimp only); omega)) (rn ?_);refine sb rfl (a1.next a2) λbm ah ai bn=> ?_;have aj:=M.step a2;exact qz (k ||| 1 <<< y,(some u.exit,lU d s u+u.span)) ⟨(by
   obtain ⟨xs,h1,h2⟩:=ag.next a2;exact ⟨xs,h1,But.blk (k:=G) ai h2 ZJ⟩),ah,(λx hx=>by cases hx; exact nu.ok.e2),by show -1<=lU d s u+u.span; omega,by show lU d s u+u.span<=3000000; omega,Nat.or_lt_two_pow hk (uP ZJ)⟩ (aj.grown ai aj.size λq hq=>by cases hq; omega)
 .exact rD rfl ⟨a9.step B,_,by rw [aD ⟨o,c.2 av⟩]⟩
theorem Dr {ev:Value} (b:SD w dv d) (hl:SE w ev l):Gives prog 82 #[dv,ev,.slice none 0 0] w λx a=>ZT w a/\ ∃v,x= .tuple #[v,.bool (dec (jX d l))]:=Ni b hl (.none rfl)
theorem TA {ev:Value} {a b:Ev} {la:Addr} {lc:Nat} {gp:Int} (h:SD w dv d) (hl:SE w ev l) (c:LegAt w la n gp) (e:l=rest++ [a,b]) (hn:rest.length=n) (f:0<=gp/\gp<=1000000):Gives prog 82 #[dv,ev,.slice (some la) 1 lc] w λx g=>ZT w g/\ ∃v,x= .tuple #[v,.bool (dec (IK d l rest a b gp))]:=by
 subst hn;exact Ni h hl (.one c e f)
theorem MY {l:List Int} {k:FuncId} (hl:SL aS F w v l) (m:enters prog k=true) (hp:PredI prog w k caps p) :
  Gives prog 247 #[v,.func (.func k) #[] caps.toArray] w λx e=>ZT w e/\((x= ZU (-1)/\l.any p=false)\/ ∃i:Nat,x= ZU (i:Int)/\l.any p=true):=by
 have b:=hl.bnd;refine gw func247 ntmps247 ?_;refine BA [0,1,7] 8 l.length (λi _=>(l.take i).any p=false) rfl (λi W c d a=> ?_) λW d a=> ?_
 .have g:=ZD c;refine Ue m rfl (hp _ _ d) λn o=> ?_;refine iG rfl (λh=> ?_) λj=> ?_
  .exact aO rfl ⟨bK,.inr ⟨i,rfl,List.any_eq_true.2 ⟨_,List.getElem_mem c,h⟩⟩⟩
  .refine ou ?_;rw [ZG,List.any_append,a,g];simp [j]
 .rw [List.take_length] at a;exact aO rfl ⟨bK,.inl ⟨rfl,a⟩⟩
theorem uW {l:List Int} {k:FuncId} (hl:SL aS F w v l) (b:enters prog k=true) (hp:PredI prog w k caps p) :
  Gives prog 155 #[v,.func (.func k) #[] caps.toArray] w λx a=>ZT w a/\x= .bool (l.any p):=by
 refine gw func155 ntmps155 ?_;refine cr rfl (MY hl b hp) λx c d h=> ?_;rcases h with ⟨rfl,h⟩|⟨i,rfl,h⟩
 .refine rn ?_;exact aO rfl ⟨bK,by rw [h]; rfl⟩
 .refine rn ?_;exact aO rfl ⟨bK,by rw [h]; simp⟩
theorem NI {l:List Int} (hl:SL aS F w v l) (hs:l.length<=1000000):Gives prog 97 #[v] w λx t=>ZT w t/\SL aS (λk=>w.heap.size<=k) t x l/\ ∃A n c,x= .slice A n c:=by
 obtain ⟨A,B,rfl,_⟩:=hl.form;refine gw func97 ntmps97 ?_;refine iG rfl (λd=> ?_) λ_=> ?_
 .have C:l= []:=by
   cases l with
   | nil=>rfl
   | cons a l =>
    obtain ⟨J,rfl⟩:=hl.addr ZM;cases d
  subst C;exact aO rfl ⟨bK,SL.nil _ _ _,_,_,_,rfl⟩
 .refine bL 3 rfl rfl kC λg K m=>rn ?_;refine aT (l.map (Value.int .i64)) rfl rfl ji rfl (aU m.blk rfl ZL) rfl ZM (λj u D=>SL.cells (T:=aS) (λx=> [Value.int .i64 x]) (λF w L x h=>h.1) ZL (hl.below m.below) (λx _=>rfl) j u (by rw [Do]; exact D)) (λv y=>by rw [List.mem_map] at y; obtain ⟨x,_,rfl⟩:=y; rfl) ZJ ZJ λM N o p r=>rn ?_;have O:=m.at_;have z:=m.below.size;obtain ⟨E,G,s,_⟩:=o.form;refine aO rfl ⟨m.below.grown p z (λq b=>by simp [Value.ownBlock] at b; omega),dO (by simpa using o) (λx H=> ?_) (λq b=> ?_) ZJ,E,_,G,s⟩
  .obtain ⟨i,I,rfl⟩:=List.getElem_of_mem H;exact hl.rngI (ZD I)
  .rcases r with h|h
   .rw [h] at b; simp [Value.ownBlock] at b; omega
   .rw [h] at b; cases b; exact z
def gone (S:List Int) (e:Ev):Bool:=e.needs.any λr=>S.contains r
def dB (l:List Ev) (S:List Int):List Ev:=l.filter λe=> !gone S e
theorem Jm (l:List Ev) (S:List Int) (k:Nat):(dB (l.take k) S).length<=l.length:=by
 have a:(dB (l.take k) S).length<=(l.take k).length:=List.length_filter_le _ _;rw [List.length_take] at a;omega
theorem Fh (h:k<l.length):dB (l.take (k+1)) S=dB (l.take k) S++if gone S l[k] then [] else [l[k]]:=by
 unfold dB;rw [ZG,ZD h,List.filter_append];cases a:gone S l[k]<;>simp [a]
def qU:GKey prog 3 Int:=Ms (MV prog 3 .i64 underlying3) (λa b=>by simp [MV])
def Drawn (w:World) (b:Nat) (S:List Int):Prop:= ∃m,MapL qU w b m/\(∀x,(∃v,(x,v)∈m)↔x∈S)/\ ∀p∈m,p.2= .bool true
theorem Drawn.step (h:Drawn w b S) (hb:ZT w w'):Drawn w' b S:=h.imp λ_ h=>⟨h.1.below hb,h.2⟩
theorem Drawn.put {m:List (Int×Value)} {x:Int} (h:(∀x,(∃v,(x,v)∈m)↔x∈S)/\ ∀p∈m,p.2= .bool true) (f:MapL qU w' b (jK m x (.bool true))):Drawn w' b (S++ [x]):=by
 refine ⟨_,f,λy=> ?_,λp d=> ?_⟩
 .rw [List.mem_append,List.mem_singleton,<-h.1 y];constructor
  .rintro ⟨v,c⟩;rcases mem_lput.1 c with e|⟨a,_⟩
   .exact .inr (congrArg Prod.fst e)
   .exact .inl ⟨v,a⟩
  .intro a;by_cases e:y=x
   .exact ⟨.bool true,mem_lput.2 (.inl (by rw [e]))⟩
   .obtain ⟨v,c⟩:=a.resolve_right e;exact ⟨v,mem_lput.2 (.inr ⟨c,e⟩)⟩
 .rcases mem_lput.1 d with rfl|⟨a,_⟩
  .rfl
  .exact h.2 p a
theorem LM (o:Blk w g 243 [.map (some b)]) (l:Drawn w b S):PredI prog w 168 [.pointer (some ⟨g,0,none⟩)] λx=>S.contains x:=by
 intro x n c;obtain ⟨m,j,i,k⟩:=l.step c;refine gw func168 ntmps168 ?_;refine ik qU x rfl rfl underlying243 Ua rfl rfl j λv a=>rn ?_;refine aO rfl ⟨bK,?_⟩;rcases a with a|⟨a,rfl⟩
 .have d:v= .bool true:=k _ a;rw [d];have:=(i x).1 ⟨v,a⟩;simp [this]
 .have: ¬x∈S:=λh=>by
   obtain ⟨v,e⟩:=(i x).2 h;exact a _ e rfl
  simp [this]
theorem PE {e:Ev} {nv:Value} (d:Blk w g 243 [.map (some b)]) (h:Drawn w b S) (hn:SL aS F w nv e.needs) :
  Gives prog 167 #[.agg #[ZU e.office,ZU e.low,ZU e.high,nv],.pointer (some ⟨g,0,none⟩)] w λx c=>ZT w c/\x= .bool (!gone S e):=by
 refine gw func167 ntmps167 ?_;refine nw rfl λi j a=> ?_;refine cv rfl (uW (hn.below a.below) VB (LM (d.next a.below) (h.step a.below))) λk l=> ?_;exact aO rfl ⟨bK,rfl⟩
theorem Hu {u:Value} (hl:SE w v l) (hS:SL aS F w u S) (af:l.length<=1000000) (a8: ∀e∈l,e.needs.length<=1000000) :
  Gives prog 83 #[v,u] w λx M=>ZT w M/\SL evT (λk=>w.heap.size<=k/\k<M.heap.size) M x (dB l S):=by
 have ab:=hS.bnd;refine gw func83 ntmps83 ?_;refine eZ qU rfl rfl λb w1 ac ad D N=>rn ?_;refine WO Um rfl λg O E=> ?_;have q2:=E.at_;have h0:ZT w O/\Blk O g 243 [.map (some b)]/\Drawn O b []:=⟨D.step E.below,E.blk,[],N.below E.below,λx=>ZM,λp hp=>by cases hp⟩;clear E D;refine rn ?_;refine ze w [0,5,13,14] 15 S.length (λ_:Unit=> []) (λi _ W=>Blk W g 243 [.map (some b)]/\Drawn W b (S.take i)) () h0.2 (λi _ W hi t A=> ?_) (λ_ W t A=> ?_) (hb:=h0.1)
 .obtain ⟨R,m,o,U⟩:=A;have L:=ZD hi;refine rn ?_;refine dM qU S[i] (vz:= .bool true) rfl underlying243 rfl rfl rfl o λw3 z3 b3 Y=> ?_;have e:S.take (i+1)=S.take i++ [S[i]]:=by rw [ZG,L]; rfl
  have q:=t.grown b3 t.size (λq Z=>by cases Z; omega);refine rn ?_;exact qz () ⟨b3.blk R ZJ,by rw [e]; exact Drawn.put U Y⟩ q
 obtain ⟨R,hD⟩:=A;rw [List.take_length] at hD;have a9:=hl.bnd;refine rn ?_;refine ze W [8,23,24] 25 l.length (λz:Value×List (List Value×Ev)=> [(9,none,z.1)]) (λk z G=>RowB evT G 68 W.heap.size z.1 z.2/\z.2.map (·.2)=dB (l.take k) S) (.slice none 0 0,[]) ⟨RowB.nil _ _ _ _,rfl⟩ (λk z G n d A=> ?_) λz G d A=> ?_
 .obtain ⟨rv,ps⟩:=z;obtain ⟨y,o⟩:=A;dsimp only at y o;have L:=ZD n;have H:=List.getElem_mem n;have aa:ps.length<=1000000:=by
   have h1:ps.length=(dB (l.take k) S).length:=by rw [<-o]; simp
   have:=Jm l S k;omega
  have B:=Fh (S:=S) n;have a0:=t.step d
  generalize l[k]=e at L H B
  obtain ⟨X,c,⟨i1,i2,i3,hn⟩,hc⟩:=J8 hl a0 L;refine rn ?_;refine Go.PF.nv tX rfl λg3 w3 r=> ?_;have s:=d.step r.below;refine Ue VC rfl (PE (R.next s) (hD.step s) (hn.below (t.step s))) λw4 C=> ?_;refine iG rfl (λhy=> ?_) λI=> ?_
  .rw [Bool.not_eq_true'] at hy;refine cr rfl (NI (hn.below (t.step (s.step C))) (a8 e H)) λnv w5 J h=> ?_;obtain ⟨a1,C5,n5,c5,rfl⟩:=h;have q3:=r.at_;have z3:=r.below.size;have a2:=y.step (r.below.step (C.step J));refine sf (j:=3) rfl (r.blk.next (C.step J)) λw6 ae b6 z6=> ?_;have h5:=r.below.step (C.step J);have K:ZT G w6:=h5.grown b6 h5.size (λq Z=>by cases Z; omega);have z4:=C.size;have z5:=J.size;have zW:=d.size;have a3:SL aS (λk=>W.heap.size<=k/\iE w6 rv k) w6 (.slice C5 n5 c5) e.needs :=
    SL.wider (SL.nb AA (a1.mono (Kept.of_blocks λk n a4=>b6.block k a4 λe=>by cases e; have:=r.size; omega))) λk n=>⟨by have:=n.1; omega,n.2,λe=>by have:=y.1.lt e; have:=n.1; omega⟩
   have a5:=y.step K;clear y a2 r C J;refine rn ?_;refine rg AL Gd rfl a5 (w0:=W) (a:=e) ⟨_,rfl,i1,i2,i3,a3⟩ (λg7 a6 w7 a7 b7=> ?_) (d.step K);refine qz (a6,_) ⟨a7,?_⟩;rw [List.map_append,o,B,hy]; rfl
  .rw [Bool.not_eq_false'] at I;refine qz (rv,ps) ⟨y.step (r.below.step C),?_⟩;rw [o,B,I]; simp
 .obtain ⟨y,o⟩:=A;rw [List.take_length] at o;exact aO rfl ⟨t.step d,by rw [<-o]; exact (y.sl ZL).wider λk n=>⟨Nat.le_trans t.size n.1,n.2⟩⟩
theorem LK {u:Value} (hl:SE w v l) (h:SL aS F w u S) (a:l.length<=1000000) (b: ∀e∈l,e.needs.length<=1000000) :
  Gives prog 83 #[v,u] w λx c=>ZT w c/\SE c x (dB l S) :=
 (Hu hl h a b).mono λ_ _ ⟨d,f⟩=>⟨d,f.wider λ_ g=>g.2⟩
end Go.Proofs.YtoleahhfkpkcjaaGreatDoor
