/- Texts of this claim,joined. -/
import Derived.Test.YtoleahhfkpkcjaaGreatDoorQF
import Derived.Lib.Strings
set_option linter.unusedSimpArgs false
set_option linter.unusedVariables false
set_option maxRecDepth 100000
set_option maxHeartbeats 4000000
variable {w w':Go.World} {F G:Nat->Prop} {v u:Go.Value} {c eats:List Nat} {a lab b:ByteArray} {l:List Int} {e f:Go.Ord.Ev} {p i n g:Nat} {φ:Nat->Nat} {Q:Nat->ByteArray->Prop} {K:Go.Act->Go.World->Prop} {D D':Go.PF.DE} {r:Go.World×List Go.Addr} {α:Type} {ds:List Go.Deferred} {A:Option Go.Addr} {k:Go.FuncId} {x:Int} {t:Go.TypeId} {rest:List Go.Oper} {ad:Go.Addr}
namespace Go.PF
open Go.RowKit Go.Ord
def calT:Ty Cal where
 n:=3
 rep:=λF w cs c=> ∃u v,cs= [ZU c.zone,u,v]/\fF c.zone/\SL boolT F w u c.week/\SL aS F w v c.hol
 len:=λ_ _ _ _ h=>by obtain ⟨u,v,h,_⟩:=h; rw [h]; rfl
 mono:=λ_ _ _ _ _ hk h=>by obtain ⟨u,v,h,h1,h2,h3⟩:=h; exact ⟨u,v,h,h1,h2.mono hk,h3.mono hk⟩
 wider:=λ_ _ _ _ _ hF h=>by obtain ⟨u,v,h,h1,h2,h3⟩:=h; exact ⟨u,v,h,h1,h2.wider hF,h3.wider hF⟩
theorem D8:Ty.Now calT:=⟨ZL,λF w d e ⟨u,v,h,a,b,c⟩=>⟨u,v,h,a,b.now Km,c.now fV⟩⟩
def ofT:Ty Of where
 n:=7
 rep:=λF w cs o=> ∃v,cs= [.string o.name,ZU o.op,ZU o.cal,ZU o.pock,ZU o.pass,ZU o.mins,v]/\o.name.size<=9223372036854775807/\fF o.op/\fF o.cal/\fF o.pock/\fF o.pass/\fF o.mins/\SL eT F w v o.codes
 len:=λ_ _ _ _ h=>by obtain ⟨v,h,_⟩:=h; rw [h]; rfl
 mono:=λ_ _ _ _ _ hk h=>by obtain ⟨v,h,h1,h2,h3,h4,h5,h6,hs⟩:=h; exact ⟨v,h,h1,h2,h3,h4,h5,h6,hs.mono hk⟩
 wider:=λ_ _ _ _ _ hF h=>by obtain ⟨v,h,h1,h2,h3,h4,h5,h6,hs⟩:=h; exact ⟨v,h,h1,h2,h3,h4,h5,h6,hs.wider hF⟩
theorem H5:Ty.Now ofT:=⟨ZL,λF w j e ⟨v,h,a,b,c,d,f,g,i⟩=>⟨v,h,a,b,c,d,f,g,i.now lh⟩⟩
def JK (l:Li):List Value:= [.string l.name,ZU l.frm,ZU l.to,ZU l.at_,ZU l.trav,ZU l.load]
def KO:Ty Li where
 n:=6
 rep:=λ_ _ cs l=>cs=JK l/\l.name.size<=9223372036854775807/\fF l.frm/\fF l.to/\fF l.at_/\fF l.trav/\fF l.load
 len:=λ_ _ _ _ h=>by rw [h.1]; rfl
 mono:=λ_ _ _ _ _ _ h=>h
 wider:=λ_ _ _ _ _ _ h=>h
theorem H8:Ty.Now KO:=⟨ZL,λ_ _ _ _ h=>h⟩
def Ki (l:Cla):List Value:= [.string l.name,ZU l.cut,ZU l.del]
def yB:Ty Cla where
 n:=3
 rep:=λ_ _ cs l=>cs=Ki l/\l.name.size<=9223372036854775807/\fF l.cut/\fF l.del
 len:=λ_ _ _ _ h=>by rw [h.1]; rfl
 mono:=λ_ _ _ _ _ _ h=>h
 wider:=λ_ _ _ _ _ _ h=>h
theorem D5:Ty.Now yB:=⟨ZL,λ_ _ _ _ h=>h⟩
structure NV where
 c:Value
 n:Value
 o:Value
 f:Value
 l:Value
 k:Value
def NV.cells (v:NV):List Value:= [v.c,v.n,v.o,v.f,v.l,v.k]
structure NetIn (F:Nat->Prop) (w:World) (v:NV) (N:Net):Prop where
 c:SL calT F w v.c N.cals
 n:SL eT F w v.n N.names
 o:SL eT F w v.o N.ops
 f:SL ofT F w v.f N.offs
 l:SL KO F w v.l N.lines
 k:SL yB F w v.k N.classes
theorem NetIn.below {F:Nat->Prop} {w w':World} {v:NV} {N:Net} (h:NetIn F w v N) (hb:ZT w w'):NetIn F w' v N:=⟨h.c.below hb,h.n.below hb,h.o.below hb,h.f.below hb,h.l.below hb,h.k.below hb⟩
abbrev iA (w:World) (v:NV) (N:Net):Prop:=NetIn (λk=>k<w.heap.size) w v N
theorem NetIn.now {F:Nat->Prop} {w:World} {v:NV} {N:Net} (h:NetIn F w v N):iA w v N:=⟨h.c.now D8,h.n.now lh,h.o.now lh,h.f.now H5,h.l.now H8,h.k.now D5⟩
theorem NetIn.wider {F G:Nat->Prop} {w:World} {v:NV} {N:Net} (h:NetIn F w v N) (a: ∀k,F k->G k):NetIn G w v N:=⟨h.c.wider a,h.n.wider a,h.o.wider a,h.f.wider a,h.l.wider a,h.k.wider a⟩
theorem bA {v:NV} {N:Net} (h:iA w v N) (hb:ZT w w'):iA w' v N:=⟨h.c.step D8 hb,h.n.step lh hb,h.o.step lh hb,h.f.step H5 hb,h.l.step H8 hb,h.k.step D5 hb⟩
end Go.PF
namespace Go.Ord
def cmpL:List Int->List Int->Int
 | [],[]=>0
 | [],_::_=> -1
 | _::_,[]=>1
 | x::a,y::b=>if x<y then -1 else if y<x then 1 else cmpL a b
theorem jN: ∀a,cmpL a a=0
 | []=>rfl
 | x::a=>by simp [cmpL,jN a]
theorem cmpL_eq: ∀ {a b},cmpL a b=0->a=b
 | [],[],_=>rfl
 | [],_::_,h=>by simp [cmpL] at h
 | _::_,[],h=>by simp [cmpL] at h
 | x::a,y::b,h=>by
  unfold cmpL at h
  split at h
  .cases h
  .split at h
   .cases h
   .have:x=y:=ZJ;rw [this,cmpL_eq h]
theorem pZ: ∀a b,cmpL a b= -cmpL b a
 | [],[]=>rfl
 | [],_::_=>rfl
 | _::_,[]=>rfl
 | x::a,y::b=>by
  unfold cmpL;by_cases h:x<y
  .rw [if_pos h,if_neg ZJ,if_pos h]
  .by_cases c:y<x
   .rw [if_neg h,if_pos c,if_pos c];rfl
   .rw [if_neg h,if_neg c,if_neg c,if_neg h,pZ a b]
theorem lI: ∀ {a b c},cmpL a b<0->cmpL b c<0->cmpL a c<0
 | [],[],_,h,_=>by simp [cmpL] at h
 | [],_::_,[],_,h=>by simp [cmpL] at h
 | [],_::_,_::_,_,_=>by simp [cmpL]
 | _::_,[],_,h,_=>by simp [cmpL] at h
 | _::_,_::_,[],_,h=>by simp [cmpL] at h
 | x::a,y::b,z::c,h,d=>by
  unfold cmpL at h d ⊢;by_cases j:x<y
  .by_cases f:y<z
   .rw [if_pos ZJ]; decide
   .rw [if_neg f] at d;by_cases g:z<y
    .rw [if_pos g] at d; exact absurd d ZL
    .rw [if_pos ZJ]; decide
  .rw [if_neg j] at h;by_cases f:y<x
   .rw [if_pos f] at h; exact absurd h ZL
   .rw [if_neg f] at h;have e:x=y:=ZJ;subst e;by_cases g:x<z
    .rw [if_pos g]; decide
    .rw [if_neg g] at d ⊢;by_cases i:z<x
     .rw [if_pos i] at d; exact absurd d ZL
     .rw [if_neg i] at d ⊢;exact lI h d
def dE (e:Ev):List Int:=(e.needs.length:Int)::e.office::e.low::e.high::e.needs
theorem wW (h:dE e=dE f):e=f:=by
 obtain ⟨l,m,n,o⟩:=f;unfold dE at h;simp only [List.cons.injEq] at h;obtain ⟨_,g,i,j,k⟩:=h;subst g i j k;rfl
def jO (e f:Ev):Int:=cmpL (dE e) (dE f)
def tV (e f:Ev):Prop:=jO e f<0
theorem lz: ¬tV e e:=by unfold tV jO; rw [jN]; decide
theorem ul {g:Ev} (h:tV e f) (a:tV f g):tV e g:=lI h a
theorem cmpE_zero:jO e f=0↔e=f:=⟨λh=>wW (cmpL_eq h),λh=>by rw [h]; exact jN _⟩
theorem kU (e f:Ev):jO e f= -jO f e:=pZ _ _
theorem PY (h:e.needs.length<f.needs.length):tV e f:=by
 unfold tV jO dE cmpL;rw [if_pos ZJ];decide
def SrtE (l:List Ev):Prop:=l.Pairwise tV
def insE (e:Ev):List Ev->List Ev
 | []=> [e]
 | f::l=>if jO e f<0 then e::f::l else if jO e f=0 then f::l else f::insE e l
theorem mem_insE {e x:Ev}: ∀ {l:List Ev},x∈insE e l↔x=e\/x∈l
 | []=>by simp [insE]
 | f::l=>by
  unfold insE
  split
  .simp
  .split
   .rename_i h;have:=cmpE_zero.1 h;subst this;simp
   .rw [List.mem_cons,mem_insE,List.mem_cons];constructor
    .rintro (h|h|h)
     .exact .inr (.inl h)
     .exact .inl h
     .exact .inr (.inr h)
    .rintro (h|h|h)
     .exact .inr (.inl h)
     .exact .inl h
     .exact .inr (.inr h)
theorem SrtE.insE {e:Ev}: ∀ {l:List Ev},SrtE l->SrtE (insE e l)
 | [],_=>List.pairwise_singleton _ _
 | f::l,h=>by
  have b:=List.pairwise_cons.1 h;unfold Go.Ord.insE
  split
  .rename_i c;refine List.pairwise_cons.2 ⟨λx a=> ?_,h⟩;rcases List.mem_cons.1 a with rfl|a
   .exact c
   .exact ul c (b.1 x a)
  .split
   .exact h
   .refine List.pairwise_cons.2 ⟨λx a=> ?_,SrtE.insE b.2⟩;rcases mem_insE.1 a with rfl|a
    .have:=kU x f;unfold tV;omega
    .exact b.1 x a
theorem zZ: ∀ {a b:List Ev},SrtE a->SrtE b->(∀x,x∈a↔x∈b)->a=b
 | [],[],_,_,_=>rfl
 | [],y::b,_,_,h=>by have:=(h y).2 ZM; cases this
 | x::a,[],_,_,h=>by have:=(h x).1 ZM; cases this
 | x::a,y::b,j,k,h=>by
  have c:=List.pairwise_cons.1 j;have d:=List.pairwise_cons.1 k;have i:x=y:=by
   rcases List.mem_cons.1 ((h x).1 ZM) with e|f
   .exact e
   .rcases List.mem_cons.1 ((h y).2 ZM) with e|l
    .exact e.symm
    .exact absurd (ul (d.1 x f) (c.1 y l)) lz
  subst i
  congr 1
  refine zZ c.2 d.2 λz=>⟨λg=> ?_,λg=> ?_⟩
  .rcases List.mem_cons.1 ((h z).1 (List.mem_cons_of_mem _ g)) with rfl|f
   .exact absurd (c.1 z g) lz
   .exact f
  .rcases List.mem_cons.1 ((h z).2 (List.mem_cons_of_mem _ g)) with rfl|f
   .exact absurd (d.1 z g) lz
   .exact f
def o6 (a l:List Ev):List Ev:=l.foldl (λacc e=>insE e acc) a
def canon (l:List Ev):List Ev:=o6 [] l
theorem wQ {x:Ev}: ∀ {l a:List Ev},x∈o6 a l↔x∈a\/x∈l
 | [],a=>by simp [o6]
 | e::l,a=>by
  show x∈o6 (insE e a) l↔_;rw [wQ,mem_insE,List.mem_cons];constructor
  .rintro ((h|h)|h)
   .exact .inr (.inl h)
   .exact .inl h
   .exact .inr (.inr h)
  .rintro (h|h|h)
   .exact .inl (.inr h)
   .exact .inl (.inl h)
   .exact .inr h
theorem wz: ∀ {l a:List Ev},SrtE a->SrtE (o6 a l)
 | [],_,h=>h
 | e::l,_,h=>wz (l:=l) h.insE
theorem mem_canon {x:Ev} {l:List Ev}:x∈canon l↔x∈l:=by unfold canon; rw [wQ]; simp
theorem kR (l:List Ev):SrtE (canon l):=wz List.Pairwise.nil
theorem Kk {a b:List Ev} (h: ∀x,x∈a↔x∈b):canon a=canon b:=zZ (kR a) (kR b) λx=>by rw [mem_canon,mem_canon,h]
theorem sN {a b:List Ev} (c:SrtE a) (h: ∀x,x∈a↔x∈b):a=canon b:=zZ c (kR b) λx=>by rw [mem_canon,h]
theorem D7 (a l:List Ev) (e:Ev):o6 a (l++ [e])=insE e (o6 a l):=by unfold o6; simp
def wO (l:List Ev) (k:Nat):List Ev:=l.filter λe=>e.needs.length==k
def upTo (l:List Ev) (k:Nat):List Ev:=(List.range k).flatMap λi=>canon (wO l (i+1))
theorem mem_upTo {l:List Ev} {k:Nat} {x:Ev}:x∈upTo l k↔x∈l/\1<=x.needs.length/\x.needs.length<=k:=by
 unfold upTo;rw [List.mem_flatMap];constructor
 .rintro ⟨i,a,h⟩;rw [mem_canon] at h;unfold wO at h;rw [List.mem_filter] at h;have c:=List.mem_range.1 a;have:=h.2;simp at this;exact ⟨h.1,ZJ,ZJ⟩
 .rintro ⟨b,d,e⟩;refine ⟨x.needs.length-1,List.mem_range.2 ZJ,mem_canon.2 ?_⟩;exact List.mem_filter.2 ⟨b,ZO⟩
theorem wy (l:List Ev): ∀k,SrtE (upTo l k)
 | 0=>List.Pairwise.nil
 | k+1=>by
  have e:upTo l (k+1)=upTo l k++canon (wO l (k+1)):=by
   unfold upTo;rw [List.range_succ,List.flatMap_append];simp
  rw [e];refine List.pairwise_append.2 ⟨wy l k,kR _,λa d b f=>PY ?_⟩;have g:=(mem_upTo.1 d).2.2;have c:=mem_canon.1 f;have:=(List.mem_filter.1 c).2;simp at this;omega
theorem yJ (l:List Ev) (k:Nat):upTo l (k+1)=upTo l k++canon (wO l (k+1)):=by
 unfold upTo;rw [List.range_succ,List.flatMap_append];simp
theorem EP {l:List Ev} {k:Nat} (h: ∀e∈l,1<=e.needs.length/\e.needs.length<=k):upTo l k=canon l :=
 sN (wy l k) λx=>by rw [mem_upTo]; exact ⟨λh=>h.1,λa=>⟨a,h x a⟩⟩
theorem La (l:List Ev) {k:Nat} (h:i<=k): ∃s,upTo l k=upTo l i++s:=by
 induction h with
 | refl=>exact ⟨[],ZM⟩
 | @step m _ a =>
  obtain ⟨s,b⟩:=a;exact ⟨s++canon (wO l (m+1)),by rw [yJ,b,List.append_assoc]⟩
theorem Lf {a s:List α} (h:n<=a.length):(a++s).take n=a.take n:=by rw [List.take_append_of_le_length h]
structure Sc where
 op:Int
 off:Int
 err:Int
structure Rc where
 scn:Int
 num:Int
 kind:Int
 time:Int
 label:ByteArray
 cont:List ByteArray
def okB (b:Nat):Prop:=(65<=b/\b<=90)\/(48<=b/\b<=57)\/b=46
def gP (s:ByteArray) (i:Nat):Nat:=(s.data.getD i 0).toNat
def gK (s:ByteArray):Prop:=1<=s.size/\s.size<=20/\ ∀i,i<s.size->okB (gP s i)
structure ScOK (s:Sc):Prop where
 o1:0<=s.op
 o2:0<=s.off
 e1:0<=s.err
 e2:s.err<=10000
def RE (r:Rc):Prop:=(r.kind=1/\r.cont= [])\/(r.kind=2/\r.cont.length<=40/\(∀c∈r.cont,gK c/\c≠r.label)/\r.cont.Nodup)
structure Comp (r:Rc):Prop where
 s1:0<=r.scn
 s2:r.scn<=1000000
 n1:0<=r.num
 n2:r.num<=1000000
 t1:0<=r.time
 t2:r.time<=1000000
 lab:gK r.label
 kinds:RE r
structure Val (l:List Sc) (r:Rc):Prop where
 few:l.length<=24
 comp:Comp r
 scan: ∃s,l[r.scn.toNat]?=some s/\ScOK s
theorem Val.man {l:List Sc} {r:Rc} (h:Val l r) (b:a∈r.cont):r.kind=2:=by
 rcases h.comp.kinds with ⟨_,c⟩|⟨d,_⟩
 .rw [c] at b; cases b
 .exact d
def qm (l:List Sc) (r:Rc):Sc:=l.getD r.scn.toNat ⟨0,0,0⟩
def kz (l:List Sc) (r:Rc) (needs:List Int):Ev:=⟨(qm l r).off,r.time-(qm l r).err,r.time+(qm l r).err,needs⟩
theorem Val.sc {l:List Sc} {r:Rc} (h:Val l r):l[r.scn.toNat]?=some (qm l r)/\ScOK (qm l r):=by
 obtain ⟨s,a,b⟩:=h.scan;have:qm l r=s:=by unfold qm; rw [List.getD_eq_getElem?_getD,a]; rfl
 rw [this];exact ⟨a,b⟩
end Go.Ord
namespace Go.PF
open Go.RowKit Go.Ord
def yh:Ty Sc where
 n:=3
 rep:=λ_ _ cs s=>cs= [ZU s.op,ZU s.off,ZU s.err]/\fF s.op/\fF s.off/\fF s.err
 len:=λ_ _ _ _ h=>by rw [h.1]; rfl
 mono:=λ_ _ _ _ _ _ h=>h
 wider:=λ_ _ _ _ _ _ h=>h
theorem kL:Ty.Now yh:=⟨ZL,λ_ _ _ _ h=>h⟩
def rcT:Ty Rc where
 n:=6
 rep:=λF w cs r=> ∃v,cs= [ZU r.scn,ZU r.num,ZU r.kind,ZU r.time,.string r.label,v]/\fF r.scn/\fF r.num/\fF r.kind/\fF r.time/\r.label.size<=9223372036854775807/\SL eT F w v r.cont
 len:=λ_ _ _ _ h=>by obtain ⟨v,h,_⟩:=h; rw [h]; rfl
 mono:=λ_ _ _ _ _ hk h=>by obtain ⟨v,h,h1,h2,h3,h4,h5,hs⟩:=h; exact ⟨v,h,h1,h2,h3,h4,h5,hs.mono hk⟩
 wider:=λ_ _ _ _ _ hF h=>by obtain ⟨v,h,h1,h2,h3,h4,h5,hs⟩:=h; exact ⟨v,h,h1,h2,h3,h4,h5,hs.wider hF⟩
theorem jZ:Ty.Now rcT:=⟨ZL,λF w i e ⟨v,h,a,b,c,d,f,g⟩=>⟨v,h,a,b,c,d,f,g.now lh⟩⟩
abbrev SS (w:World) (v:Value) (l:List Sc):Prop:=SL yh (λk=>k<w.heap.size) w v l
abbrev SR (w:World) (v:Value) (l:List Rc):Prop:=SL rcT (λk=>k<w.heap.size) w v l
abbrev ST (w:World) (v:Value) (l:List ByteArray):Prop:=SL eT (λk=>k<w.heap.size) w v l
theorem rJ {l:List Sc} (h:SS w v l) (hb:ZT w w'):SS w' v l:=h.step kL hb
theorem G9 {l:List Rc} (h:SR w v l) (hb:ZT w w'):SR w' v l:=h.step jZ hb
theorem O7 {l:List ByteArray} (h:ST w v l) (hb:ZT w w'):ST w' v l:=h.step lh hb
theorem SS.get {cap:Nat} {l:List Sc} (h:SL yh F w (.slice (some ad) n cap) l) {e:Sc} (k:l[i]?=some e) :
  (∀j u,[Value.int .i64 e.op,ZU e.off,ZU e.err][j]?=some u->w.cell? ((ad.add ((i:Int).toNat*3)).add j)=some u)/\fF e.op/\fF e.off/\fF e.err:=by
 obtain ⟨a,m,b,_,⟨rfl,c,d,f⟩,g⟩:=h.at k;cases b;exact ⟨g,c,d,f⟩
def iq (r:Rc) (v:Value):List Value:= [ZU r.scn,ZU r.num,ZU r.kind,ZU r.time,.string r.label,v]
structure RcOK (F:Nat->Prop) (w:World) (v:Value) (r:Rc):Prop where
 i1:fF r.scn
 i2:fF r.num
 i3:fF r.kind
 i4:fF r.time
 lb:r.label.size<=9223372036854775807
 ct:SL eT F w v r.cont
theorem SR.get {cap:Nat} {l:List Rc} (h:SL rcT F w (.slice (some ad) n cap) l) {e:Rc} (p:l[i]?=some e) :
  ∃ v,(∀j u,(iq e v)[j]?=some u->w.cell? ((ad.add ((i:Int).toNat*6)).add j)=some u)/\RcOK F w v e:=by
 obtain ⟨a,q,b,_,⟨v,rfl,c,d,f,g,k,m⟩,o⟩:=h.at p;cases b;exact ⟨v,o,c,d,f,g,k,m⟩
theorem RcOK.below {F:Nat->Prop} {w w':World} {v:Value} {r:Rc} (h:RcOK F w v r) (hb:ZT w w'):RcOK F w' v r:=⟨h.i1,h.i2,h.i3,h.i4,h.lb,h.ct.below hb⟩
theorem RcOK.step {r:Rc} (h:RcOK (λk=>k<w.heap.size) w v r) (hb:ZT w w'):RcOK (λk=>k<w'.heap.size) w' v r:=⟨h.i1,h.i2,h.i3,h.i4,h.lb,O7 h.ct hb⟩
end Go.PF
namespace Go.Proofs.YtoleahhfkpkcjaaGreatDoor
open Go.Proofs.Tryz
open Go.PF Go.RowKit Go.Ord
attribute [local irreducible] TW CW KW DW
def Cop {α:Type} (T:Ty α) (F:Nat->Prop) (w w':World) (e:TypeId) (x:Value) (l:List α):Prop:=ZT w w'/\ ∃ps:List (List Value×α),ps.map (·.2)=l/\(∀p∈ps,T.rep F w p.1 p.2)/\OwnS w' e T.n x l.length (ps.flatMap (·.1))/\ ∀g,x.ownBlock=some g->w.heap.size<=g
theorem BM:Ty.One eT:=λ_ _ _ _ h u a=>by rw [h.1] at a; simp at a; subst a; rfl
theorem Pn:Ty.One yh:=λ_ _ _ _ h u a=>by rw [h.1] at a; simp at a; rcases a with rfl|rfl|rfl<;>rfl
theorem P4:Ty.One KO:=λ_ _ _ _ h u a=>by rw [h.1] at a; simp [JK] at a; rcases a with rfl|rfl|rfl|rfl|rfl|rfl<;>rfl
theorem NJ:Ty.One yB:=λ_ _ _ _ h u a=>by rw [h.1] at a; simp [Ki] at a; rcases a with rfl|rfl|rfl<;>rfl
theorem NL:Ty.One calT:=λ_ _ _ _ ⟨e,f,h,_,⟨A,c,b,_⟩,⟨B,g,d,_⟩⟩ u a=>by rw [h] at a; simp at a; rcases a with rfl|rfl|rfl<;>first|rfl|(rw [b]; rfl)|(rw [d]; rfl)
theorem PT:Ty.One ofT:=λ_ _ _ _ ⟨d,h,_,_,_,_,_,_,⟨A,c,b,_⟩⟩ u a=>by rw [h] at a; simp at a; rcases a with rfl|rfl|rfl|rfl|rfl|rfl|rfl<;>first|rfl|(rw [b]; rfl)
theorem Cop.sl {T:Ty α} {e:TypeId} {x:Value} {l:List α} (o:0<T.n) (q: ∀F G w w' d y,T.rep F w d y->T.rep G w' d y) (h:Cop T F w w' e x l) (hl:l.length<=1000000):ZT w w'/\SL T (λk=>w.heap.size<=k/\k<w'.heap.size) w' x l:=by
 obtain ⟨f,a,rfl,i,b,j⟩:=h;refine ⟨f,?_⟩;have:=eB (F:=λk=>w.heap.size<=k/\k<w'.heap.size) a (λp m=>q _ _ _ _ _ _ (i p m)) o (by simpa using b) rfl (λg c=>⟨j g c,b.lt c⟩) (by simp at hl; omega);exact this
theorem nQ {l:List ByteArray} (hl:SL eT F w v l) (hs:l.length<=1000000):Gives prog 74 #[v] w λx y=>Cop eT F w y 9 x l:=by
 obtain ⟨A,z,rfl,_⟩:=hl.form;obtain ⟨o,B,r,C,D⟩:=hl.flat ZL;refine gv func74 ntmps74 ?_;refine aB ?_;refine aK rfl (λd=> ?_) (λi=> ?_)
 .refine aB ?_;have E:l= []:=by
   cases l with
   | nil=>rfl
   | cons a l =>
    obtain ⟨s,rfl⟩:=hl.addr ZM;cases d
  subst E;refine aO rfl ⟨ZA,[],rfl,(λp G=>by cases G),OwnS.nil _ _ _,λg H=>(by simp [Value.ownBlock] at H)⟩
 .refine aB ?_;refine bL 9 rfl rfl yx ?_;rintro g I b;refine aB ?_;have J:OwnS I 9 1 (.slice (some ⟨g,0,none⟩) 0 0) 0 []:=aU b.blk rfl ZL;refine aT (o.flatMap (·.1)) rfl rfl Dl rfl J rfl C (λj u K=>by
   obtain ⟨s,L,t⟩:=D j u K;exact ⟨s,L,(b.below.cell (block_lt_of_cell t)).trans t⟩) (iH BM r) ZJ ZJ ?_
  rintro N M e k m;refine aB ?_;have n:=b.below.grown k b.below.size (λq c=>by simp [Value.ownBlock] at c; have:=b.at_; omega);refine aO rfl ⟨n,o,B,r,by rw [Nat.zero_add,List.nil_append] at e; exact e,λq c=> ?_⟩;rcases m with h|h
  .rw [h] at c; simp [Value.ownBlock] at c; have:=b.at_; omega
  .rw [h] at c; cases c; exact b.below.size
theorem GA {l:List Bool} (hl:SL boolT F w v l) (hs:l.length<=1000000):Gives prog 96 #[v] w λx y=>Cop boolT F w y 4 x l:=by
 obtain ⟨A,z,rfl,_⟩:=hl.form;obtain ⟨o,B,r,C,D⟩:=hl.flat ZL;refine gv func96 ntmps96 ?_;refine aB ?_;refine aK rfl (λd=> ?_) (λi=> ?_)
 .refine aB ?_;have E:l= []:=by
   cases l with
   | nil=>rfl
   | cons a l =>
    obtain ⟨s,rfl⟩:=hl.addr ZM;cases d
  subst E;refine aO rfl ⟨ZA,[],rfl,(λp G=>by cases G),OwnS.nil _ _ _,λg H=>(by simp [Value.ownBlock] at H)⟩
 .refine aB ?_;refine bL 4 rfl rfl Rn ?_;rintro g I b;refine aB ?_;have J:OwnS I 4 1 (.slice (some ⟨g,0,none⟩) 0 0) 0 []:=aU b.blk rfl ZL;refine aT (o.flatMap (·.1)) rfl rfl MZ rfl J rfl C (λj u K=>by
   obtain ⟨s,L,t⟩:=D j u K;exact ⟨s,L,(b.below.cell (block_lt_of_cell t)).trans t⟩) (iH Kl r) ZJ ZJ ?_
  rintro N M e k m;refine aB ?_;have n:=b.below.grown k b.below.size (λq c=>by simp [Value.ownBlock] at c; have:=b.at_; omega);refine aO rfl ⟨n,o,B,r,by rw [Nat.zero_add,List.nil_append] at e; exact e,λq c=> ?_⟩;rcases m with h|h
  .rw [h] at c; simp [Value.ownBlock] at c; have:=b.at_; omega
  .rw [h] at c; cases c; exact b.below.size
theorem Gx (hl:SL aS F w v l) (hs:l.length<=1000000):Gives prog 97 #[v] w λx y=>Cop aS F w y 3 x l:=by
 obtain ⟨A,z,rfl,_⟩:=hl.form;obtain ⟨o,B,r,C,D⟩:=hl.flat ZL;refine gv func97 ntmps97 ?_;refine aB ?_;refine aK rfl (λd=> ?_) (λi=> ?_)
 .refine aB ?_;have E:l= []:=by
   cases l with
   | nil=>rfl
   | cons a l =>
    obtain ⟨s,rfl⟩:=hl.addr ZM;cases d
  subst E;refine aO rfl ⟨ZA,[],rfl,(λp G=>by cases G),OwnS.nil _ _ _,λg H=>(by simp [Value.ownBlock] at H)⟩
 .refine aB ?_;refine bL 3 rfl rfl kC ?_;rintro g I b;refine aB ?_;have J:OwnS I 3 1 (.slice (some ⟨g,0,none⟩) 0 0) 0 []:=aU b.blk rfl ZL;refine aT (o.flatMap (·.1)) rfl rfl ji rfl J rfl C (λj u K=>by
   obtain ⟨s,L,t⟩:=D j u K;exact ⟨s,L,(b.below.cell (block_lt_of_cell t)).trans t⟩) (iH MU r) ZJ ZJ ?_
  rintro N M e k m;refine aB ?_;have n:=b.below.grown k b.below.size (λq c=>by simp [Value.ownBlock] at c; have:=b.at_; omega);refine aO rfl ⟨n,o,B,r,by rw [Nat.zero_add,List.nil_append] at e; exact e,λq c=> ?_⟩;rcases m with h|h
  .rw [h] at c; simp [Value.ownBlock] at c; have:=b.at_; omega
  .rw [h] at c; cases c; exact b.below.size
theorem Gu {l:List ByteArray} (hl:SL eT F w v l) (hs:l.length<=1000000):Gives prog 98 #[v] w λx y=>Cop eT F w y 153 x l:=by
 obtain ⟨A,z,rfl,_⟩:=hl.form;obtain ⟨o,B,r,C,D⟩:=hl.flat ZL;refine gv func98 ntmps98 ?_;refine aB ?_;refine aK rfl (λd=> ?_) (λi=> ?_)
 .refine aB ?_;have E:l= []:=by
   cases l with
   | nil=>rfl
   | cons a l =>
    obtain ⟨s,rfl⟩:=hl.addr ZM;cases d
  subst E;refine aO rfl ⟨ZA,[],rfl,(λp G=>by cases G),OwnS.nil _ _ _,λg H=>(by simp [Value.ownBlock] at H)⟩
 .refine aB ?_;refine bL 153 rfl rfl Vd ?_;rintro g I b;refine aB ?_;have J:OwnS I 153 1 (.slice (some ⟨g,0,none⟩) 0 0) 0 []:=aU b.blk rfl ZL;refine aT (o.flatMap (·.1)) rfl rfl Xf rfl J rfl C (λj u K=>by
   obtain ⟨s,L,t⟩:=D j u K;exact ⟨s,L,(b.below.cell (block_lt_of_cell t)).trans t⟩) (iH BM r) ZJ ZJ ?_
  rintro N M e k m;refine aB ?_;have n:=b.below.grown k b.below.size (λq c=>by simp [Value.ownBlock] at c; have:=b.at_; omega);refine aO rfl ⟨n,o,B,r,by rw [Nat.zero_add,List.nil_append] at e; exact e,λq c=> ?_⟩;rcases m with h|h
  .rw [h] at c; simp [Value.ownBlock] at c; have:=b.at_; omega
  .rw [h] at c; cases c; exact b.below.size
theorem Gt {l:List Sc} (hl:SL yh F w v l) (hs:l.length<=1000000):Gives prog 44 #[v] w λx y=>Cop yh F w y 74 x l:=by
 obtain ⟨A,z,rfl,_⟩:=hl.form;obtain ⟨o,B,r,C,D⟩:=hl.flat ZL;refine gv func44 ntmps44 ?_;refine aB ?_;refine aK rfl (λd=> ?_) (λi=> ?_)
 .refine aB ?_;have E:l= []:=by
   cases l with
   | nil=>rfl
   | cons a l =>
    obtain ⟨s,rfl⟩:=hl.addr ZM;cases d
  subst E;refine aO rfl ⟨ZA,[],rfl,(λp G=>by cases G),OwnS.nil _ _ _,λg H=>(by simp [Value.ownBlock] at H)⟩
 .refine aB ?_;refine bL 74 rfl rfl U8 ?_;rintro g I b;refine aB ?_;have J:OwnS I 74 3 (.slice (some ⟨g,0,none⟩) 0 0) 0 []:=aU b.blk rfl ZL;refine aT (o.flatMap (·.1)) rfl rfl WZ rfl J rfl C (λj u K=>by
   obtain ⟨s,L,t⟩:=D j u K;exact ⟨s,L,(b.below.cell (block_lt_of_cell t)).trans t⟩) (iH Pn r) ZJ ZJ ?_
  rintro N M e k m;refine aB ?_;have n:=b.below.grown k b.below.size (λq c=>by simp [Value.ownBlock] at c; have:=b.at_; omega);refine aO rfl ⟨n,o,B,r,by rw [Nat.zero_add,List.nil_append] at e; exact e,λq c=> ?_⟩;rcases m with h|h
  .rw [h] at c; simp [Value.ownBlock] at c; have:=b.at_; omega
  .rw [h] at c; cases c; exact b.below.size
theorem Gz {l:List Cal} (hl:SL calT F w v l) (hs:l.length<=1000000):Gives prog 95 #[v] w λx y=>Cop calT F w y 151 x l:=by
 obtain ⟨A,z,rfl,_⟩:=hl.form;obtain ⟨o,B,r,C,D⟩:=hl.flat ZL;refine gv func95 ntmps95 ?_;refine aB ?_;refine aK rfl (λd=> ?_) (λi=> ?_)
 .refine aB ?_;have E:l= []:=by
   cases l with
   | nil=>rfl
   | cons a l =>
    obtain ⟨s,rfl⟩:=hl.addr ZM;cases d
  subst E;refine aO rfl ⟨ZA,[],rfl,(λp G=>by cases G),OwnS.nil _ _ _,λg H=>(by simp [Value.ownBlock] at H)⟩
 .refine aB ?_;refine bL 151 rfl rfl Vf ?_;rintro g I b;refine aB ?_;have J:OwnS I 151 3 (.slice (some ⟨g,0,none⟩) 0 0) 0 []:=aU b.blk rfl ZL;refine aT (o.flatMap (·.1)) rfl rfl Xg rfl J rfl C (λj u K=>by
   obtain ⟨s,L,t⟩:=D j u K;exact ⟨s,L,(b.below.cell (block_lt_of_cell t)).trans t⟩) (iH NL r) ZJ ZJ ?_
  rintro N M e k m;refine aB ?_;have n:=b.below.grown k b.below.size (λq c=>by simp [Value.ownBlock] at c; have:=b.at_; omega);refine aO rfl ⟨n,o,B,r,by rw [Nat.zero_add,List.nil_append] at e; exact e,λq c=> ?_⟩;rcases m with h|h
  .rw [h] at c; simp [Value.ownBlock] at c; have:=b.at_; omega
  .rw [h] at c; cases c; exact b.below.size
theorem Gv {l:List Of} (hl:SL ofT F w v l) (hs:l.length<=1000000):Gives prog 99 #[v] w λx y=>Cop ofT F w y 155 x l:=by
 obtain ⟨A,z,rfl,_⟩:=hl.form;obtain ⟨o,B,r,C,D⟩:=hl.flat ZL;refine gv func99 ntmps99 ?_;refine aB ?_;refine aK rfl (λd=> ?_) (λi=> ?_)
 .refine aB ?_;have E:l= []:=by
   cases l with
   | nil=>rfl
   | cons a l =>
    obtain ⟨s,rfl⟩:=hl.addr ZM;cases d
  subst E;refine aO rfl ⟨ZA,[],rfl,(λp G=>by cases G),OwnS.nil _ _ _,λg H=>(by simp [Value.ownBlock] at H)⟩
 .refine aB ?_;refine bL 155 rfl rfl Vb ?_;rintro g I b;refine aB ?_;have J:OwnS I 155 7 (.slice (some ⟨g,0,none⟩) 0 0) 0 []:=aU b.blk rfl ZL;refine aT (o.flatMap (·.1)) rfl rfl Xe rfl J rfl C (λj u K=>by
   obtain ⟨s,L,t⟩:=D j u K;exact ⟨s,L,(b.below.cell (block_lt_of_cell t)).trans t⟩) (iH PT r) ZJ ZJ ?_
  rintro N M e k m;refine aB ?_;have n:=b.below.grown k b.below.size (λq c=>by simp [Value.ownBlock] at c; have:=b.at_; omega);refine aO rfl ⟨n,o,B,r,by rw [Nat.zero_add,List.nil_append] at e; exact e,λq c=> ?_⟩;rcases m with h|h
  .rw [h] at c; simp [Value.ownBlock] at c; have:=b.at_; omega
  .rw [h] at c; cases c; exact b.below.size
theorem Gw {l:List Li} (hl:SL KO F w v l) (hs:l.length<=1000000):Gives prog 100 #[v] w λx y=>Cop KO F w y 157 x l:=by
 obtain ⟨A,z,rfl,_⟩:=hl.form;obtain ⟨o,B,r,C,D⟩:=hl.flat ZL;refine gv func100 ntmps100 ?_;refine aB ?_;refine aK rfl (λd=> ?_) (λi=> ?_)
 .refine aB ?_;have E:l= []:=by
   cases l with
   | nil=>rfl
   | cons a l =>
    obtain ⟨s,rfl⟩:=hl.addr ZM;cases d
  subst E;refine aO rfl ⟨ZA,[],rfl,(λp G=>by cases G),OwnS.nil _ _ _,λg H=>(by simp [Value.ownBlock] at H)⟩
 .refine aB ?_;refine bL 157 rfl rfl Va ?_;rintro g I b;refine aB ?_;have J:OwnS I 157 6 (.slice (some ⟨g,0,none⟩) 0 0) 0 []:=aU b.blk rfl ZL;refine aT (o.flatMap (·.1)) rfl rfl Xd rfl J rfl C (λj u K=>by
   obtain ⟨s,L,t⟩:=D j u K;exact ⟨s,L,(b.below.cell (block_lt_of_cell t)).trans t⟩) (iH P4 r) ZJ ZJ ?_
  rintro N M e k m;refine aB ?_;have n:=b.below.grown k b.below.size (λq c=>by simp [Value.ownBlock] at c; have:=b.at_; omega);refine aO rfl ⟨n,o,B,r,by rw [Nat.zero_add,List.nil_append] at e; exact e,λq c=> ?_⟩;rcases m with h|h
  .rw [h] at c; simp [Value.ownBlock] at c; have:=b.at_; omega
  .rw [h] at c; cases c; exact b.below.size
theorem Gy {l:List Cla} (hl:SL yB F w v l) (hs:l.length<=1000000):Gives prog 101 #[v] w λx y=>Cop yB F w y 159 x l:=by
 obtain ⟨A,z,rfl,_⟩:=hl.form;obtain ⟨o,B,r,C,D⟩:=hl.flat ZL;refine gv func101 ntmps101 ?_;refine aB ?_;refine aK rfl (λd=> ?_) (λi=> ?_)
 .refine aB ?_;have E:l= []:=by
   cases l with
   | nil=>rfl
   | cons a l =>
    obtain ⟨s,rfl⟩:=hl.addr ZM;cases d
  subst E;refine aO rfl ⟨ZA,[],rfl,(λp G=>by cases G),OwnS.nil _ _ _,λg H=>(by simp [Value.ownBlock] at H)⟩
 .refine aB ?_;refine bL 159 rfl rfl U9 ?_;rintro g I b;refine aB ?_;have J:OwnS I 159 3 (.slice (some ⟨g,0,none⟩) 0 0) 0 []:=aU b.blk rfl ZL;refine aT (o.flatMap (·.1)) rfl rfl Xc rfl J rfl C (λj u K=>by
   obtain ⟨s,L,t⟩:=D j u K;exact ⟨s,L,(b.below.cell (block_lt_of_cell t)).trans t⟩) (iH NJ r) ZJ ZJ ?_
  rintro N M e k m;refine aB ?_;have n:=b.below.grown k b.below.size (λq c=>by simp [Value.ownBlock] at c; have:=b.at_; omega);refine aO rfl ⟨n,o,B,r,by rw [Nat.zero_add,List.nil_append] at e; exact e,λq c=> ?_⟩;rcases m with h|h
  .rw [h] at c; simp [Value.ownBlock] at c; have:=b.at_; omega
  .rw [h] at c; cases c; exact b.below.size
theorem uy {r:Rc} (h:RcOK F w v r) (hs:r.cont.length<=1000000) :
  Gives prog 54 #[.agg (iq r v).toArray] w λx m=>ZT w m/\ ∃A,x= .agg (iq r A).toArray/\RcOK (λk=>w.heap.size<=k/\k<m.heap.size) m A r:=by
 refine gv func54 ntmps54 ?_;refine aB ?_;refine bS rfl rfl rfl rfl ?_;rintro g1 w1 j;refine gq rfl rfl BC ?_;rintro M B d;refine aB ?_;have C:=j.below.step d.below;have g:=j.blk.next d.below;refine aG rfl (g.fld rfl) ?_;refine aN rfl (nQ (h.ct.below C) hs) ?_;rintro x n N;obtain ⟨l,D⟩:=N.sl ZL (λ_ _ _ _ _ _ h=>h) hs;obtain ⟨Y,E,rfl,_⟩:=D.form;have o:=g.next l;have p:=d.blk.next l;have G:=C.step l;have s1:=j.at_;have s2:=d.at_;have z1:=j.size;have z2:=d.size;refine aB ?_;refine mq rfl is23.q rfl rfl o (by show 5<6; decide) rfl ?_;rintro s t a H;refine aB ?_;refine fP rfl (λ_ _ O=>t.fld O) ?_;have u:=But.blk a p ZJ;refine gI rfl rfl rfl u is57.q rfl rfl rfl ?_;rintro I y i J;refine aB ?_;have K:=G.grown a G.size (λq z=>by cases z; omega);have S:=K.grown i K.size (λq z=>by cases z; omega);have U:Kept (λk=>B.heap.size<=k/\k<n.heap.size) n s:= .of_blocks λb W c=>a.block b c (λe=>by cases e; omega);have Z:Kept (λk=>B.heap.size<=k/\k<n.heap.size) s I:= .of_blocks λb W c=>i.block b c (λe=>by cases e; omega);refine Ca results54 underlying57 (by exact is57.q) rfl (y) (⟨S,_,rfl,h.i1,h.i2,h.i3,h.i4,h.lb,((D.mono U).mono Z).wider λk hk=>⟨ZJ,ZJ⟩⟩)
end Go.Proofs.YtoleahhfkpkcjaaGreatDoor
namespace Go.PF
open Go.RowKit
section
theorem vC {p:Program} {at_:Addr} {u:TypeId} {k:Addr} {b:Bool} (h:w.viewStore p at_ u k v b= .ok r):r.1.drawn=w.drawn:=by
 unfold World.viewStore at h;simp only [bind,Except.bind,pure,Except.pure] at h
 repeat' split at h
 all_goals first
  | (cases h; done)
  | (simp only [Except.ok.injEq] at h; subst h; rfl)
  | (simp at h; done)
theorem xq {p:Program} {a:Addr} {b:Bool} (h:w.farStore p a v b= .ok r):r.1.drawn=w.drawn:=by
 unfold World.farStore at h
 split at h
 .split at h
  .rename_i c;simp only [Except.ok.injEq] at h;subst h;exact vC c
  .cases h
 .cases h
theorem Kr (x:Ask α): ∀w:World,w.drawn<=(w.ask x).2.drawn:=by
 induction x with
 | done a=>intro w; exact ZC
 | ask c b k d =>
  intro w;unfold World.ask;dsimp only
  split
  .exact d _ w
  .exact Nat.le_trans (Nat.le_succ _) (d _ {w with drawn:=w.drawn+1})
theorem IZ (w:World) (c:Sys):w.drawn<=(w.sys c).2.drawn:=by
 unfold World.sys;have h:=Kr (Kernel.perform c w.os) w
 split
 .exact ZC
 .rename_i r d e b a;rw [a] at h;exact h
theorem Jb {p:Program} (s:Sem α): ∀ {w d:World} {v:α},s.run p w= .ok v d->w.drawn<=d.drawn:=by
 induction s with
 | pure a=>intro w d v h; simp at h; rw [h.2]; exact ZC
 | load m a k b =>
  intro w d v h;unfold Sem.run at h
  split at h
  .exact b _ h
  .split at h
   .exact b _ h
   .cases h
 | store m a u k b =>
  intro w d v h
  cases u with
  | agg c=>simp [Sem.run] at h
  | tuple c=>simp [Sem.run] at h
  | _ =>
   simp only [Sem.run] at h
   split at h
   .split at h
    .cases h
    .have e:=b h;exact e
   .split at h
    .rename_i g;have f:=xq g;have e:=b h;dsimp only at f;omega
    .cases h
 | new o k b=>intro w d v h; exact b _ (w:= {w with heap:=w.heap.push o}) h
 | shape r k b=>intro w d v h; exact b _ h
 | freeze a n k b =>
  intro w d v h;have f:=b h;have e:(w.freeze a n).drawn=w.drawn:=by unfold World.freeze; split<;>rfl
  omega
 | frozen a k b=>intro w d v h; exact b _ h
 | getObj r k b =>
  intro w d v h;unfold Sem.run at h
  split at h
  .cases h
  .exact b _ h
  .cases h
 | setObj r o k b =>
  intro w d v h;unfold Sem.run at h
  split at h
  .cases h
  .exact b (w:= {w with heap:=w.heap.setIfInBounds r o}) h
  .cases h
 | choose q k b =>
  intro w d v h;unfold Sem.run at h
  split at h
  .exact b _ h
  .exact Nat.le_trans (Nat.le_succ _) (b _ h)
 | sys c k b =>
  intro w d v h
  exact Nat.le_trans (IZ w c) (b _ h)
 | program k b=>intro w d v h; exact b _ h
 | mark m k b=>intro w d v h; exact b h
 | halt h=>intro w d v h; simp at h
structure BelD (w w':World):Prop where
 b:ZT w w'
 d:w.drawn<=w'.drawn
theorem BelD.refl (w:World):BelD w w:=⟨ZA,ZC⟩
theorem BelD.trans {a b c:World} (h:BelD a b) (e:BelD b c):BelD a c:=⟨h.b.step e.b,Nat.le_trans h.d e.d⟩
section
variable {P:Program} {r:Option Nat} {Q:Exit->Act->World->Prop} {N:Nat} {ds:List Deferred} {ops rest:List Oper} {E:Env} {w:World}
variable {d:Option Tmp} {ty:TypeId} {pos:String} {af:Array Edge} {gu:Option (Nat×Bool)} {x:Operand}
theorem xO (e:TypeId) {sz len:Nat} {parts:Array (Nat×Operand)} (xs:List Operand) {vs cs:List Value} (l:gu=none) (m:aC N d=true) (hp:parts.toList=number xs) (he:cB P t e sz=true) (n:Args N ds E none xs vs) (hl:len=vs.length)
  (o:vs.all (λv=>Nat.beq v.cells.size sz)=true) (h:Nat.ble (vs.length*sz) 16777216=true) (b:Nat.blt 0 vs.length=true) (i:vs.flatMap (λv=>v.cells.toList)=cs)
  (next: ∀g f,Fresh w f g e cs->BelD w f->TW P r Q N ds ops rest (ins E d none (.slice (some ⟨g,0,none⟩) len len)) f):TW P r Q N ds ops (⟨d,.buildSlice t len parts,ty,pos,af,gu⟩::rest) E w:=by
 subst hl;have c:=λv j=>Nat.eq_of_beq_eq_true (List.all_eq_true.1 o v j);refine ek l m rfl (λa k=>fK hp rfl he (n a k trivial) c (Nat.le_of_ble_eq_true h) (blt_iff.1 b)) ?_;rw [i];exact next _ _ (gD w e cs) ⟨ii _ _,ZC⟩
theorem GR {e:TypeId} {sz bytes m c:Nat} {s:Operand} {xs:List Value} (news:List Value) (y:gu=none) (z:aC N d=true) (B:bZ P t e sz bytes=true)
  (hs:ev E s=some (none,v)) (g:OwnS w e sz v n xs) (C:ev E x=some (none,.slice A m c)) (hl:news.length=m*sz) (hn: ∀j u,news[j]?=some u-> ∃l,A=some l/\w.cell? (l.add j)=some u) (h1: ∀u∈news,u.oneCell'=true)
  (hb:(n+m)*bytes<=140737488355328) (h:1<=bytes)
  (next: ∀b f,OwnS f e sz b (n+m) (xs++news)->w.grownBy f v.ownBlock->(b.ownBlock=v.ownBlock\/b.ownBlock=some w.heap.size)->w.drawn<=f.drawn->TW P r Q N ds ops rest (ins E d none b) f) :
  TW P r Q N ds ops (⟨d,.call ⟨.builtin .append,#[s,x],#[t,t]⟩,ty,pos,af,gu⟩::rest) E w:=by
 obtain ⟨b,f,i,o,p,q⟩:=lJ (ty:=ty) (c:=c) B g hl hn h1 hb h;refine ek y z rfl (λa k=> ?_) (next b f o p q (Jb _ i));simp only [execOp,resolve,Go.invoke,Go.builtin,Sem.run_bind,Sem.run_pure,Result.andThen_ok,List.map_toArray,List.map_cons,List.map_nil,k.eval hs trivial,k.eval C trivial,i]
theorem Bq {vx:Value} {cs:List Value} (e:gu=none) (f:aC N d=true) (h:ev E x=some (none,vx)) (i:vx.cells=cs.toArray)
  (next: ∀g b,Fresh w b g t cs->BelD w b->TW P r Q N ds ops rest (ins E d none (.pointer (some ⟨g,0,none⟩))) b):TW P r Q N ds ops (⟨d,.box t x,ty,pos,af,gu⟩::rest) E w :=
 ek e f rfl (λa c=>by
  simp only [execOp]; rw [c.eval h trivial,<-i]; rfl) (next _ _ (gD w t cs) ⟨ii _ _,ZC⟩)
end
section
variable {P:Program} {N:Nat} {ds:List Deferred} {ops rest:List Oper} {D:DE} {w:World} {G:Option Bool} {Fin:DE->Prop}
variable {d:Option Tmp} {ty:TypeId} {pos:String} {af:Array Edge} {gu:Option (Nat×Bool)} {x:Operand} {cx:Option Bool}
theorem kX {f:Operand} {cap:List Value} {cf:Option Bool} {xs:List Operand} {es:List Ent} {ts:Array TypeId} (e:Ent) (hm:e.mono) (q:fD ops D gu=some G) (r:aC N d=true) (he:enters P k=true)
  (s:dev D f=some (cf,.ex (.func (.func k) #[] cap.toArray))) (u:aF G->aF cf) (x:PArgs (Oper.looksAt ops.toArray ⟨d,.call ⟨.value f,xs.toArray,ts⟩,ty,pos,af,gu⟩) N ds D G xs es)
  (y:aF G-> ∀c,ZT w c-> ∀l,Sats es l c->Gives P k (l++cap).toArray c λv g=>BelD c g/\e.sat v g)
  (next:DW P N ds .cnt ops w Fin rest (bE D d G e)):DW P N ds .cnt ops w Fin (⟨d,.call ⟨.value f,xs.toArray,ts⟩,ty,pos,af,gu⟩::rest) D :=
 ⟨G,e,⟨q,r,rfl,hm,λh a c m i=> .inr ⟨_,_,lK he (i.eval s ZP (u h)) rfl,
  (y h c m _ (x (λt n=>bB (by simp [Op.operands,Call.operands,n])) a c i h)).mono λv g ⟨j,p⟩=>⟨⟨j.b,j.d⟩,p⟩⟩⟩,next⟩
theorem IM (is:List Nat) (E:Env) (hp:lH D is=some E) (h: ∀b,BelD w b->KW N ds K E b): ∀a b,ZT w b/\w.drawn<=b.drawn->FitD N ds D a b->K a b :=
 λa b c d=>h b ⟨c.1,c.2⟩ a (d.pick hp)
end
end
abbrev SI (w:World) (v:Value) (l:List Int):Prop:=SL aS (λk=>k<w.heap.size) w v l
theorem pM (h:SI w v l) (hb:ZT w w'):SI w' v l:=h.step fV hb
theorem eP {l:List α} {k:Nat} (h:k<l.length): ∃x,l[k]?=some x/\x∈l:=⟨l[k],ZD h,List.getElem_mem h⟩
theorem iK (l:List Int): ∀u∈l.map (Value.int .i64),u.oneCell'=true:=by
 intro u a;obtain ⟨x,_,rfl⟩:=List.mem_map.1 a;rfl
theorem nE (h:SL aS F w v l): ∀x∈l,fF x:=λx a=>by
 obtain ⟨i,b,rfl⟩:=List.getElem_of_mem a;exact h.rngI (ZD b)
theorem vK {c:Nat} (h:SL aS F w (.slice A n c) l): ∀(j:Nat) (u:Value),(l.map (Value.int .i64))[j]?=some u-> ∃a,A=some a/\w.cell? (a.add j)=some u:=by
 intro j u b;simp only [List.getElem?_map] at b;obtain ⟨z,e,rfl⟩:=Option.map_eq_some_iff.1 b;obtain ⟨a,f,d,_⟩:=h.int e;exact ⟨a,f,by rw [Nat.mul_one] at d; exact d⟩
theorem wN {e:TypeId} (h:OwnS w e 1 v l.length (l.map (Value.int .i64))) (b: ∀x∈l,fF x) (hn:l.length<=9223372036854775807):SI w v l:=dO h b (λg a=>h.lt a) hn
theorem SL.getT {cap:Nat} {l:List ByteArray} (h:SL eT F w (.slice (some ad) n cap) l) {x:ByteArray} (d:l[i]?=some x):w.cell? (ad.add ((i:Int).toNat*1))=some (.string x):=by
 obtain ⟨a,e,b,_,⟨rfl,_⟩,c⟩:=h.at d;cases b;have:=c 0 (.string x) rfl;simpa [eT,Addr.add] using this
theorem SL.sizeT {l:List ByteArray} (h:SL eT F w v l): ∀x∈l,x.size<=9223372036854775807:=λx a=>by
 obtain ⟨A,b,_,_,_,c⟩:=h;obtain ⟨i,d,e⟩:=List.getElem_of_mem a;obtain ⟨_,_,_,_,_,f⟩:=c i x (by rw [<-e]; exact ZD d);exact f.2
section
def DEq (D D':DE):Prop:= ∀i,(bR D i=none/\bR D' i=none)\/ ∃c c' e,bR D i=some (c,e)/\bR D' i=some (c',e)/\(aF c↔aF c')
theorem DEq.symm {D D':DE} (h:DEq D D'):DEq D' D:=λi=>by
 rcases h i with ⟨a,b⟩|⟨c,d,e,a,b,f⟩
 .exact .inl ⟨b,a⟩
 .exact .inr ⟨d,c,e,b,a,f.symm⟩
theorem rP {c c':Option Bool} {e:Ent} (a:aF c↔aF c') (h:nD c e u w):nD c' e u w:=⟨λq=>h.1 (a.2 q),λq=>h.2 (λp=>q (a.1 p))⟩
theorem DEq.fitL {N:Nat} {L:List Nat} {a:Act} (h:DEq D D') (f:FitL N ds L D a w):FitL N ds L D' a w :=
 ⟨f.size,f.defers,λi g c e b=>by
  rcases h i with ⟨_,d⟩|⟨j,m,n,k,d,l⟩
  .rw [d] at b; cases b
  .rw [d] at b; cases b;exact rP l (f.slots i g j e k)⟩
theorem DEq.fitD {N:Nat} {a:Act} (h:DEq D D') (f:FitD N ds D a w):FitD N ds D' a w :=
 ⟨f.size,f.defers,λi c e b=>by
  rcases h i with ⟨_,d⟩|⟨g,l,m,j,d,k⟩
  .rw [d] at b; cases b
  .rw [d] at b; cases b;exact rP k (f.slots i g e j)⟩
theorem DEq.gd {ops:List Oper} (h:DEq D D') {g:Option (Nat×Bool)} {G':Option Bool} (hg:fD ops D' g=some G'): ∃G,fD ops D g=some G/\(aF G↔aF G'):=by
 cases g with
 | none=>exact ⟨G',hg,Iff.rfl⟩
 | some p =>
  obtain ⟨j,want⟩:=p;simp only [fD] at hg ⊢
  cases hd:(ops[j]?).bind (·.dst) with
  | none=>rw [hd] at hg; simp at hg
  | some d =>
   rw [hd] at hg;simp only at hg ⊢;rcases h d with ⟨_,h2⟩|⟨c,c',e,h1,h2,h3⟩
   .rw [h2] at hg; simp at hg
   .rw [h2] at hg;rw [h1]
    cases e with
    | pr φ=>rcases c' with _|c'<;>simp at hg
    | own φ S=>rcases c' with _|c'<;>simp at hg
    | ex v =>
     cases v with
     | bool b =>
      rcases c with _|c<;>rcases c' with _|c'<;>simp [aF] at h3<;>cases want<;>simp at hg<;>subst hg<;>simp [h3]
     | _=>rcases c' with _|c'<;>simp at hg
theorem DEq.ins (h:DEq D D') {d:Option Tmp} {G G':Option Bool} (a:aF G↔aF G') (e:Ent):DEq (bE D d G e) (bE D' d G' e):=by
 cases d with
 | none=>exact h
 | some d =>
  intro i;simp only [bE,bR]
  cases Nat.beq d i with
  | true=>exact .inr ⟨G,G',e,rfl,rfl,a⟩
  | false=>exact h i
theorem DEq.drop (h:DEq D D') (s:List Nat):DEq (iy D s) (iy D' s):=λi=>by
 rw [mf,mf]
 split
 .exact .inl ⟨rfl,rfl⟩
 .exact h i
theorem DEq.eat (h:DEq D D') {a:Act} (he:Bt D eats a g):Bt D' eats a g:=by
 obtain ⟨s,c,e,d,b,f,i⟩:=he;rcases h s with ⟨q,_⟩|⟨n,j,o,k,l,m⟩
 .rw [q] at b; cases b
 .rw [k] at b; cases b;exact ⟨s,j,e,d,l,m.1 f,i⟩
theorem DEq.eatW (h:DEq D D') {a:Act} (he:OH D eats a w g):OH D' eats a w g:=by
 obtain ⟨s,c,e,d,b,f,i⟩:=he;rcases h s with ⟨q,_⟩|⟨n,j,o,k,l,m⟩
 .rw [q] at b; cases b
 .rw [k] at b; cases b;exact ⟨s,j,e,d,l,m.1 f,i⟩
theorem QR (h:DEq D D') (b:List Nat) (a:Act):Bt D b a=Bt D' b a:=funext λ_=>propext ⟨h.eat,h.symm.eat⟩
section
variable {P:Program} {N:Nat} {ds:List Deferred} {ops:List Oper} {w:World} {Fin:DE->Prop} {md:Mode}
theorem OM (L: ∀D f,DEq D f->Fin f->Fin D): ∀ {D f:DE},DEq D f->DW P N ds md ops w Fin rest f->DW P N ds md ops w Fin rest D:=by
 induction rest with
 | nil=>intro D f h y; cases md<;>exact L D f h y
 | cons o rest z =>
  intro D f h y
  cases md with
  | weak =>
   obtain ⟨A,e,⟨j,k,l,m,n⟩,p⟩:=y;obtain ⟨G,r,d⟩:=h.gd j
   exact ⟨G,e,⟨r,k,l,m,λt a i u v=>n (d.1 t) a i u (h.fitL v)⟩,z (h.ins d e) p⟩
  | own =>
   obtain ⟨A,e,b,⟨j,k,l,m,n,B,C⟩,p⟩:=y;obtain ⟨G,r,d⟩:=h.gd j;refine ⟨G,e,b,⟨r,k,l,m,n,λs E=> ?_,λt a i u v=> ?_⟩,z ((h.drop b).ins d e) p⟩
   .obtain ⟨c,φ,S,q⟩:=B s E;rcases h s with ⟨_,x⟩|⟨F,I,J,H,x,_⟩
    .rw [x] at q; cases q
    .rw [x] at q; cases q;exact ⟨F,φ,S,H⟩
   .rw [QR h]
    exact C (d.1 t) a i u (h.fitL v)
  | cnt =>
   obtain ⟨A,e,⟨j,k,l,m,n⟩,p⟩:=y;obtain ⟨G,r,d⟩:=h.gd j
   exact ⟨G,e,⟨r,k,l,m,λt a i u v=>n (d.1 t) a i u (h.fitL v)⟩,z (h.ins d e) p⟩
  | free =>
   obtain ⟨A,e,b,⟨j,k,l,m,n,B,C⟩,p⟩:=y;obtain ⟨G,r,d⟩:=h.gd j;refine ⟨G,e,b,⟨r,k,l,m,n,λs E=> ?_,λt a i u v=> ?_⟩,z ((h.drop b).ins d e) p⟩
   .obtain ⟨c,φ,S,q⟩:=B s E;rcases h s with ⟨_,x⟩|⟨F,I,J,H,x,_⟩
    .rw [x] at q; cases q
    .rw [x] at q; cases q;exact ⟨F,φ,S,H⟩
   .have K:OH D b a i=OH f b a i:=funext λg=>propext ⟨h.eatW,h.symm.eatW⟩;rw [K];exact C (d.1 t) a i u (h.fitL v)
def Ij:DE->DE
 | []=> []
 | (i,c,e)::D=>(i,yO c,e)::Ij D
theorem DI: ∀D:DE,DEq D (Ij D)
 | [],i=> .inl ⟨rfl,rfl⟩
 | (j,c,e)::D,i=>by
  simp only [Ij,bR]
  cases Nat.beq j i with
  | true=>exact .inr ⟨c,yO c,e,rfl,rfl,(yN c).symm⟩
  | false=>exact DI D i
theorem vW (h:DW P N ds md ops w (λD=> ∀a b,ZT w b->FitD N ds D a b->K a b) rest (Ij D)):DW P N ds md ops w (λD=> ∀a b,ZT w b->FitD N ds D a b->K a b) rest D :=
 OM (λD g c d a b e f=>d a b e (c.fitD f)) (DI D) h
end
end
end Go.PF
namespace Go.Ord
inductive Chn (l:List Sc) (r:List Rc) (lab:ByteArray):List Nat->ByteArray->Prop
 | nil:Chn l r lab [] lab
 | snoc {c:List Nat} {a:ByteArray} {m:Nat} {x:Rc}:Chn l r lab c a->r[m]?=some x->Val l x->a∈x.cont->m ∉ c->c.length<3->Chn l r lab (c++ [m]) x.label
def dI (c:List Nat):List Int:=insAll [] (c.map λi:Nat=>(i:Int))
theorem jh (c:List Nat):Inc (dI c):=Inc.insAll List.Pairwise.nil
theorem mem_recI:x∈dI c↔ ∃i∈c,(i:Int)=x:=by
 unfold dI;rw [qN];simp
theorem Fp {c':List Nat} (h: ∀i,i∈c↔i∈c'):dI c=dI c':=nM (jh c) (jh c') λx=>by
 rw [mem_recI,mem_recI];constructor
 .rintro ⟨i,a,e⟩; exact ⟨i,(h i).1 a,e⟩
 .rintro ⟨i,a,e⟩; exact ⟨i,(h i).2 a,e⟩
theorem yY (c:List Nat) (i:Nat):dI (c++ [i])=insS (i:Int) (dI c):=by
 unfold dI insAll;simp
theorem oM (h:c.Nodup):(dI c).length=c.length:=by
 have f:=dY (jh c).nodup λx a=>by
  obtain ⟨i,b,e⟩:=mem_recI.1 a;exact List.mem_map.2 ⟨i,b,e⟩
 have g:=dY (List.pairwise_map.2 (h.imp λd e=>d ZJ)) λx a=>by
  obtain ⟨i,b,e⟩:=List.mem_map.1 a;exact mem_recI.2 ⟨i,b,e⟩
 simp at f g;omega
theorem Hy (h:i∈c):dI (c++ [i])=dI c:=Fp λj=>by
 simp;exact λe=>e ▸ h
theorem Chn.nodup {l:List Sc} {r:List Rc} (h:Chn l r lab c a):c.Nodup:=by
 induction h with
 | nil=>exact List.Pairwise.nil
 | snoc i j k m d n f =>
  refine List.pairwise_append.2 ⟨f,List.pairwise_singleton _ _,λx g y b e=> ?_⟩;rw [List.mem_singleton] at b;subst b;subst e;exact d g
theorem Chn.len {l:List Sc} {r:List Rc} (h:Chn l r lab c a):c.length<=3:=by
 cases h with
 | nil=>simp
 | snoc b d e f g i=>simp; omega
theorem Chn.lt {l:List Sc} {r:List Rc} (h:Chn l r lab c a): ∀m∈c,∃x,r[m]?=some x/\Val l x/\x.kind=2:=by
 induction h with
 | nil=>intro m b; cases b
 | snoc i e d f j k g =>
  intro m b;rcases ZH b with h|h
  .exact g m h
  .rw [List.mem_singleton] at h;subst h;exact ⟨_,e,d,d.man f⟩
structure Fol (l:List Sc) (r:List Rc) (lab:ByteArray) (e:Ev):Prop where
 has: ∃c a i x,Chn l r lab c a/\r[i]?=some x/\Val l x/\x.label=a/\e=kz l x (dI (c++ [i]))
theorem Fol.len {l:List Sc} {r:List Rc} {lab:ByteArray} {e:Ev} (h:Fol l r lab e):1<=e.needs.length/\e.needs.length<=4:=by
 obtain ⟨c,a,i,x,b,j,k,m,rfl⟩:=h.has;have n:=b.len;show 1<=(dI (c++ [i])).length/\(dI (c++ [i])).length<=4;by_cases d:i∈c
 .rw [Hy d,oM b.nodup];have:=List.length_pos_of_mem d;omega
 .rw [oM (List.pairwise_append.2 ⟨b.nodup,List.pairwise_singleton _ _,λx g y f e=>by rw [List.mem_singleton] at f; subst f; subst e; exact d g⟩)];simp;omega
theorem Fol.size {l:List Sc} {r:List Rc} (h:Chn l r lab c a) (i:Nat):(dI (c++ [i])).length=if i∈c then c.length else c.length+1:=by
 by_cases b:i∈c
 .rw [if_pos b,Hy b,oM h.nodup]
 .rw [if_neg b,oM (List.pairwise_append.2 ⟨h.nodup,List.pairwise_singleton _ _,λx f y d e=>by rw [List.mem_singleton] at d; subst d; subst e; exact b f⟩)];simp
theorem Chn.det {l:List Sc} {r:List Rc} (h:Chn l r lab c a) (f:Chn l r lab c b):a=b:=by
 cases h with
 | nil =>
  generalize d:([]:List Nat)=c at f
  cases f with
  | nil=>rfl
  | snoc=>exact absurd d.symm ZM
 | @snoc c0 j m x k i n o p q =>
  generalize d:c0++ [m]=c at f
  cases f with
  | nil=>simp at d
  | @snoc c1 s t u v g w y z A =>
   have:=List.append_inj' d rfl;obtain ⟨_,e⟩:=this;simp at e;subst e;rw [i] at g;cases g;rfl
theorem Chn.pre {l:List Sc} {r:List Rc} (h:Chn l r lab c b): ∀d f,c=d++f-> ∃a,Chn l r lab d a:=by
  induction h with
  | nil => intro d f e; have : d = [] := by cases d with | nil => rfl | cons x d => simp at e
           subst this; exact ⟨_,.nil⟩
  | @snoc c0 s m x g i j k n o p =>
    intro d f e;rcases List.eq_nil_or_concat f with rfl|⟨q,y,rfl⟩
    . rw [List.append_nil] at e
      subst e;exact ⟨_,g.snoc i j k n o⟩
    . rw [List.concat_eq_append,<-List.append_assoc] at e
      exact p d q (List.append_inj' e rfl).1
theorem Chn.last {l:List Sc} {r:List Rc} {m:Nat} (h:Chn l r lab (c++ [m]) b): ∃a x,Chn l r lab c a/\r[m]?=some x/\Val l x/\a∈x.cont/\m ∉ c/\c.length<3/\x.label=b:=by
 generalize d:c++ [m]=c' at h
 cases h with
 | nil=>simp at d
 | @snoc c1 o p q f g i j k n =>
  obtain ⟨rfl,e⟩:=List.append_inj' d rfl;simp at e;subst e;exact ⟨_,_,f,g,i,j,k,n,rfl⟩
def Ext (l:List Sc) (r:List Rc) (lab:ByteArray) (c:List Nat) (e:Ev):Prop:= ∃c' b i x,Chn l r lab (c++c') b/\r[i]?=some x/\Val l x/\x.label=b/\e=kz l x (dI (c++c'++ [i]))
theorem Dw {l:List Sc} {r:List Rc} (h:Chn l r lab c a) (e:Ev):Ext l r lab c e↔(∃i x,r[i]?=some x/\Val l x/\x.label=a/\e=kz l x (dI (c++ [i])))\/ ∃m x,r[m]?=some x/\Val l x/\a∈x.cont/\m ∉ c/\c.length<3/\Ext l r lab (c++ [m]) e:=by
 constructor
 .rintro ⟨d,b,i,x,g,j,k,n,f⟩
  cases d with
  | nil =>
   rw [List.append_nil] at g f;have:=h.det g;subst this
   exact .inl ⟨i,x,j,k,n,f⟩
  | cons m d =>
   right;have o:c++m::d=(c++ [m])++d:=ZM;rw [o] at g f;obtain ⟨z,p⟩:=g.pre _ _ rfl;obtain ⟨A,y,w,q,s,t,u,v,B⟩:=p.last;have:=h.det w;subst this;exact ⟨m,y,q,s,t,u,v,d,b,i,x,g,j,k,n,f⟩
 .rintro (⟨i,x,j,k,n,f⟩|⟨m,y,q,s,t,u,v,d,b,i,x,g,j,k,n,f⟩)
  .exact ⟨[],a,i,x,by simpa using h,j,k,n,by simpa using f⟩
  .have o:c++m::d=(c++ [m])++d:=ZM;exact ⟨m::d,b,i,x,by rw [o]; exact g,j,k,n,by rw [o]; exact f⟩
theorem fol_iff {l:List Sc} {r:List Rc}:Fol l r lab e↔Ext l r lab [] e:=by
 constructor
 .rintro ⟨c,a,i,x,b,d,f,g,h⟩;exact ⟨c,a,i,x,b,d,f,g,h⟩
 .rintro ⟨c,a,i,x,b,d,f,g,h⟩;exact ⟨c,a,i,x,b,d,f,g,h⟩
theorem Ext.len {l:List Sc} {r:List Rc} {lab:ByteArray} {c:List Nat} {e:Ev} (h:Ext l r lab c e):c.length<=e.needs.length/\e.needs.length<=4:=by
 obtain ⟨a,b,i,x,d,j,k,m,rfl⟩:=h;show c.length<=(dI (c++a++ [i])).length/\(dI (c++a++ [i])).length<=4;have f:=Fol.size d i;have g:=d.len;simp at g;rw [f]
 split
 .simp; omega
 .simp; omega
theorem ext_size {l:List Sc} {r:List Rc} (h:Chn l r lab c a) (hn:c.length<=min n 3) (e:Ev):(Ext l r lab c e/\e.needs.length=n) ↔
  (n<=c.length+1/\ ∃i x,r[i]?=some x/\Val l x/\x.label=a/\(i∈c↔c.length=n)/\e=kz l x (dI (c++ [i])))\/(c.length≠min n 3/\ ∃m x,r[m]?=some x/\Val l x/\a∈x.cont/\m ∉ c/\Ext l r lab (c++ [m]) e/\e.needs.length=n):=by
 rw [Dw h];constructor
 .rintro ⟨⟨i,x,f,g,j,rfl⟩|⟨m,x,p,q,s,t,y,k⟩,o⟩
  .left;have v:=Fol.size h i;have b:(dI (c++ [i])).length=n:=o;rw [v] at b;by_cases d:i∈c
   .rw [if_pos d] at b;exact ⟨ZJ,i,x,f,g,j,⟨λ_=>b,λ_=>d⟩,rfl⟩
   .rw [if_neg d] at b;exact ⟨ZJ,i,x,f,g,j,⟨λh=>absurd h d,λh=>ZJ⟩,rfl⟩
  .right;have:=k.len.1;simp at this;exact ⟨ZJ,m,x,p,q,s,t,k,o⟩
 .rintro (⟨w,i,x,f,g,j,u,rfl⟩|⟨w,m,x,p,q,s,t,k,o⟩)
  .refine ⟨.inl ⟨i,x,f,g,j,rfl⟩,?_⟩;show (dI (c++ [i])).length=n;rw [Fol.size h i];by_cases d:i∈c
   .rw [if_pos d]; exact u.1 d
   .rw [if_neg d];have:c.length≠n:=λe=>d (u.2 e);omega
  .exact ⟨.inr ⟨m,x,p,q,s,t,ZJ,k⟩,o⟩
end Go.Ord
namespace Go.Proofs.YtoleahhfkpkcjaaGreatDoor
open Go.Proofs.Tryz
open Go.PF Go.RowKit Go.Ord
attribute [local irreducible] TW CW KW DW
theorem Ia:Gives prog 274 #[ZU x] w λu a=>a=w/\u= .bool false:=by
 refine gv func274 ntmps274 ?_;refine aB ?_;refine aO rfl ⟨rfl,ZM⟩
def jP (a b:Int):Int:=if a<b then -1 else if b<a then 1 else 0
theorem compare_e {a b:Int}:Gives prog 191 #[ZU a,ZU b] w λu i=>i=w/\u= ZU (jP a b):=by
 refine gv func191 ntmps191 ?_;refine aB ?_;refine aN rfl (Ia) ?_;rintro y k ⟨rfl,rfl⟩;refine aB ?_;refine aN rfl (Ia) ?_;rintro y l ⟨rfl,rfl⟩;refine aB ?_;refine aK rfl (λd=> ?_) (λj=> ?_)
 .cases d
 refine aB ?_;refine aK rfl (λd=> ?_) (λj=> ?_)
 .cases d
 refine aB ?_;refine aI rfl (λe=> ?_) (λc=> ?_)
 .refine aB ?_;refine aO rfl ⟨rfl,by unfold jP; rw [if_pos e]⟩
 refine aB ?_;refine aI rfl (λg=> ?_) (λh=> ?_)
 .refine aB ?_;refine aO rfl ⟨rfl,by unfold jP; rw [if_neg c,if_pos g]⟩
 refine aB ?_;refine aO rfl ⟨rfl,by unfold jP; rw [if_neg c,if_neg h]⟩
theorem kT: ∀ {a b:List Int} {k:Nat},a.take k=b.take k->cmpL a b=cmpL (a.drop k) (b.drop k)
 | a,b,0,_=>rfl
 | [],[],k+1,_=>by simp
 | [],y::b,k+1,h=>by simp at h
 | x::a,[],k+1,h=>by simp at h
 | x::a,y::b,k+1,h=>by
  simp at h;obtain ⟨rfl,h⟩:=h;simp only [List.drop_succ_cons];rw [<-kT h];simp [cmpL]
theorem EX {a b:List Int} (p:SL aS F w u a) (hb:SL aS G w v b) :
  Gives prog 244 #[u,v] w λx L=>L=w/\x= ZU (cmpL a b):=by
 obtain ⟨A,j,rfl,_⟩:=p.form;obtain ⟨B,m,rfl,_⟩:=hb.form;have H:=p.len.2.2;refine gv func244 ntmps244 ?_;refine aB ?_;refine bT (λk:Nat=> [(0,none,.slice A a.length j),(1,none,.slice B b.length m),(9,none,.slice A a.length j),(10,none,ZU (a.length:Int)),(11,none,ZU (k:Int))])
  (λk W=>k<=a.length/\k<=b.length/\a.take k=b.take k/\W=w) (λk=>a.length-k) 0 [0,1,9,10,11] ⟨ZJ,ZJ,ZM,rfl⟩ rfl ?_
 rintro k W ⟨Z,M,c,rfl⟩;refine aB ?_;refine aI rfl (λN=> ?_) (λO=> ?_)
 .obtain ⟨x,q,R⟩:=eP (l:=a) (k:=k) ZJ;obtain ⟨ad,rfl⟩:=p.addr ZJ;obtain ⟨r,s⟩:=ZE q;have d:a.drop k=x::a.drop (k+1):=by rw [<-s,<-List.drop_eq_getElem_cons r]
  refine aB ?_;refine aG rfl (p.getI q) ?_;refine aB ?_;refine dC [0,1,5,6,9,10,11,19] rfl ?_;refine aI rfl (λI=> ?_) (λS=> ?_)
  .refine aB ?_;refine aO rfl ⟨rfl,?_⟩;rw [kT c,d,List.drop_of_length_le (l:=b) ZJ];rfl
  obtain ⟨y,n,t⟩:=eP (l:=b) (k:=k) ZJ;obtain ⟨bd,rfl⟩:=hb.addr ZJ;obtain ⟨e,g⟩:=ZE n;have h:b.drop k=y::b.drop (k+1):=by rw [<-g,<-List.drop_eq_getElem_cons e]
  refine aB ?_;refine aG rfl (hb.getI n) ?_;refine aB ?_;refine aN rfl (compare_e) ?_;rintro z w1 ⟨rfl,rfl⟩;refine aB ?_;refine aI rfl (λi=> ?_) (λC=> ?_)
  .refine aB ?_;refine aO rfl ⟨rfl,?_⟩;rw [kT c,d,h];unfold jP at i ⊢;unfold cmpL
   split
   .rfl
   .split
    .rfl
    .rename_i U Y;rw [if_neg U,if_neg Y] at i;exact absurd rfl i
  .have D:x=y:=by
    have o:jP x y=0:=by
     apply Classical.byContradiction;exact C
    unfold jP at o
    split at o
    .cases o
    .split at o
     .cases o
     .omega
   refine aB ?_;refine bH (k+1) [0,1,9,10,11] rfl ⟨ZJ,ZJ,?_,rfl⟩ ZJ;rw [ZG,ZG,q,n,c,D]
 .have E:k=a.length:=ZJ;subst E;rw [List.take_length] at c;have d:a.drop a.length= []:=List.drop_length;refine aB ?_;refine aI rfl (λJ=> ?_) (λK=> ?_)
  .obtain ⟨y,n,t⟩:=eP (l:=b) (k:=a.length) ZJ;obtain ⟨e,g⟩:=ZE n;have h:b.drop a.length=y::b.drop (a.length+1):=by rw [<-g,<-List.drop_eq_getElem_cons e]
   refine aB ?_;refine aO rfl ⟨rfl,?_⟩;rw [kT (k:=a.length) (by rw [List.take_length]; exact c),d,h];rfl
  .refine aB ?_;refine aO rfl ⟨rfl,?_⟩;rw [kT (k:=a.length) (by rw [List.take_length]; exact c),d,List.drop_of_length_le (l:=b) ZJ];rfl
def l8 (e:Ev) (v:Value):List Value:= [ZU e.office,ZU e.low,ZU e.high,v]
structure EvOK (F:Nat->Prop) (w:World) (v:Value) (e:Ev):Prop where
 i1:fF e.office
 i2:fF e.low
 i3:fF e.high
 nd:SL aS F w v e.needs
theorem EvOK.step (h:EvOK (λk=>k<w.heap.size) w v e) (hb:ZT w w'):EvOK (λk=>k<w'.heap.size) w' v e:=⟨h.i1,h.i2,h.i3,pM h.nd hb⟩
theorem EvOK.below {F:Nat->Prop} {w w':World} {v:Value} {e:Ev} (h:EvOK F w v e) (hb:ZT w w'):EvOK F w' v e:=⟨h.i1,h.i2,h.i3,h.nd.below hb⟩
theorem ML (h:EvOK F w v e) (hn:e.needs.length<=1000000) :
  Gives prog 152 #[.agg (l8 e v).toArray] w λx j=>BelD w j/\OwnS j 3 1 x (dE e).length ((dE e).map (Value.int .i64))/\SI j x (dE e):=by
 obtain ⟨A,t,rfl,_⟩:=h.nd.form;have u:=nE h.nd;have r:=h.nd.len.2.2;refine gv func152 ntmps152 ?_;refine aB ?_;refine Bq rfl rfl rfl rfl ?_;rintro G H a y;refine aB ?_;have c:=a.blk;have k:=h.nd.below a.below;refine aG rfl (c.fld rfl) ?_;refine aB ?_;refine aG rfl (c.fld rfl) ?_;refine aB ?_;refine aG rfl (c.fld rfl) ?_;refine aB ?_;refine aG rfl (c.fld rfl) ?_;refine xO 3 _ rfl rfl rfl kC (aA rfl ct (aA rfl ct (aA rfl ct (aA rfl ct aJ)))) rfl rfl rfl rfl rfl ?_;rintro I J b z;refine aB ?_;have l:=k.below b.below;refine aG rfl ((c.next b.below).fld rfl) ?_;refine GR (e.needs.map (Value.int .i64)) rfl rfl ji rfl (aU (n:=4) b.blk rfl ZJ) rfl ZM (vK l) (iK _) ZJ ZJ ?_;rintro B s C m D o;refine aB ?_;have p:ZT w s:=(a.below.step b.below).grown m (a.below.step b.below).size (λq E=>by simp [Value.ownBlock] at E; have:=a.at_; have:=b.at_; have:=a.size; omega);have g:OwnS s 3 1 B (dE e).length ((dE e).map (Value.int .i64)):=by
  have:(dE e).length=4+e.needs.length:=by simp [dE]; omega
  rw [this];exact C
 refine aO rfl ⟨⟨p,Nat.le_trans y.d (Nat.le_trans z.d o)⟩,g,wN g (λx i=> ?_) (by simp [dE]; omega)⟩;unfold dE at i;simp only [List.mem_cons] at i;rcases i with rfl|rfl|rfl|rfl|i
 .exact ⟨by show (-9223372036854775808:Int)<=_; omega,by show _<=(9223372036854775807:Int); omega⟩
 .exact h.i1
 .exact h.i2
 .exact h.i3
 .exact u x i
theorem I7 (he:EvOK F w v e) (D:EvOK G w u f) (s:e.needs.length<=1000000) (t:f.needs.length<=1000000) (N:Blk w g 215 [.func (.func 152) #[] #[]]) :
  Gives prog 243 #[.agg (l8 e v).toArray,.agg (l8 f u).toArray,.pointer (some ⟨g,0,none⟩)] w λx j=>BelD w j/\x= ZU (jO e f):=by
 obtain ⟨A,E,rfl,_⟩:=he.nd.form;obtain ⟨B,y,rfl,_⟩:=D.nd.form;refine gv func243 ntmps243 ?_;refine aB ?_;refine Bq rfl rfl rfl rfl ?_;rintro O R H I;refine Bq rfl rfl rfl rfl ?_;rintro S U z J;have a:=I.trans J;have o:=he.below a.b;have p:=D.below a.b;have k:=N.next a.b;have l:=H.blk.next z.below;refine aB ?_;refine EF mixed ZK ?_;refine dF rfl (k.cell 0) ?_;refine jY rfl (λ_ _ q=>l.fld q) ?_;refine kX (.pr λx W=>SI W x (dE e)) (λ_ _ _ r h=>pM h r) rfl rfl Rs rfl ct (bC rfl ct eO) (λ_ j c C m=> ?_) ?_
 .obtain ⟨_,rfl,rfl⟩:=Sats.one m;exact (ML (o.below c) s).mono λx n ⟨d,_,i⟩=>⟨d,i⟩
 refine dF rfl (k.cell 0) ?_;refine jY rfl (λ_ _ q=>z.blk.fld q) ?_;refine kX (.pr λx W=>SI W x (dE f)) (λ_ _ _ r h=>pM h r) rfl rfl Rs rfl ct (bC rfl ct eO) (λ_ j c C m=> ?_) ?_
 .obtain ⟨_,rfl,rfl⟩:=Sats.one m;exact (ML (p.below c) t).mono λx n ⟨d,_,i⟩=>⟨d,i⟩
 refine kX (.ex (ZU (jO e f))) (trivial) rfl rfl Vq rfl ct (bC rfl ct (bC rfl ct eO)) (λ_ j c C m=> ?_) ?_
 .obtain ⟨K,L,rfl,d,i⟩:=Sats.two m;have d:SI j K (dE e):=d;have i:SI j L (dE f):=i;exact (EX d i).mono λx n ⟨d,i⟩=>⟨d ▸ BelD.refl _,i⟩
 refine bM eQ rfl ⟨ct,trivial⟩ (λ_=>trivial) ?_;refine gJ (IM [0,1,2,3,4,5] [(0,_,_),(1,_,_),(2,_,_),(3,_,_),(4,_,_),(5,_,_)] rfl (λY M=>aL ?_));refine pJ ?_;refine aO rfl ⟨a.trans M,rfl⟩
end Go.Proofs.YtoleahhfkpkcjaaGreatDoor
namespace Go.Ord
theorem Fol.facts {l:List Sc} {r:List Rc} (h:Fol l r lab e):Inc e.needs/\(∀n∈e.needs,∃(i:Nat) (x:Rc),n=(i:Int)/\r[i]?=some x/\Val l x)/\(∃(i:Nat) (x:Rc),(i:Int)∈e.needs/\r[i]?=some x/\e=kz l x e.needs)/\ ∀n,e.needs= [n]-> ∃(i:Nat) (x:Rc),n=(i:Int)/\r[i]?=some x/\(x.label=lab\/x.kind=2):=by
 obtain ⟨c,a,i,x,p,g,s,t,rfl⟩:=h.has;have u: ∀n,n∈dI (c++ [i])-> ∃(j:Nat) (y:Rc),n=(j:Int)/\r[j]?=some y/\Val l y:=λn k=>by
  obtain ⟨j,b,rfl⟩:=mem_recI.1 k;rcases ZH b with b|b
  .obtain ⟨y,o,v,_⟩:=p.lt j b;exact ⟨j,y,rfl,o,v⟩
  .rw [List.mem_singleton] at b;subst b;exact ⟨j,x,rfl,g,s⟩
 refine ⟨jh _,u,⟨i,x,mem_recI.2 ⟨i,ZM,rfl⟩,g,rfl⟩,λn k=> ?_⟩;have w:(i:Int)=n:=by
  have d:(i:Int)∈(kz l x (dI (c++ [i]))).needs:=mem_recI.2 ⟨i,ZM,rfl⟩;rw [k] at d;exact List.mem_singleton.1 d
 refine ⟨i,x,w.symm,g,?_⟩;by_cases q:c= []
 .subst q;have:=p.det .nil;rw [t,this];exact .inl rfl
 .obtain ⟨m,f⟩:=List.exists_mem_of_ne_nil c q;have d:(m:Int)∈(kz l x (dI (c++ [i]))).needs:=mem_recI.2 ⟨m,by simp [f],rfl⟩;rw [k] at d;have A:=List.mem_singleton.1 d;have:m=i:=ZJ;subst this;obtain ⟨y,o,_,z⟩:=p.lt m f;rw [g] at o;cases o;exact .inr z
theorem SrtE.filter {l:List Ev} (p:Ev->Bool) (h:SrtE l):SrtE (l.filter p):=List.Pairwise.sublist List.filter_sublist h
def WE (n:Nat) (l:List Int):List Int:=(l.map λk=>(n:Int)-1-k).reverse
def XM (n:Nat) (e:Ev):Ev:=⟨e.office,e.low,e.high,WE n e.needs⟩
theorem Chn.up {l:List Sc} {r s:List Rc} (h:Chn l r lab c a):Chn l (r++s) lab c a:=by
 induction h with
 | nil=>exact .nil
 | @snoc c0 j m x k b d e f g i=>exact i.snoc (by rw [List.getElem?_append_left (ZE b).1]; exact b) d e f g
def XP (n:Nat) (e:Ev):Ev:=if (n:Int)∈e.needs then e else ⟨e.office,e.low,e.high,e.needs++ [(n:Int)]⟩
section
structure Emb (φ:Nat->Nat) (r r':List Rc):Prop where
 mono: ∀i j,i<j->φ i<φ j
 at_: ∀i,r'[φ i]?=r[i]?
theorem CG (h: ∀i j,i<j->φ i<φ j) {j:Nat} (e:φ i=φ j):i=j:=by
 rcases Nat.lt_trichotomy i j with q|q|q
 .have:=h _ _ q; omega
 .exact q
 .have:=h _ _ q; omega
def dS (φ:Nat->Nat) (l:List Int):List Int:=l.map λn=>((φ n.toNat:Nat):Int)
def iR (φ:Nat->Nat) (e:Ev):Ev:=⟨e.office,e.low,e.high,dS φ e.needs⟩
theorem mem_renI:x∈dS φ l↔ ∃n∈l,((φ n.toNat:Nat):Int)=x:=List.mem_map
theorem Ce (h: ∀i j,i<j->φ i<φ j) (hl:Inc l) (c: ∀n∈l,0<=n):Inc (dS φ l):=by
 unfold dS Inc;rw [List.pairwise_map];refine List.Pairwise.imp_of_mem (λ{a b} d e f=> ?_) hl;have:=c a d;have:=h a.toNat b.toNat ZJ;omega
theorem LQ (h: ∀i j,i<j->φ i<φ j) (c: ∀n∈l,0<=n) (f:0<=x):((φ x.toNat:Nat):Int)∈dS φ l↔x∈l:=by
 rw [mem_renI];constructor
 .rintro ⟨n,a,e⟩;have d:=CG h (i:=n.toNat) (j:=x.toNat) ZJ;have:=c n a;have:n=x:=ZJ;rw [<-this]; exact a
 .exact λb=>⟨x,b,rfl⟩
variable {φ:Nat->Nat} {l:List Sc} {r r':List Rc} {lab:ByteArray}
theorem Chn.emb (h:Emb φ r r') (o:Chn l r lab c a):Chn l r' lab (c.map φ) a:=by
 induction o with
 | nil=>exact .nil
 | snoc p d f g i j m =>
  rw [List.map_append];refine .snoc m ((h.at_ _).trans d) f g (λn=> ?_) (by simpa using j);obtain ⟨k,b,e⟩:=List.mem_map.1 n;rw [CG h.mono e] at b;exact i b
theorem Chn.unemb (h:Emb φ r r') {c':List Nat} (u:Chn l r' lab c' a): ∀c:List Nat,c.map φ=c'->Chn l r lab c a:=by
 induction u with
 | nil =>
  intro c e;rw [List.map_eq_nil_iff.1 e]
  exact .nil
 | @snoc c0 v m x w f g i j n o =>
  intro c e;obtain ⟨p,d,rfl,q,b⟩:=List.map_eq_append_iff.1 e;obtain ⟨k,rfl,s⟩: ∃k,d= [k]/\φ k=m:=by
   cases d with
   | nil=>simp at b
   | cons k d =>
    simp at b;exact ⟨k,by rw [b.2],b.1⟩
  subst s q;exact .snoc (o p rfl) ((h.at_ k).symm.trans f) g i (λt=>j (List.mem_map_of_mem t)) (by simpa using n)
theorem Cj: ∀n∈dI c,0<=n:=λn a=>by
 obtain ⟨i,_,e⟩:=mem_recI.1 a;omega
theorem Ck (h: ∀i j,i<j->φ i<φ j) (c:List Nat):dI (c.map φ)=dS φ (dI c):=nM (jh _) (Ce h (jh _) Cj) λx=>by
 rw [mem_recI,mem_renI];constructor
 .rintro ⟨i,b,e⟩;obtain ⟨k,a,rfl⟩:=List.mem_map.1 b;exact ⟨(k:Int),mem_recI.2 ⟨k,a,rfl⟩,e⟩
 .rintro ⟨n,d,e⟩;obtain ⟨k,a,rfl⟩:=mem_recI.1 d;exact ⟨φ k,List.mem_map_of_mem a,e⟩
theorem Fol.pos (h:Fol l r lab e): ∀n∈e.needs,0<=n:=λn b=>by
 obtain ⟨c,a,i,x,d,f,g,j,rfl⟩:=h.has;exact Cj n b
theorem Ih (h:Emb φ r r') {e':Ev}:(Fol l r' lab e'/\ ∀n∈e'.needs,∃i:Nat,n=((φ i:Nat):Int))↔ ∃e,Fol l r lab e/\e'=iR φ e:=by
 constructor
 .rintro ⟨⟨b,a,u,x,g,o,p,q,rfl⟩,s⟩;have f: ∀j∈b++ [u],∃i,φ i=j:=λj d=>by
   obtain ⟨i,v⟩:=s (j:Int) (mem_recI.2 ⟨j,d,rfl⟩);exact ⟨i,ZJ⟩
  have t: ∀b:List Nat,(∀j∈b,∃i,φ i=j)-> ∃c:List Nat,c.map φ=b:=by
   intro b
   induction b with
   | nil=>exact λ_=>⟨[],rfl⟩
   | cons j b w =>
    intro d;obtain ⟨i,v⟩:=d j ZM;obtain ⟨c,y⟩:=w λk z=>d k (by simp [z]);exact ⟨i::c,by rw [List.map_cons,v,y]⟩
  obtain ⟨c,rfl⟩:=t b λj d=>f j (by simp [d]);obtain ⟨i,rfl⟩:=f u ZM;refine ⟨kz l x (dI (c++ [i])),⟨c,a,i,x,g.unemb h c rfl,(h.at_ i).symm.trans o,p,q,rfl⟩,?_⟩;have:c.map φ++ [φ i]=(c++ [i]).map φ:=ZM;rw [this,Ck h.mono];rfl
 .rintro ⟨e,⟨c,a,i,x,g,o,p,q,rfl⟩,rfl⟩;refine ⟨⟨c.map φ,a,φ i,x,g.emb h,(h.at_ i).trans o,p,q,?_⟩,λn A=> ?_⟩
  .have:c.map φ++ [φ i]=(c++ [i]).map φ:=ZM;rw [this,Ck h.mono];rfl
  .obtain ⟨m,B,e⟩:=mem_renI.1 A;exact ⟨m.toNat,e.symm⟩
theorem DZ (h: ∀i j,i<j->φ i<φ j): ∀ {a b:List Int},(∀n∈a,0<=n)->(∀n∈b,0<=n)->cmpL (dS φ a) (dS φ b)=cmpL a b
 | [],[],_,_=>rfl
 | [],_::_,_,_=>rfl
 | _::_,[],_,_=>rfl
 | x::a,y::b,d,e=>by
  have g:=d x ZM;have k:=e y ZM;have f:=DZ h (a:=a) (b:=b) (λn c=>d n (by simp [c])) (λn c=>e n (by simp [c]));show (if ((φ x.toNat:Nat):Int)<((φ y.toNat:Nat):Int) then (-1:Int) else if ((φ y.toNat:Nat):Int)<((φ x.toNat:Nat):Int) then 1 else cmpL (dS φ a) (dS φ b))=if x<y then -1 else if y<x then 1 else cmpL a b
  rw [f];rcases Int.lt_trichotomy x y with q|q|q
  .have:=h x.toNat y.toNat ZJ;rw [if_pos ZJ,if_pos q]
  .subst q;rw [if_neg ZJ,if_neg ZJ,if_neg ZJ,if_neg ZJ]
  .have:=h y.toNat x.toNat ZJ;rw [if_neg ZJ,if_pos ZJ,if_neg ZJ,if_pos q]
theorem PX (h: ∀i j,i<j->φ i<φ j) (he: ∀n∈e.needs,0<=n) (b: ∀n∈f.needs,0<=n):tV (iR φ e) (iR φ f)↔tV e f:=by
 have:jO (iR φ e) (iR φ f)=jO e f:=by
  show cmpL (((dS φ e.needs).length:Int)::e.office::e.low::e.high::dS φ e.needs) (((dS φ f.needs).length:Int)::f.office::f.low::f.high::dS φ f.needs)=cmpL ((e.needs.length:Int)::e.office::e.low::e.high::e.needs) ((f.needs.length:Int)::f.office::f.low::f.high::f.needs);have a: ∀l:List Int,(dS φ l).length=l.length:=λl=>List.length_map ..;rw [a,a];simp only [cmpL,DZ h he b]
 unfold tV;rw [this]
theorem Pf (h: ∀i j,i<j->φ i<φ j) {k:List Ev} (hs:SrtE k) (d: ∀e∈k,∀n∈e.needs,0<=n):SrtE (k.map (iR φ)):=by
 unfold SrtE;rw [List.pairwise_map];exact List.Pairwise.imp_of_mem (λ{a b} f g c=>(PX h (d a f) (d b g)).2 c) hs
def ky (r:List Rc) (p:Nat) (x:Rc):List Rc:=r.take p++x::r.drop p
def sh (p i:Nat):Nat:=if i<p then i else i+1
theorem Hf (p:Nat): ∀i j,i<j->sh p i<sh p j:=λi j h=>by
 unfold sh
 split<;>split<;>omega
theorem AP {x:Rc} (hp:p<=r.length):Emb (sh p) r (ky r p x):=⟨Hf p,λi=>by
 unfold sh ky
 split
 .rename_i h;rw [List.getElem?_append_left ZO,List.getElem?_take_of_lt h]
 .rw [List.getElem?_append_right ZO,List.length_take,Nat.min_eq_left hp,show i+1-p=(i-p)+1 by omega,List.getElem?_cons_succ,List.getElem?_drop,show p+(i-p)=i by omega]⟩
theorem MW {x:Rc} (hp:p<=r.length):(ky r p x)[p]?=some x:=by
 unfold ky;rw [List.getElem?_append_right ZO,List.length_take,Nat.min_eq_left hp,Nat.sub_self];rfl
theorem JQ {x y:Rc} (hp:p<=r.length) (a:i≠p) (h:(ky r p x)[i]?=some y):y∈r:=by
 rcases ZI i p with q|q
 .have:=(AP (x:=x) hp).at_ i;rw [show sh p i=i by unfold sh; rw [if_pos q],h] at this;exact ZF this.symm
 .have:=(AP (x:=x) hp).at_ (i-1);rw [show sh p (i-1)=i by unfold sh; rw [if_neg ZJ]; omega,h] at this;exact ZF this.symm
theorem Kj {x:Rc} (hp:p<=r.length) (o:Q 0 lab) (q: ∀n a m,n<3->Q n a->m∈r->a∈m.cont->Q (n+1) m.label) (s: ∀n a,Q n a->a ∉ x.cont) (t:Chn l (ky r p x) lab c a):p ∉ c/\Q c.length a:=by
 induction t with
 | nil=>exact ⟨ZM,o⟩
 | @snoc c0 u m y v b w d z i j =>
  obtain ⟨k,f⟩:=j;have g:m≠p:=λe=>by
   subst e;rw [MW hp] at b;cases b;exact s _ _ f d
  refine ⟨λh=> ?_,?_⟩
  .rcases ZH h with h|h
   .exact k h
   .simp at h; exact g h.symm
  .rw [List.length_append];exact q _ _ _ i f (JQ hp g b) d
theorem JV {x:Rc} (hp:p<=r.length) (z:Q 0 lab) (A: ∀n a m,n<3->Q n a->m∈r->a∈m.cont->Q (n+1) m.label) (d: ∀n a,Q n a->a ∉ x.cont/\a≠x.label) (h:Fol l (ky r p x) lab e): ∀n∈e.needs,∃i:Nat,n=((sh p i:Nat):Int):=λn f=>by
 obtain ⟨c,a,i,y,g,b,B,k,rfl⟩:=h.has;obtain ⟨o,s⟩:=Kj hp z A (λn a t=>(d n a t).1) g;have u:i≠p:=λe=>by
  subst e;rw [MW hp] at b;cases b;exact (d _ _ s).2 k.symm
 obtain ⟨j,v,rfl⟩:=mem_recI.1 f;have w:j≠p:=λe=>by
  subst e;rcases ZH v with h|h
  .exact o h
  .simp at h; exact u h.symm
 rcases ZI j p with q|q
 .exact ⟨j,by unfold sh; rw [if_pos q]⟩
 .exact ⟨j-1,by unfold sh; rw [if_neg ZJ]; omega⟩
def Tch (r:List Rc) (x:Rc):Nat->ByteArray->Prop
 | 0,s=>s=x.label\/s∈x.cont
 | n+1,s=>Tch r x n s\/ ∃m∈r,Tch r x n m.label/\s∈m.cont
theorem Tch.zero {x:Rc} {s:ByteArray} (h:Tch r x 0 s): ∀n,Tch r x n s
 | 0=>h
 | n+1=> .inl (Tch.zero h n)
theorem yu {x:Rc} (hp:p<=r.length) (j: ¬Tch r x 3 lab) (h:Fol l (ky r p x) lab e): ∀n∈e.needs,∃i:Nat,n=((sh p i:Nat):Int):=by
 refine JV hp (Q:=λn a=> ¬Tch r x (3-n) a) j (λn a m k b c d f=>b ?_) (λn a b=>⟨λc=>b (Tch.zero (.inr c) _),λg=>b (Tch.zero (.inl g) _)⟩) h;rw [show 3-n=(3-(n+1))+1 by omega];exact .inr ⟨m,c,f,d⟩
end
section
def mG (s:ByteArray):List Int:=s.data.toList.map (λb=>(b.toNat:Int)+1)++ [0]
def ic (s t:ByteArray):Int:=cmpL (mG s) (mG t)
theorem zC: ∀ {x y:List Int},(∀n∈x,1<=n)->(∀n∈y,1<=n)-> ∀a b:List Int,cmpL (x++0::a) (y++0::b)=if cmpL (x++ [0]) (y++ [0])=0 then cmpL a b else cmpL (x++ [0]) (y++ [0])
 | [],[],_,_,a,b=>by simp [cmpL]
 | [],n::y,_,c,a,b=>by
  have:=c n ZM;have h:(0:Int)<n:=ZJ
  simp [cmpL,h]
 | n::x,[],d,_,a,b=>by
  have:=d n ZM;have h:(0:Int)<n:=ZJ;have i: ¬n<0:=ZJ
  simp [cmpL,h,i]
 | n::x,m::y,d,c,a,b=>by
  have j:=zC (x:=x) (y:=y) (λk e=>d k (by simp [e])) (λk e=>c k (by simp [e])) a b;simp only [List.cons_append,cmpL];rw [j];by_cases f:n<m
  .simp [f]
  .by_cases g:m<n
   .simp [f,g]
   .simp [f,g]
theorem sI (s t:ByteArray) (a b:List Int):cmpL (mG s++a) (mG t++b)=if ic s t=0 then cmpL a b else ic s t:=by
 have h: ∀s:ByteArray,∀n∈s.data.toList.map (λb=>(b.toNat:Int)+1),1<=n:=λs n hn=>by
  obtain ⟨b,_,rfl⟩:=List.mem_map.1 hn;omega
 unfold ic mG;rw [List.append_assoc,List.append_assoc];exact zC (h s) (h t) a b
theorem CR {α β:Type} {f:α->β} (c: ∀a b,f a=f b->a=b): ∀ {l m:List α},l.map f=m.map f->l=m
 | [],[],_=>rfl
 | [],_::_,h=>by simp at h
 | _::_,[],h=>by simp at h
 | x::l,y::m,h=>by
  simp only [List.map_cons,List.cons.injEq] at h;rw [c _ _ h.1,CR c h.2]
theorem Ny {s t:ByteArray} (h:mG s=mG t):s=t:=by
 have h1:=List.append_cancel_right h;have h2:s.data.toList=t.data.toList:=by
  refine CR (λa b e=> ?_) h1;have:a.toNat=b.toNat:=ZJ;exact UInt8.toNat_inj.1 this
 cases s; cases t
 congr 1
 exact Array.toList_inj.1 h2
theorem cmpS_eq {s t:ByteArray}:ic s t=0↔s=t:=⟨λh=>Ny (cmpL_eq h),λh=>by rw [h]; exact jN _⟩
theorem sJ: ∀a b:List Int,cmpL a b= -1\/cmpL a b=0\/cmpL a b=1
 | [],[]=> .inr (.inl rfl)
 | [],_::_=> .inl rfl
 | _::_,[]=> .inr (.inr rfl)
 | x::a,y::b=>by
  unfold cmpL
  split
  .exact .inl rfl
  .split
   .exact .inr (.inr rfl)
   .exact sJ a b
theorem C4: ∀x y:List UInt8,Op.bytesLess x y=decide (cmpL (x.map (λb=>(b.toNat:Int)+1)++ [0]) (y.map (λb=>(b.toNat:Int)+1)++ [0])<0)
 | [],[]=>rfl
 | [],b::y=>by
  have:(0:Int)<(b.toNat:Int)+1:=ZJ;simp only [List.map_nil,List.map_cons,List.nil_append,List.cons_append,cmpL,if_pos this]
  rfl
 | a::x,[]=>by
  have c: ¬(a.toNat:Int)+1<0:=ZJ;have d:(0:Int)<(a.toNat:Int)+1:=ZJ;simp only [List.map_nil,List.map_cons,List.nil_append,List.cons_append,cmpL,if_pos d]
  rfl
 | a::x,b::y=>by
  have f:=C4 x y;simp only [Op.bytesLess,List.map_cons,List.cons_append,cmpL];rcases Nat.lt_trichotomy a.toNat b.toNat with h|h|h
  .have c:=UInt8.lt_iff_toNat_lt.2 h;rw [if_pos ZJ];simp [c]
  .have c:=UInt8.toNat_inj.1 h;subst c;rw [if_neg ZJ,if_neg ZJ,f];have: ¬a<a:=λh=>by have:=UInt8.lt_iff_toNat_lt.1 h; omega
   simp
  .have c: ¬a<b:=λg=>by have:=UInt8.lt_iff_toNat_lt.1 g; omega
   have d:a≠b:=λe=>by rw [e] at h; omega
   rw [if_neg ZJ,if_pos ZJ];simp [c,d]
theorem toList_data (s:ByteArray):s.toList=s.data.toList:=Go.Lib.toList_data s
theorem um (s t:ByteArray):Op.bytesLess s.toList t.toList=decide (ic s t<0):=by
 rw [toList_data,toList_data,C4];rfl
def ow:List ByteArray->List ByteArray->Int
 | [],[]=>0
 | [],_::_=> -1
 | _::_,[]=>1
 | s::a,t::b=>if ic s t=0 then ow a b else ic s t
def C8 (r:Rc):List Int:=r.scn::r.num::r.kind::r.time::(mG r.label++((r.cont.length:Int)::r.cont.flatMap mG))
def mI (a b:Rc):Int:=cmpL (C8 a) (C8 b)
def kD (m n:Int):Int:=if m<n then -1 else if n<m then 1 else 0
theorem mV (x y:Int) (a b:List Int):cmpL (x::a) (y::b)=if kD x y=0 then cmpL a b else kD x y:=by
 unfold kD;show (if x<y then (-1:Int) else if y<x then 1 else cmpL a b)=_;by_cases h:x<y
 .simp [h]
 .by_cases c:y<x
  .simp [h,c]
  .simp [h,c]
theorem D3: ∀ {a b:List ByteArray},a.length=b.length->cmpL (a.flatMap mG) (b.flatMap mG)=ow a b
 | [],[],_=>rfl
 | [],_::_,h=>by simp at h
 | _::_,[],h=>by simp at h
 | s::a,t::b,h=>by
  rw [List.flatMap_cons,List.flatMap_cons,sI,D3 (by simpa using h)];rfl
theorem Il (a b:Rc):mI a b=if kD a.scn b.scn≠0 then kD a.scn b.scn else if kD a.num b.num≠0 then kD a.num b.num else if kD a.kind b.kind≠0 then kD a.kind b.kind else if kD a.time b.time≠0 then kD a.time b.time else if ic a.label b.label≠0 then ic a.label b.label else if kD a.cont.length b.cont.length≠0 then kD a.cont.length b.cont.length else ow a.cont b.cont:=by
 unfold mI C8;rw [mV,mV,mV,mV,sI,mV];simp only [ite_not];by_cases h:kD (a.cont.length:Int) (b.cont.length:Int)=0
 .have:a.cont.length=b.cont.length:=by
   unfold kD at h
   split at h
   .omega
   .split at h
    .omega
    .omega
  rw [D3 this]
 .simp only [if_neg h]
theorem Nv: ∀ {a b:List ByteArray},a.length=b.length->a.flatMap mG=b.flatMap mG->a=b:=by
 intro a
 induction a with
 | nil=>intro b h _; exact (List.eq_nil_of_length_eq_zero h.symm).symm
 | cons s a ih =>
  intro b h e
  cases b with
  | nil=>simp at h
  | cons t b =>
   have h0:cmpL ((s::a).flatMap mG) ((t::b).flatMap mG)=0:=by rw [e]; exact jN _
   rw [List.flatMap_cons,List.flatMap_cons,sI] at h0
   split at h0
   .rename_i hs;have hst:=cmpS_eq.1 hs;subst hst;rw [ih (by simpa using h) (List.append_cancel_left e)]
   .rename_i hs; exact absurd h0 hs
theorem cmpR_eq {a b:Rc}:mI a b=0↔a=b:=by
 constructor
 .intro h;have h1:=cmpL_eq h;unfold C8 at h1;simp only [List.cons.injEq] at h1;obtain ⟨e1,e2,e3,e4,e5⟩:=h1;have h0:cmpL (mG a.label++((a.cont.length:Int)::a.cont.flatMap mG)) (mG b.label++((b.cont.length:Int)::b.cont.flatMap mG))=0:=by rw [e5]; exact jN _
  rw [sI] at h0
  split at h0
  .rename_i hs;have hl:=cmpS_eq.1 hs;rw [hl] at e5;have e6:=List.append_cancel_left e5;simp only [List.cons.injEq] at e6;have e7:=Nv ZJ e6.2;cases a; cases b
   simp_all
  .rename_i hs; exact absurd h0 hs
 .rintro rfl;exact jN _
def wT (a b:Rc):Prop:=mI a b<0
theorem nK {a:Rc}: ¬wT a a:=by unfold wT; rw [cmpR_eq.2 rfl]; decide
theorem jJ {a b c:Rc} (h:wT a b) (d:wT b c):wT a c:=lI h d
theorem Au (a b:Rc):wT a b\/a=b\/wT b a:=by
 have c:=sJ (C8 a) (C8 b);have d:mI a b= -mI b a:=pZ _ _;unfold wT;rcases c with h|h|h
 .left; show cmpL (C8 a) (C8 b)<0; omega
 .right; left; exact cmpR_eq.1 h
 .right; right;have:mI a b=1:=h;omega
def mK (l:List Rc):Prop:=l.Pairwise wT
theorem BO: ∀ {a b:List Rc},mK a->mK b->(∀x,x∈a↔x∈b)->a=b
 | [],[],_,_,_=>rfl
 | [],y::b,_,_,h=>by have:=(h y).2 ZM; cases this
 | x::a,[],_,_,h=>by have:=(h x).1 ZM; cases this
 | x::a,y::b,i,j,h=>by
  have c:=List.pairwise_cons.1 i;have d:=List.pairwise_cons.1 j;have e:x=y:=by
   rcases List.mem_cons.1 ((h x).1 ZM) with e|k
   .exact e
   .rcases List.mem_cons.1 ((h y).2 ZM) with e|l
    .exact e.symm
    .exact absurd (jJ (c.1 y l) (d.1 x k)) nK
  subst e;refine congrArg _ (BO c.2 d.2 λz=> ?_);constructor
  .intro g;rcases List.mem_cons.1 ((h z).1 (by simp [g])) with e|f
   .subst e; exact absurd (c.1 z g) nK
   .exact f
  .intro g;rcases List.mem_cons.1 ((h z).2 (by simp [g])) with e|f
   .subst e; exact absurd (d.1 z g) nK
   .exact f
structure PosR (l:List Rc) (x:Rc) (p:Nat):Prop where
 le:p<=l.length
 pre: ∀i y,i<p->l[i]?=some y->wT y x
 at_: ∀y,l[p]?=some y-> ¬wT y x
theorem PosR.uniq {l:List Rc} {x:Rc} {q:Nat} (h:PosR l x p) (b:PosR l x q):p=q:=by
 have a: ∀ {p q:Nat},PosR l x p->PosR l x q-> ¬p<q:=λ{p q} h b c=>by
  have d:p<l.length:=by have:=b.le; omega
  exact h.at_ _ (ZD d) (b.pre p _ c (ZD d))
 have e:=a h b;have f:=a b h;omega
noncomputable def lT (l:List Rc) (x:Rc):Nat:=(l.takeWhile λy=>decide (mI y x<0)).length
theorem j6 (l:List Rc) (x:Rc):PosR l x (lT l x):=by
 unfold lT
 induction l with
 | nil=>exact ⟨ZC,λi y h=>by simp at h,λy h=>by simp at h⟩
 | cons z l c =>
  rw [List.takeWhile_cons]
  split
  .rename_i b;simp only [decide_eq_true_eq] at b;refine ⟨by have:=c.le; simp only [List.length_cons]; omega,λi y d a=> ?_,λy a=>c.at_ y (by simpa using a)⟩
   cases i with
   | zero=>simp at a; subst a; exact b
   | succ i=>exact c.pre i y (by simp at d; exact d) (by simpa using a)
  .rename_i b;exact ⟨ZB,λi y h=>by simp at h,λy a=>by simp at a; subst a; unfold wT; simpa using b⟩
open Classical in
noncomputable def eY (l:List Rc) (x:Rc):List Rc:=if x∈l then l else ky l (lT l x) x
theorem PosR.found {l:List Rc} {x:Rc} (hs:mK l) (h:PosR l x p):x∈l↔l[p]?=some x:=by
 constructor
 .intro e;obtain ⟨i,b⟩:=List.mem_iff_getElem?.1 e;have a:=(ZE b).1;rcases Nat.lt_trichotomy i p with q|q|q
  .exact absurd (h.pre i x q b) nK
  .rw [<-q]; exact b
  .have c:p<l.length:=ZJ;have d:=List.pairwise_iff_getElem.1 hs p i c a q;have f:l[i]=x:=by have:=ZD a; rw [b] at this; simpa using this.symm
   rw [f] at d;exact absurd d (h.at_ _ (ZD c))
 .exact λh=>ZF h
theorem JI {l:List Rc} {x y:Rc}:y∈ky l p x↔y=x\/y∈l:=by
 unfold ky;rw [List.mem_append,List.mem_cons]
 conv=>rhs; rw [<-List.take_append_drop p l,List.mem_append]
 constructor
 .rintro (h|h|h)
  .exact .inr (.inl h)
  .exact .inl h
  .exact .inr (.inr h)
 .rintro (h|h|h)
  .exact .inr (.inl h)
  .exact .inl h
  .exact .inr (.inr h)
theorem mem_insertR {l:List Rc} {x y:Rc}:y∈eY l x↔y=x\/y∈l:=by
 unfold eY
 split
 .rename_i h;exact ⟨λa=> .inr a,λa=>a.elim (λe=>e ▸ h) id⟩
 .exact JI
theorem I4 {l:List Rc} {x:Rc} (hs:mK l) (h:PosR l x p) (s:x ∉ l):mK (ky l p x):=by
 have a: ∀i y,p<=i->l[i]?=some y->wT x y:=λi y b c=>by
  have d:=(ZE c).1;have m:p<l.length:=ZJ;have n: ∀z∈l,z≠x:=λz f e=>s (e ▸ f);have g:wT x l[p]:=by
   rcases Au x l[p] with q|q|q
   .exact q
   .exact absurd q.symm (n _ (List.getElem_mem m))
   .exact absurd q (h.at_ _ (ZD m))
  have o:l[i]=y:=by have:=ZD d; rw [c] at this; simpa using this.symm
  rcases ZI p i with q|q
  .rw [<-o]; exact jJ g (List.pairwise_iff_getElem.1 hs p i m d q)
  .have:i=p:=ZJ;subst this;rw [<-o]; exact g
 unfold mK ky;rw [List.pairwise_append];refine ⟨hs.sublist (List.take_sublist _ _),List.pairwise_cons.2 ⟨λy c=> ?_,hs.sublist (List.drop_sublist _ _)⟩,λy c z f=> ?_⟩
 .obtain ⟨i,b⟩:=List.mem_iff_getElem?.1 c;rw [List.getElem?_drop] at b;exact a _ y ZJ b
 .obtain ⟨i,b⟩:=List.mem_iff_getElem?.1 c;have k:i<p:=by
   have:=(ZE b).1;simp at this;omega
  rw [List.getElem?_take_of_lt k] at b;have g:=h.pre i y k b;rcases List.mem_cons.1 f with rfl|f
  .exact g
  .obtain ⟨j,r⟩:=List.mem_iff_getElem?.1 f;rw [List.getElem?_drop] at r;exact jJ g (a _ z ZJ r)
theorem uI {l:List Rc} {x:Rc} (hs:mK l):mK (eY l x):=by
 unfold eY
 split
 .exact hs
 .rename_i h; exact I4 hs (j6 l x) h
end
end Go.Ord
namespace Go.Proofs.YtoleahhfkpkcjaaGreatDoor
open Go.Proofs.Tryz
open Go.PF Go.RowKit Go.Ord
attribute [local irreducible] TW CW KW DW
theorem Da {x:ByteArray}:Gives prog 275 #[.string x] w λu a=>a=w/\u= .bool false:=by
 refine gw func275 ntmps275 ?_;refine aO rfl ⟨rfl,ZM⟩
theorem xA:Gives prog 197 #[.string a,.string b] w λu w'=>w'=w/\u= ZU (ic a b):=by
 refine gw func197 ntmps197 ?_;refine ce rfl Da ?_;refine ce rfl Da ?_;refine cF rfl ?_;refine cF rfl ?_;have hr:=sJ (mG a) (mG b);rw [um];refine iG rfl (λh=> ?_) λh=> ?_
 .simp only [decide_eq_true_eq] at h;refine aO rfl ⟨rfl,?_⟩;rcases hr with e|e|e
  .exact congrArg _ e.symm
  .have:ic a b=0:=e;omega
  .have:ic a b=1:=e;omega
 simp only [decide_eq_false_iff_not] at h;refine iG rfl (λg=> ?_) λg=> ?_
 .refine aO rfl ⟨rfl,?_⟩;have hne:ic a b≠0:=λe=>by rw [cmpS_eq.1 e] at g; simp at g
  rcases hr with e|e|e
  .have:ic a b= -1:=e;omega
  .exact absurd e hne
  .exact congrArg _ e.symm
 refine aO rfl ⟨rfl,?_⟩;rcases hr with e|e|e
 .have:ic a b= -1:=e;omega
 .exact congrArg _ e.symm
 .have e1:ic a b=1:=e;simp [um,h] at g;have:a=b:=by
   rw [toList_data,toList_data] at g;cases a; cases b
   congr 1
   exact Array.toList_inj.1 g
  rw [cmpS_eq.2 this] at e1;omega
theorem p8: ∀ {a b:List ByteArray} {k:Nat},a.take k=b.take k->ow a b=ow (a.drop k) (b.drop k)
 | a,b,0,_=>rfl
 | [],[],k+1,_=>by simp
 | [],y::b,k+1,h=>by simp at h
 | x::a,[],k+1,h=>by simp at h
 | x::a,y::b,k+1,h=>by
  simp at h;obtain ⟨rfl,h⟩:=h;simp only [List.drop_succ_cons];rw [<-p8 h];simp [ow,cmpS_eq]
theorem BS {a b:List ByteArray} (m:SL eT F w u a) (hb:SL eT G w v b) :
  Gives prog 200 #[u,v] w λx n=>n=w/\x= ZU (ow a b):=by
 obtain ⟨A,o,rfl,_⟩:=m.form;have l:=m.len.2.2;refine gw func200 ntmps200 ?_;refine UR [0,1,9,10] 11 a.length (λk W=>W=w/\k<=b.length/\a.take k=b.take k) ⟨rfl,ZJ,rfl⟩ ?_;rintro k W t-⟨rfl,p,c⟩;refine cd rfl (λq=> ?_) λr=> ?_
 .refine cd rfl (λd=> ?_) λd=> ?_
  .refine aO rfl ⟨rfl,?_⟩;rw [p8 c,List.drop_eq_getElem_cons (i:=k) ZJ,List.drop_eq_nil_of_le (ZJ:b.length<=k)];rfl
  have e:ow a b=if ic a[k] b[k]=0 then ow (a.drop (k+1)) (b.drop (k+1)) else ic a[k] b[k]:=by
   rw [p8 c,List.drop_eq_getElem_cons (i:=k) ZJ,List.drop_eq_getElem_cons (i:=k) ZJ];rfl
  refine ce rfl xA ?_;refine cd rfl (λg=> ?_) λg=> ?_
  .refine aO rfl ⟨rfl,?_⟩;rw [e,if_neg (by simpa using g)]
  refine ou ⟨rfl,ZJ,?_⟩;have s:a[k]=b[k]:=cmpS_eq.1 (by simpa using g);rw [ZG,ZG,c,ZD (show k<a.length by omega),ZD (show k<b.length by omega),s]
 have h:k=a.length:=ZJ;subst h;have e:ow a b=ow [] (b.drop a.length):=by rw [p8 c,List.drop_eq_nil_of_le ZC]
 refine cd rfl (λd=> ?_) λd=> ?_
 .refine aO rfl ⟨rfl,?_⟩;rw [e,List.drop_eq_getElem_cons (i:=a.length) ZJ];rfl
 refine aO rfl ⟨rfl,?_⟩;rw [e,List.drop_eq_nil_of_le ZJ];rfl
theorem sM:Gives prog 189 #[.func (.func k) #[] #[]] w λu c=>ZT w c/\w.drawn<=c.drawn/\ ∃g,u= .agg #[.func (.func 190) #[] #[.pointer (some ⟨g,0,none⟩)]]/\Blk c g 257 [.func (.func k) #[] #[]]:=by
 refine gv func189 ntmps189 ?_;refine aB ?_;refine bS rfl rfl rfl rfl ?_;rintro e l a;refine gq rfl rfl Q0 ?_;rintro m n b;refine aB ?_;refine dN rfl rfl (aA rfl ct aJ) ?_;refine IE rfl ?_;refine tJ rfl rfl rfl b.blk is178.q rfl rfl rfl ?_;rintro o h d p i;refine aB ?_;have r:=b.at_;have s:=a.at_;have t:=a.size;refine Ca results189 underlying178 (by exact is178.q) rfl (h) (⟨(a.below.step b.below).grown d (a.below.step b.below).size λq j=>(by cases j; omega),Nat.le_trans a.drawn (Nat.le_trans b.drawn i),e,rfl,But.blk d (a.blk.next b.below) ZJ⟩)
theorem TH:Gives prog 115 #[] w λu b=>ZT w b/\w.drawn<=b.drawn/\ ∃m n o p r,u= .agg #[.func (.func 190) #[] #[.pointer (some ⟨m,0,none⟩)],.func (.func 190) #[] #[.pointer (some ⟨n,0,none⟩)],.func (.func 190) #[] #[.pointer (some ⟨o,0,none⟩)],.func (.func 190) #[] #[.pointer (some ⟨p,0,none⟩)],.func (.func 196) #[] #[],.func (.func 190) #[] #[.pointer (some ⟨r,0,none⟩)],.func (.func 199) #[] #[]] /\
  Blk b m 257 [.func (.func 192) #[] #[]]/\Blk b n 257 [.func (.func 193) #[] #[]]/\Blk b o 257 [.func (.func 194) #[] #[]]/\Blk b p 257 [.func (.func 195) #[] #[]]/\Blk b r 257 [.func (.func 198) #[] #[]]:=by
 refine gv func115 ntmps115 ?_;refine aB ?_;refine gq rfl rfl Uq ?_;rintro v N s;refine aB ?_;refine fE rfl rfl DF rfl (aA rfl ct aJ) (sM) ?_;rintro O R ⟨z,S,m,rfl,G⟩;refine aB ?_;refine fE rfl rfl DF rfl (aA rfl ct aJ) (sM) ?_;rintro U W ⟨x,Y,n,rfl,H⟩;refine aB ?_;refine fE rfl rfl DF rfl (aA rfl ct aJ) (sM) ?_;rintro Z w3 ⟨t,d3,o,rfl,I⟩;refine aB ?_;refine fE rfl rfl DF rfl (aA rfl ct aJ) (sM) ?_;rintro y4 w4 ⟨j,d4,p,rfl,J⟩;refine IE rfl ?_;refine aB ?_;refine fE rfl rfl DF rfl (aA rfl ct aJ) (sM) ?_;rintro y5 y ⟨i,d5,r,rfl,A⟩;refine IE rfl ?_;refine IE rfl ?_;have k:=((((s.below.step z).step x).step t).step j).step i;have d:=s.blk.next ((((z.step x).step t).step j).step i);have s0:=s.at_;refine tJ rfl rfl rfl d is179.q rfl rfl rfl ?_;rintro K L B hs hd;refine aB ?_;have l: ∀ {g c},Blk y g 257 c->g≠v->Blk K g 257 c:=λh a=>But.blk B h a;have C:=G.next (((x.step t).step j).step i);have D:=H.next ((t.step j).step i);have E:=I.next (j.step i);have F:=J.next i;have a: ∀ {g c},Blk y g 257 c->g≠v:=λh e=>by
  subst e;unfold Blk at h d;rw [d] at h;cases h
 refine Q4 results115 underlying179 is179.q rfl rfl L ⟨k.grown B k.size λq M=>(by cases M; omega),by have:=s.drawn; omega,m,n,o,p,r,rfl,l C (a C),l D (a D),l E (a E),l F (a F),l A (a A)⟩
def Keyed (k:FuncId) (φ:Rc->Int):Prop:= ∀ {w:World} {v:Value} {r:Rc} {F:Nat->Prop},RcOK F w v r->Gives prog k #[.agg (iq r v).toArray] w λu w'=>ZT w w'/\w.drawn<=w'.drawn/\u= ZU (φ r)
theorem Tc:Keyed 192 (·.scn):=by
 intro w v r F h;refine gw func192 ntmps192 ?_;refine nw rfl λg a f=> ?_;exact aO rfl ⟨f.below,f.drawn,rfl⟩
theorem S9:Keyed 193 (·.num):=by
 intro w v r F h;refine gw func193 ntmps193 ?_;refine nw rfl λg a f=> ?_;exact aO rfl ⟨f.below,f.drawn,rfl⟩
theorem S8:Keyed 194 (·.kind):=by
 intro w v r F h;refine gw func194 ntmps194 ?_;refine nw rfl λg a f=> ?_;exact aO rfl ⟨f.below,f.drawn,rfl⟩
theorem S7:Keyed 195 (·.time):=by
 intro w v r F h;refine gw func195 ntmps195 ?_;refine nw rfl λg a f=> ?_;exact aO rfl ⟨f.below,f.drawn,rfl⟩
theorem SX:Keyed 198 (λr=>(r.cont.length:Int)):=by
 intro w v r F h;obtain ⟨A,a,rfl,_⟩:=h.ct.form;refine gw func198 ntmps198 ?_;refine nw rfl λg b f=> ?_;exact aO rfl ⟨f.below,f.drawn,rfl⟩
theorem SY {a b:Rc}:Gives prog 196 #[.agg (iq a u).toArray,.agg (iq b v).toArray] w λx c=>ZT w c/\w.drawn<=c.drawn/\x= ZU (ic a.label b.label):=by
 refine gw func196 ntmps196 ?_;refine nw rfl λg h d=> ?_;refine nw rfl λi j e=> ?_;refine ce rfl xA ?_;exact aO rfl ⟨bK,Nat.le_trans d.drawn e.drawn,rfl⟩
theorem SV {a b:Rc} (g:RcOK F w u a) (hb:RcOK G w v b):Gives prog 199 #[.agg (iq a u).toArray,.agg (iq b v).toArray] w λx c=>ZT w c/\w.drawn<=c.drawn/\x= ZU (ow a.cont b.cont):=by
 refine gw func199 ntmps199 ?_;refine nw rfl λh i d=> ?_;refine nw rfl λj k e=> ?_;have l:=g.ct;have m:=hb.ct;refine ce rfl (BS tr tr) ?_;exact aO rfl ⟨bK,Nat.le_trans d.drawn e.drawn,rfl⟩
theorem P6 {φ:Rc->Int} (he:enters prog k=true) (A:Keyed k φ) {a b:Rc} (D:RcOK F w u a) (hb:RcOK G w v b) (E:Blk w g 257 [.func (.func k) #[] #[]]) :
  Gives prog 190 #[.agg (iq a u).toArray,.agg (iq b v).toArray,.pointer (some ⟨g,0,none⟩)] w λx e=>ZT w e/\w.drawn<=e.drawn/\x= ZU (jP (φ a) (φ b)):=by
 refine gv func190 ntmps190 ?_;refine aB ?_;refine bS rfl rfl rfl rfl ?_;rintro H I p;refine bS rfl rfl rfl rfl ?_;rintro J K i;refine aB ?_;refine EF mixed ZK ?_;have j:=(E.next p.below).next i.below;have q:=p.blk.next i.below;have r:=i.blk;have s:=p.below.step i.below;refine dF rfl (j.cell 0) ?_;refine jY rfl (λ_ _ h=>q.fld h) ?_;refine kX (.ex (ZU (φ a))) (trivial) rfl rfl he rfl ct (bC rfl ct eO) (λ_ e c y l=> ?_) ?_
 .obtain ⟨_,rfl,rfl⟩:=Sats.one l;exact (A ((D.below s).below c)).mono λx m ⟨n,o,t⟩=>⟨⟨n,o⟩,t⟩
 refine dF rfl (j.cell 0) ?_;refine jY rfl (λ_ _ h=>r.fld h) ?_;refine kX (.ex (ZU (φ b))) (trivial) rfl rfl he rfl ct (bC rfl ct eO) (λ_ e c y l=> ?_) ?_
 .obtain ⟨_,rfl,rfl⟩:=Sats.one l;exact (A ((hb.below s).below c)).mono λx m ⟨n,o,t⟩=>⟨⟨n,o⟩,t⟩
 refine kX (.ex (ZU (jP (φ a) (φ b)))) (trivial) rfl rfl Vt rfl ct (bC rfl ct (bC rfl ct eO)) (λ_ e c y l=> ?_) ?_
 .obtain ⟨L,M,rfl,n,o⟩:=Sats.two l;cases n;cases o;exact compare_e.mono λx m ⟨B,C⟩=>⟨B ▸ BelD.refl _,C⟩
 refine bM eQ rfl ⟨ct,trivial⟩ (λ_=>trivial) ?_;refine gJ (IM [0,1,2,3,4,5] [(0,_,_),(1,_,_),(2,_,_),(3,_,_),(4,_,_),(5,_,_)] rfl (λN z=>aL ?_));refine pJ ?_;refine aO rfl ⟨s.step z.b,Nat.le_trans (Nat.le_trans p.drawn i.drawn) z.d,rfl⟩
end Go.Proofs.YtoleahhfkpkcjaaGreatDoor
