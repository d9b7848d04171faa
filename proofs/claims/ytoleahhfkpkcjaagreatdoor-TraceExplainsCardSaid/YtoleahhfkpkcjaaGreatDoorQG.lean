/- Texts of this claim,joined. -/
import Derived.Test.YtoleahhfkpkcjaaGreatDoorQF
import Derived.Lib.Strings
set_option linter.unusedSimpArgs false
set_option linter.unusedVariables false
set_option maxRecDepth 100000
set_option maxHeartbeats 4000000
variable {w w':Go.World} {F G:Nat->Prop} {v u:Go.Value} {c eats:List Nat} {a lab b:ByteArray} {l:List Int} {e f:Go.Ord.Ev} {p i n g:Nat} {φ:Nat->Nat} {Q:Nat->ByteArray->Prop} {K:Go.Act->Go.World->Prop} {D D':Go.PF.DE} {r:Go.World×List Go.Addr} {α:Type} {ds:List Go.Deferred} {A:Option Go.Addr} {k:Go.FuncId} {x:Int} {t:Go.TypeId} {rest:List Go.Oper} {ad:Go.Addr}
namespace Go.PF
open Go.RowKit Go.Ord
def calT:Ty Cal where
 n:=3
 rep:=λF w cs c=> ∃u v,cs= [ZU c.zone,u,v]/\fE c.zone/\SL boolT F w u c.week/\SL aT F w v c.hol
 len:=λ_ _ _ _ h=>by obtain ⟨u,v,h,_⟩:=h; rw [h]; rfl
 mono:=λ_ _ _ _ _ hk h=>by obtain ⟨u,v,h,h1,h2,h3⟩:=h; exact ⟨u,v,h,h1,h2.mono hk,h3.mono hk⟩
 wider:=λ_ _ _ _ _ hF h=>by obtain ⟨u,v,h,h1,h2,h3⟩:=h; exact ⟨u,v,h,h1,h2.wider hF,h3.wider hF⟩
theorem ER:Ty.Now calT:=⟨ZL,λF w d e ⟨u,v,h,a,b,c⟩=>⟨u,v,h,a,b.now Lc,c.now jG⟩⟩
def ofT:Ty Of where
 n:=7
 rep:=λF w cs o=> ∃v,cs= [.string o.name,ZU o.op,ZU o.cal,ZU o.pock,ZU o.pass,ZU o.mins,v]/\o.name.size<=9223372036854775807/\fE o.op/\fE o.cal/\fE o.pock/\fE o.pass/\fE o.mins/\SL eB F w v o.codes
 len:=λ_ _ _ _ h=>by obtain ⟨v,h,_⟩:=h; rw [h]; rfl
 mono:=λ_ _ _ _ _ hk h=>by obtain ⟨v,h,h1,h2,h3,h4,h5,h6,hs⟩:=h; exact ⟨v,h,h1,h2,h3,h4,h5,h6,hs.mono hk⟩
 wider:=λ_ _ _ _ _ hF h=>by obtain ⟨v,h,h1,h2,h3,h4,h5,h6,hs⟩:=h; exact ⟨v,h,h1,h2,h3,h4,h5,h6,hs.wider hF⟩
theorem IF:Ty.Now ofT:=⟨ZL,λF w j e ⟨v,h,a,b,c,d,f,g,i⟩=>⟨v,h,a,b,c,d,f,g,i.now jA⟩⟩
def Ks (l:Li):List Value:= [.string l.name,ZU l.frm,ZU l.to,ZU l.at_,ZU l.trav,ZU l.load]
def LM:Ty Li where
 n:=6
 rep:=λ_ _ cs l=>cs=Ks l/\l.name.size<=9223372036854775807/\fE l.frm/\fE l.to/\fE l.at_/\fE l.trav/\fE l.load
 len:=λ_ _ _ _ h=>by rw [h.1]; rfl
 mono:=λ_ _ _ _ _ _ h=>h
 wider:=λ_ _ _ _ _ _ h=>h
theorem IJ:Ty.Now LM:=⟨ZL,λ_ _ _ _ h=>h⟩
def K6 (l:Cla):List Value:= [.string l.name,ZU l.cut,ZU l.del]
def zl:Ty Cla where
 n:=3
 rep:=λ_ _ cs l=>cs=K6 l/\l.name.size<=9223372036854775807/\fE l.cut/\fE l.del
 len:=λ_ _ _ _ h=>by rw [h.1]; rfl
 mono:=λ_ _ _ _ _ _ h=>h
 wider:=λ_ _ _ _ _ _ h=>h
theorem EO:Ty.Now zl:=⟨ZL,λ_ _ _ _ h=>h⟩
structure NV where
 c:Value
 n:Value
 o:Value
 f:Value
 l:Value
 k:Value
def NV.cells (v:NV):List Value:= [v.c,v.n,v.o,v.f,v.l,v.k]
structure NetIn (F:Nat->Prop) (w:World) (v:NV) (N:Net):Prop where
 c:SL calT F w v.c N.cals
 n:SL eB F w v.n N.names
 o:SL eB F w v.o N.ops
 f:SL ofT F w v.f N.offs
 l:SL LM F w v.l N.lines
 k:SL zl F w v.k N.classes
theorem NetIn.below {F:Nat->Prop} {w w':World} {v:NV} {N:Net} (h:NetIn F w v N) (hb:ZT w w'):NetIn F w' v N:=⟨h.c.below hb,h.n.below hb,h.o.below hb,h.f.below hb,h.l.below hb,h.k.below hb⟩
abbrev ig (w:World) (v:NV) (N:Net):Prop:=NetIn (λk=>k<w.heap.size) w v N
theorem NetIn.now {F:Nat->Prop} {w:World} {v:NV} {N:Net} (h:NetIn F w v N):ig w v N:=⟨h.c.now ER,h.n.now jA,h.o.now jA,h.f.now IF,h.l.now IJ,h.k.now EO⟩
theorem NetIn.wider {F G:Nat->Prop} {w:World} {v:NV} {N:Net} (h:NetIn F w v N) (a: ∀k,F k->G k):NetIn G w v N:=⟨h.c.wider a,h.n.wider a,h.o.wider a,h.f.wider a,h.l.wider a,h.k.wider a⟩
theorem aS {v:NV} {N:Net} (h:ig w v N) (hb:ZT w w'):ig w' v N:=⟨h.c.step ER hb,h.n.step jA hb,h.o.step jA hb,h.f.step IF hb,h.l.step IJ hb,h.k.step EO hb⟩
end Go.PF
namespace Go.Ord
def cmpL:List Int->List Int->Int
 | [],[]=>0
 | [],_::_=> -1
 | _::_,[]=>1
 | x::a,y::b=>if x<y then -1 else if y<x then 1 else cmpL a b
theorem ko: ∀a,cmpL a a=0
 | []=>rfl
 | x::a=>by simp [cmpL,ko a]
theorem cmpL_eq: ∀ {a b},cmpL a b=0->a=b
 | [],[],_=>rfl
 | [],_::_,h=>by simp [cmpL] at h
 | _::_,[],h=>by simp [cmpL] at h
 | x::a,y::b,h=>by
  unfold cmpL at h
  split at h
  .cases h
  .split at h
   .cases h
   .have:x=y:=ZJ;rw [this,cmpL_eq h]
theorem qo: ∀a b,cmpL a b= -cmpL b a
 | [],[]=>rfl
 | [],_::_=>rfl
 | _::_,[]=>rfl
 | x::a,y::b=>by
  unfold cmpL;by_cases h:x<y
  .rw [if_pos h,if_neg ZJ,if_pos h]
  .by_cases c:y<x
   .rw [if_neg h,if_pos c,if_pos c];rfl
   .rw [if_neg h,if_neg c,if_neg c,if_neg h,qo a b]
theorem lS: ∀ {a b c},cmpL a b<0->cmpL b c<0->cmpL a c<0
 | [],[],_,h,_=>by simp [cmpL] at h
 | [],_::_,[],_,h=>by simp [cmpL] at h
 | [],_::_,_::_,_,_=>by simp [cmpL]
 | _::_,[],_,h,_=>by simp [cmpL] at h
 | _::_,_::_,[],_,h=>by simp [cmpL] at h
 | x::a,y::b,z::c,h,d=>by
  unfold cmpL at h d ⊢;by_cases j:x<y
  .by_cases f:y<z
   .rw [if_pos ZJ]; decide
   .rw [if_neg f] at d;by_cases g:z<y
    .rw [if_pos g] at d; exact absurd d ZL
    .rw [if_pos ZJ]; decide
  .rw [if_neg j] at h;by_cases f:y<x
   .rw [if_pos f] at h; exact absurd h ZL
   .rw [if_neg f] at h;have e:x=y:=ZJ;subst e;by_cases g:x<z
    .rw [if_pos g]; decide
    .rw [if_neg g] at d ⊢;by_cases i:z<x
     .rw [if_pos i] at d; exact absurd d ZL
     .rw [if_neg i] at d ⊢;exact lS h d
def dG (e:Ev):List Int:=(e.needs.length:Int)::e.office::e.low::e.high::e.needs
theorem xQ (h:dG e=dG f):e=f:=by
 obtain ⟨l,m,n,o⟩:=f;unfold dG at h;simp only [List.cons.injEq] at h;obtain ⟨_,g,i,j,k⟩:=h;subst g i j k;rfl
def kr (e f:Ev):Int:=cmpL (dG e) (dG f)
def uD (e f:Ev):Prop:=kr e f<0
theorem jX: ¬uD e e:=by unfold uD kr; rw [ko]; decide
theorem uM {g:Ev} (h:uD e f) (a:uD f g):uD e g:=lS h a
theorem cmpE_zero:kr e f=0↔e=f:=⟨λh=>xQ (cmpL_eq h),λh=>by rw [h]; exact ko _⟩
theorem lz (e f:Ev):kr e f= -kr f e:=qo _ _
theorem QH (h:e.needs.length<f.needs.length):uD e f:=by
 unfold uD kr dG cmpL;rw [if_pos ZJ];decide
def SrtE (l:List Ev):Prop:=l.Pairwise uD
def insE (e:Ev):List Ev->List Ev
 | []=> [e]
 | f::l=>if kr e f<0 then e::f::l else if kr e f=0 then f::l else f::insE e l
theorem mem_insE {e x:Ev}: ∀ {l:List Ev},x∈insE e l↔x=e\/x∈l
 | []=>by simp [insE]
 | f::l=>by
  unfold insE
  split
  .simp
  .split
   .rename_i h;have:=cmpE_zero.1 h;subst this;simp
   .rw [List.mem_cons,mem_insE,List.mem_cons];constructor
    .rintro (h|h|h)
     .exact .inr (.inl h)
     .exact .inl h
     .exact .inr (.inr h)
    .rintro (h|h|h)
     .exact .inr (.inl h)
     .exact .inl h
     .exact .inr (.inr h)
theorem SrtE.insE {e:Ev}: ∀ {l:List Ev},SrtE l->SrtE (insE e l)
 | [],_=>List.pairwise_singleton _ _
 | f::l,h=>by
  have b:=List.pairwise_cons.1 h;unfold Go.Ord.insE
  split
  .rename_i c;refine List.pairwise_cons.2 ⟨λx a=> ?_,h⟩;rcases List.mem_cons.1 a with rfl|a
   .exact c
   .exact uM c (b.1 x a)
  .split
   .exact h
   .refine List.pairwise_cons.2 ⟨λx a=> ?_,SrtE.insE b.2⟩;rcases mem_insE.1 a with rfl|a
    .have:=lz x f;unfold uD;omega
    .exact b.1 x a
theorem wE: ∀ {a b:List Ev},SrtE a->SrtE b->(∀x,x∈a↔x∈b)->a=b
 | [],[],_,_,_=>rfl
 | [],y::b,_,_,h=>by have:=(h y).2 ZM; cases this
 | x::a,[],_,_,h=>by have:=(h x).1 ZM; cases this
 | x::a,y::b,j,k,h=>by
  have c:=List.pairwise_cons.1 j;have d:=List.pairwise_cons.1 k;have i:x=y:=by
   rcases List.mem_cons.1 ((h x).1 ZM) with e|f
   .exact e
   .rcases List.mem_cons.1 ((h y).2 ZM) with e|l
    .exact e.symm
    .exact absurd (uM (d.1 x f) (c.1 y l)) jX
  subst i
  congr 1
  refine wE c.2 d.2 λz=>⟨λg=> ?_,λg=> ?_⟩
  .rcases List.mem_cons.1 ((h z).1 (List.mem_cons_of_mem _ g)) with rfl|f
   .exact absurd (c.1 z g) jX
   .exact f
  .rcases List.mem_cons.1 ((h z).2 (List.mem_cons_of_mem _ g)) with rfl|f
   .exact absurd (d.1 z g) jX
   .exact f
def pG (a l:List Ev):List Ev:=l.foldl (λacc e=>insE e acc) a
def canon (l:List Ev):List Ev:=pG [] l
theorem xK {x:Ev}: ∀ {l a:List Ev},x∈pG a l↔x∈a\/x∈l
 | [],a=>by simp [pG]
 | e::l,a=>by
  show x∈pG (insE e a) l↔_;rw [xK,mem_insE,List.mem_cons];constructor
  .rintro ((h|h)|h)
   .exact .inr (.inl h)
   .exact .inl h
   .exact .inr (.inr h)
  .rintro (h|h|h)
   .exact .inl (.inr h)
   .exact .inl (.inl h)
   .exact .inr h
theorem xe: ∀ {l a:List Ev},SrtE a->SrtE (pG a l)
 | [],_,h=>h
 | e::l,_,h=>xe (l:=l) h.insE
theorem mem_canon {x:Ev} {l:List Ev}:x∈canon l↔x∈l:=by unfold canon; rw [xK]; simp
theorem iL (l:List Ev):SrtE (canon l):=xe List.Pairwise.nil
theorem K9 {a b:List Ev} (h: ∀x,x∈a↔x∈b):canon a=canon b:=wE (iL a) (iL b) λx=>by rw [mem_canon,mem_canon,h]
theorem tT {a b:List Ev} (c:SrtE a) (h: ∀x,x∈a↔x∈b):a=canon b:=wE c (iL b) λx=>by rw [mem_canon,h]
theorem EQ (a l:List Ev) (e:Ev):pG a (l++ [e])=insE e (pG a l):=by unfold pG; simp
def xH (l:List Ev) (k:Nat):List Ev:=l.filter λe=>e.needs.length==k
def upTo (l:List Ev) (k:Nat):List Ev:=(List.range k).flatMap λi=>canon (xH l (i+1))
theorem mem_upTo {l:List Ev} {k:Nat} {x:Ev}:x∈upTo l k↔x∈l/\1<=x.needs.length/\x.needs.length<=k:=by
 unfold upTo;rw [List.mem_flatMap];constructor
 .rintro ⟨i,a,h⟩;rw [mem_canon] at h;unfold xH at h;rw [List.mem_filter] at h;have c:=List.mem_range.1 a;have:=h.2;simp at this;exact ⟨h.1,ZJ,ZJ⟩
 .rintro ⟨b,d,e⟩;refine ⟨x.needs.length-1,List.mem_range.2 ZJ,mem_canon.2 ?_⟩;exact List.mem_filter.2 ⟨b,ZO⟩
theorem wZ (l:List Ev): ∀k,SrtE (upTo l k)
 | 0=>List.Pairwise.nil
 | k+1=>by
  have e:upTo l (k+1)=upTo l k++canon (xH l (k+1)):=by
   unfold upTo;rw [List.range_succ,List.flatMap_append];simp
  rw [e];refine List.pairwise_append.2 ⟨wZ l k,iL _,λa d b f=>QH ?_⟩;have g:=(mem_upTo.1 d).2.2;have c:=mem_canon.1 f;have:=(List.mem_filter.1 c).2;simp at this;omega
theorem zy (l:List Ev) (k:Nat):upTo l (k+1)=upTo l k++canon (xH l (k+1)):=by
 unfold upTo;rw [List.range_succ,List.flatMap_append];simp
theorem FF {l:List Ev} {k:Nat} (h: ∀e∈l,1<=e.needs.length/\e.needs.length<=k):upTo l k=canon l :=
 tT (wZ l k) λx=>by rw [mem_upTo]; exact ⟨λh=>h.1,λa=>⟨a,h x a⟩⟩
theorem L9 (l:List Ev) {k:Nat} (h:i<=k): ∃s,upTo l k=upTo l i++s:=by
 induction h with
 | refl=>exact ⟨[],ZM⟩
 | @step m _ a =>
  obtain ⟨s,b⟩:=a;exact ⟨s++canon (xH l (m+1)),by rw [zy,b,List.append_assoc]⟩
theorem Mf {a s:List α} (h:n<=a.length):(a++s).take n=a.take n:=by rw [List.take_append_of_le_length h]
structure Sc where
 op:Int
 off:Int
 err:Int
structure Rc where
 scn:Int
 num:Int
 kind:Int
 time:Int
 label:ByteArray
 cont:List ByteArray
def okB (b:Nat):Prop:=(65<=b/\b<=90)\/(48<=b/\b<=57)\/b=46
def gY (s:ByteArray) (i:Nat):Nat:=(s.data.getD i 0).toNat
def ic (s:ByteArray):Prop:=1<=s.size/\s.size<=20/\ ∀i,i<s.size->okB (gY s i)
structure ScOK (s:Sc):Prop where
 o1:0<=s.op
 o2:0<=s.off
 e1:0<=s.err
 e2:s.err<=10000
def SB (r:Rc):Prop:=(r.kind=1/\r.cont= [])\/(r.kind=2/\r.cont.length<=40/\(∀c∈r.cont,ic c/\c≠r.label)/\r.cont.Nodup)
structure Comp (r:Rc):Prop where
 s1:0<=r.scn
 s2:r.scn<=1000000
 n1:0<=r.num
 n2:r.num<=1000000
 t1:0<=r.time
 t2:r.time<=1000000
 lab:ic r.label
 kinds:SB r
structure Val (l:List Sc) (r:Rc):Prop where
 few:l.length<=24
 comp:Comp r
 scan: ∃s,l[r.scn.toNat]?=some s/\ScOK s
theorem Val.man {l:List Sc} {r:Rc} (h:Val l r) (b:a∈r.cont):r.kind=2:=by
 rcases h.comp.kinds with ⟨_,c⟩|⟨d,_⟩
 .rw [c] at b; cases b
 .exact d
def lY (l:List Sc) (r:Rc):Sc:=l.getD r.scn.toNat ⟨0,0,0⟩
def kM (l:List Sc) (r:Rc) (needs:List Int):Ev:=⟨(lY l r).off,r.time-(lY l r).err,r.time+(lY l r).err,needs⟩
theorem Val.sc {l:List Sc} {r:Rc} (h:Val l r):l[r.scn.toNat]?=some (lY l r)/\ScOK (lY l r):=by
 obtain ⟨s,a,b⟩:=h.scan;have:lY l r=s:=by unfold lY; rw [List.getD_eq_getElem?_getD,a]; rfl
 rw [this];exact ⟨a,b⟩
end Go.Ord
namespace Go.PF
open Go.RowKit Go.Ord
def yV:Ty Sc where
 n:=3
 rep:=λ_ _ cs s=>cs= [ZU s.op,ZU s.off,ZU s.err]/\fE s.op/\fE s.off/\fE s.err
 len:=λ_ _ _ _ h=>by rw [h.1]; rfl
 mono:=λ_ _ _ _ _ _ h=>h
 wider:=λ_ _ _ _ _ _ h=>h
theorem dJ:Ty.Now yV:=⟨ZL,λ_ _ _ _ h=>h⟩
def rcT:Ty Rc where
 n:=6
 rep:=λF w cs r=> ∃v,cs= [ZU r.scn,ZU r.num,ZU r.kind,ZU r.time,.string r.label,v]/\fE r.scn/\fE r.num/\fE r.kind/\fE r.time/\r.label.size<=9223372036854775807/\SL eB F w v r.cont
 len:=λ_ _ _ _ h=>by obtain ⟨v,h,_⟩:=h; rw [h]; rfl
 mono:=λ_ _ _ _ _ hk h=>by obtain ⟨v,h,h1,h2,h3,h4,h5,hs⟩:=h; exact ⟨v,h,h1,h2,h3,h4,h5,hs.mono hk⟩
 wider:=λ_ _ _ _ _ hF h=>by obtain ⟨v,h,h1,h2,h3,h4,h5,hs⟩:=h; exact ⟨v,h,h1,h2,h3,h4,h5,hs.wider hF⟩
theorem dM:Ty.Now rcT:=⟨ZL,λF w i e ⟨v,h,a,b,c,d,f,g⟩=>⟨v,h,a,b,c,d,f,g.now jA⟩⟩
abbrev SS (w:World) (v:Value) (l:List Sc):Prop:=SL yV (λk=>k<w.heap.size) w v l
abbrev SR (w:World) (v:Value) (l:List Rc):Prop:=SL rcT (λk=>k<w.heap.size) w v l
abbrev ST (w:World) (v:Value) (l:List ByteArray):Prop:=SL eB (λk=>k<w.heap.size) w v l
theorem sw {l:List Sc} (h:SS w v l) (hb:ZT w w'):SS w' v l:=h.step dJ hb
theorem Io {l:List Rc} (h:SR w v l) (hb:ZT w w'):SR w' v l:=h.step dM hb
theorem PR {l:List ByteArray} (h:ST w v l) (hb:ZT w w'):ST w' v l:=h.step jA hb
theorem SS.get {cap:Nat} {l:List Sc} (h:SL yV F w (.slice (some ad) n cap) l) {e:Sc} (k:l[i]?=some e) :
  (∀j u,[Value.int .i64 e.op,ZU e.off,ZU e.err][j]?=some u->w.cell? ((ad.add ((i:Int).toNat*3)).add j)=some u)/\fE e.op/\fE e.off/\fE e.err:=by
 obtain ⟨a,m,b,_,⟨rfl,c,d,f⟩,g⟩:=h.at k;cases b;exact ⟨g,c,d,f⟩
def iY (r:Rc) (v:Value):List Value:= [ZU r.scn,ZU r.num,ZU r.kind,ZU r.time,.string r.label,v]
structure RcOK (F:Nat->Prop) (w:World) (v:Value) (r:Rc):Prop where
 i1:fE r.scn
 i2:fE r.num
 i3:fE r.kind
 i4:fE r.time
 lb:r.label.size<=9223372036854775807
 ct:SL eB F w v r.cont
theorem SR.get {cap:Nat} {l:List Rc} (h:SL rcT F w (.slice (some ad) n cap) l) {e:Rc} (p:l[i]?=some e) :
  ∃ v,(∀j u,(iY e v)[j]?=some u->w.cell? ((ad.add ((i:Int).toNat*6)).add j)=some u)/\RcOK F w v e:=by
 obtain ⟨a,q,b,_,⟨v,rfl,c,d,f,g,k,m⟩,o⟩:=h.at p;cases b;exact ⟨v,o,c,d,f,g,k,m⟩
theorem RcOK.below {F:Nat->Prop} {w w':World} {v:Value} {r:Rc} (h:RcOK F w v r) (hb:ZT w w'):RcOK F w' v r:=⟨h.i1,h.i2,h.i3,h.i4,h.lb,h.ct.below hb⟩
theorem RcOK.step {r:Rc} (h:RcOK (λk=>k<w.heap.size) w v r) (hb:ZT w w'):RcOK (λk=>k<w'.heap.size) w' v r:=⟨h.i1,h.i2,h.i3,h.i4,h.lb,PR h.ct hb⟩
end Go.PF
namespace Go.Proofs.YtoleahhfkpkcjaaGreatDoor
open Go.Proofs.Tryz
open Go.PF Go.RowKit Go.Ord
attribute [local irreducible] TW CW KW DW
def Cop {α:Type} (T:Ty α) (F:Nat->Prop) (w w':World) (e:TypeId) (x:Value) (l:List α):Prop:=ZT w w'/\ ∃ps:List (List Value×α),ps.map (·.2)=l/\(∀p∈ps,T.rep F w p.1 p.2)/\OwnS w' e T.n x l.length (ps.flatMap (·.1))/\ ∀g,x.ownBlock=some g->w.heap.size<=g
theorem CL:Ty.One eB:=λ_ _ _ _ h u a=>by rw [h.1] at a; simp at a; subst a; rfl
theorem Qb:Ty.One yV:=λ_ _ _ _ h u a=>by rw [h.1] at a; simp at a; rcases a with rfl|rfl|rfl<;>rfl
theorem QJ:Ty.One LM:=λ_ _ _ _ h u a=>by rw [h.1] at a; simp [Ks] at a; rcases a with rfl|rfl|rfl|rfl|rfl|rfl<;>rfl
theorem Oy:Ty.One zl:=λ_ _ _ _ h u a=>by rw [h.1] at a; simp [K6] at a; rcases a with rfl|rfl|rfl<;>rfl
theorem OA:Ty.One calT:=λ_ _ _ _ ⟨e,f,h,_,⟨A,c,b,_⟩,⟨B,g,d,_⟩⟩ u a=>by rw [h] at a; simp at a; rcases a with rfl|rfl|rfl<;>first|rfl|(rw [b]; rfl)|(rw [d]; rfl)
theorem QC:Ty.One ofT:=λ_ _ _ _ ⟨d,h,_,_,_,_,_,_,⟨A,c,b,_⟩⟩ u a=>by rw [h] at a; simp at a; rcases a with rfl|rfl|rfl|rfl|rfl|rfl|rfl<;>first|rfl|(rw [b]; rfl)
theorem Cop.sl {T:Ty α} {e:TypeId} {x:Value} {l:List α} (o:0<T.n) (q: ∀F G w w' d y,T.rep F w d y->T.rep G w' d y) (h:Cop T F w w' e x l) (hl:l.length<=1000000):ZT w w'/\SL T (λk=>w.heap.size<=k/\k<w'.heap.size) w' x l:=by
 obtain ⟨f,a,rfl,i,b,j⟩:=h;refine ⟨f,?_⟩;have:=eF (F:=λk=>w.heap.size<=k/\k<w'.heap.size) a (λp m=>q _ _ _ _ _ _ (i p m)) o (by simpa using b) rfl (λg c=>⟨j g c,b.lt c⟩) (by simp at hl; omega);exact this
theorem rO {l:List ByteArray} (hl:SL eB F w v l) (hs:l.length<=1000000):Gives prog 74 #[v] w λx y=>Cop eB F w y 9 x l:=by
 obtain ⟨A,z,rfl,_⟩:=hl.form;obtain ⟨o,B,r,C,D⟩:=hl.flat ZL;refine gv func74 ntmps74 ?_;refine aB ?_;refine aK rfl (λd=> ?_) (λi=> ?_)
 .refine aB ?_;have E:l= []:=by
   cases l with
   | nil=>rfl
   | cons a l =>
    obtain ⟨s,rfl⟩:=hl.addr ZM;cases d
  subst E;refine aO rfl ⟨ZA,[],rfl,(λp G=>by cases G),OwnS.nil _ _ _,λg H=>(by simp [Value.ownBlock] at H)⟩
 .refine aB ?_;refine bQ 9 rfl rfl wB ?_;rintro g I b;refine aB ?_;have J:OwnS I 9 1 (.slice (some ⟨g,0,none⟩) 0 0) 0 []:=aV b.blk rfl ZL;refine aU (o.flatMap (·.1)) rfl rfl BF rfl J rfl C (λj u K=>by
   obtain ⟨s,L,t⟩:=D j u K;exact ⟨s,L,(b.below.cell (block_lt_of_cell t)).trans t⟩) (iZ CL r) ZJ ZJ ?_
  rintro N M e k m;refine aB ?_;have n:=b.below.grown k b.below.size (λq c=>by simp [Value.ownBlock] at c; have:=b.at_; omega);refine aO rfl ⟨n,o,B,r,by rw [Nat.zero_add,List.nil_append] at e; exact e,λq c=> ?_⟩;rcases m with h|h
  .rw [h] at c; simp [Value.ownBlock] at c; have:=b.at_; omega
  .rw [h] at c; cases c; exact b.below.size
theorem Ht {l:List Bool} (hl:SL boolT F w v l) (hs:l.length<=1000000):Gives prog 96 #[v] w λx y=>Cop boolT F w y 4 x l:=by
 obtain ⟨A,z,rfl,_⟩:=hl.form;obtain ⟨o,B,r,C,D⟩:=hl.flat ZL;refine gv func96 ntmps96 ?_;refine aB ?_;refine aK rfl (λd=> ?_) (λi=> ?_)
 .refine aB ?_;have E:l= []:=by
   cases l with
   | nil=>rfl
   | cons a l =>
    obtain ⟨s,rfl⟩:=hl.addr ZM;cases d
  subst E;refine aO rfl ⟨ZA,[],rfl,(λp G=>by cases G),OwnS.nil _ _ _,λg H=>(by simp [Value.ownBlock] at H)⟩
 .refine aB ?_;refine bQ 4 rfl rfl Sk ?_;rintro g I b;refine aB ?_;have J:OwnS I 4 1 (.slice (some ⟨g,0,none⟩) 0 0) 0 []:=aV b.blk rfl ZL;refine aU (o.flatMap (·.1)) rfl rfl NM rfl J rfl C (λj u K=>by
   obtain ⟨s,L,t⟩:=D j u K;exact ⟨s,L,(b.below.cell (block_lt_of_cell t)).trans t⟩) (iZ La r) ZJ ZJ ?_
  rintro N M e k m;refine aB ?_;have n:=b.below.grown k b.below.size (λq c=>by simp [Value.ownBlock] at c; have:=b.at_; omega);refine aO rfl ⟨n,o,B,r,by rw [Nat.zero_add,List.nil_append] at e; exact e,λq c=> ?_⟩;rcases m with h|h
  .rw [h] at c; simp [Value.ownBlock] at c; have:=b.at_; omega
  .rw [h] at c; cases c; exact b.below.size
theorem Ho (hl:SL aT F w v l) (hs:l.length<=1000000):Gives prog 97 #[v] w λx y=>Cop aT F w y 3 x l:=by
 obtain ⟨A,z,rfl,_⟩:=hl.form;obtain ⟨o,B,r,C,D⟩:=hl.flat ZL;refine gv func97 ntmps97 ?_;refine aB ?_;refine aK rfl (λd=> ?_) (λi=> ?_)
 .refine aB ?_;have E:l= []:=by
   cases l with
   | nil=>rfl
   | cons a l =>
    obtain ⟨s,rfl⟩:=hl.addr ZM;cases d
  subst E;refine aO rfl ⟨ZA,[],rfl,(λp G=>by cases G),OwnS.nil _ _ _,λg H=>(by simp [Value.ownBlock] at H)⟩
 .refine aB ?_;refine bQ 3 rfl rfl kN ?_;rintro g I b;refine aB ?_;have J:OwnS I 3 1 (.slice (some ⟨g,0,none⟩) 0 0) 0 []:=aV b.blk rfl ZL;refine aU (o.flatMap (·.1)) rfl rfl jH rfl J rfl C (λj u K=>by
   obtain ⟨s,L,t⟩:=D j u K;exact ⟨s,L,(b.below.cell (block_lt_of_cell t)).trans t⟩) (iZ NH r) ZJ ZJ ?_
  rintro N M e k m;refine aB ?_;have n:=b.below.grown k b.below.size (λq c=>by simp [Value.ownBlock] at c; have:=b.at_; omega);refine aO rfl ⟨n,o,B,r,by rw [Nat.zero_add,List.nil_append] at e; exact e,λq c=> ?_⟩;rcases m with h|h
  .rw [h] at c; simp [Value.ownBlock] at c; have:=b.at_; omega
  .rw [h] at c; cases c; exact b.below.size
theorem Hg {l:List ByteArray} (hl:SL eB F w v l) (hs:l.length<=1000000):Gives prog 98 #[v] w λx y=>Cop eB F w y 153 x l:=by
 obtain ⟨A,z,rfl,_⟩:=hl.form;obtain ⟨o,B,r,C,D⟩:=hl.flat ZL;refine gv func98 ntmps98 ?_;refine aB ?_;refine aK rfl (λd=> ?_) (λi=> ?_)
 .refine aB ?_;have E:l= []:=by
   cases l with
   | nil=>rfl
   | cons a l =>
    obtain ⟨s,rfl⟩:=hl.addr ZM;cases d
  subst E;refine aO rfl ⟨ZA,[],rfl,(λp G=>by cases G),OwnS.nil _ _ _,λg H=>(by simp [Value.ownBlock] at H)⟩
 .refine aB ?_;refine bQ 153 rfl rfl VG ?_;rintro g I b;refine aB ?_;have J:OwnS I 153 1 (.slice (some ⟨g,0,none⟩) 0 0) 0 []:=aV b.blk rfl ZL;refine aU (o.flatMap (·.1)) rfl rfl XI rfl J rfl C (λj u K=>by
   obtain ⟨s,L,t⟩:=D j u K;exact ⟨s,L,(b.below.cell (block_lt_of_cell t)).trans t⟩) (iZ CL r) ZJ ZJ ?_
  rintro N M e k m;refine aB ?_;have n:=b.below.grown k b.below.size (λq c=>by simp [Value.ownBlock] at c; have:=b.at_; omega);refine aO rfl ⟨n,o,B,r,by rw [Nat.zero_add,List.nil_append] at e; exact e,λq c=> ?_⟩;rcases m with h|h
  .rw [h] at c; simp [Value.ownBlock] at c; have:=b.at_; omega
  .rw [h] at c; cases c; exact b.below.size
theorem Hf {l:List Sc} (hl:SL yV F w v l) (hs:l.length<=1000000):Gives prog 44 #[v] w λx y=>Cop yV F w y 74 x l:=by
 obtain ⟨A,z,rfl,_⟩:=hl.form;obtain ⟨o,B,r,C,D⟩:=hl.flat ZL;refine gv func44 ntmps44 ?_;refine aB ?_;refine aK rfl (λd=> ?_) (λi=> ?_)
 .refine aB ?_;have E:l= []:=by
   cases l with
   | nil=>rfl
   | cons a l =>
    obtain ⟨s,rfl⟩:=hl.addr ZM;cases d
  subst E;refine aO rfl ⟨ZA,[],rfl,(λp G=>by cases G),OwnS.nil _ _ _,λg H=>(by simp [Value.ownBlock] at H)⟩
 .refine aB ?_;refine bQ 74 rfl rfl VC ?_;rintro g I b;refine aB ?_;have J:OwnS I 74 3 (.slice (some ⟨g,0,none⟩) 0 0) 0 []:=aV b.blk rfl ZL;refine aU (o.flatMap (·.1)) rfl rfl XE rfl J rfl C (λj u K=>by
   obtain ⟨s,L,t⟩:=D j u K;exact ⟨s,L,(b.below.cell (block_lt_of_cell t)).trans t⟩) (iZ Qb r) ZJ ZJ ?_
  rintro N M e k m;refine aB ?_;have n:=b.below.grown k b.below.size (λq c=>by simp [Value.ownBlock] at c; have:=b.at_; omega);refine aO rfl ⟨n,o,B,r,by rw [Nat.zero_add,List.nil_append] at e; exact e,λq c=> ?_⟩;rcases m with h|h
  .rw [h] at c; simp [Value.ownBlock] at c; have:=b.at_; omega
  .rw [h] at c; cases c; exact b.below.size
theorem Hr {l:List Cal} (hl:SL calT F w v l) (hs:l.length<=1000000):Gives prog 95 #[v] w λx y=>Cop calT F w y 151 x l:=by
 obtain ⟨A,z,rfl,_⟩:=hl.form;obtain ⟨o,B,r,C,D⟩:=hl.flat ZL;refine gv func95 ntmps95 ?_;refine aB ?_;refine aK rfl (λd=> ?_) (λi=> ?_)
 .refine aB ?_;have E:l= []:=by
   cases l with
   | nil=>rfl
   | cons a l =>
    obtain ⟨s,rfl⟩:=hl.addr ZM;cases d
  subst E;refine aO rfl ⟨ZA,[],rfl,(λp G=>by cases G),OwnS.nil _ _ _,λg H=>(by simp [Value.ownBlock] at H)⟩
 .refine aB ?_;refine bQ 151 rfl rfl VI ?_;rintro g I b;refine aB ?_;have J:OwnS I 151 3 (.slice (some ⟨g,0,none⟩) 0 0) 0 []:=aV b.blk rfl ZL;refine aU (o.flatMap (·.1)) rfl rfl XJ rfl J rfl C (λj u K=>by
   obtain ⟨s,L,t⟩:=D j u K;exact ⟨s,L,(b.below.cell (block_lt_of_cell t)).trans t⟩) (iZ OA r) ZJ ZJ ?_
  rintro N M e k m;refine aB ?_;have n:=b.below.grown k b.below.size (λq c=>by simp [Value.ownBlock] at c; have:=b.at_; omega);refine aO rfl ⟨n,o,B,r,by rw [Nat.zero_add,List.nil_append] at e; exact e,λq c=> ?_⟩;rcases m with h|h
  .rw [h] at c; simp [Value.ownBlock] at c; have:=b.at_; omega
  .rw [h] at c; cases c; exact b.below.size
theorem Hl {l:List Of} (hl:SL ofT F w v l) (hs:l.length<=1000000):Gives prog 99 #[v] w λx y=>Cop ofT F w y 155 x l:=by
 obtain ⟨A,z,rfl,_⟩:=hl.form;obtain ⟨o,B,r,C,D⟩:=hl.flat ZL;refine gv func99 ntmps99 ?_;refine aB ?_;refine aK rfl (λd=> ?_) (λi=> ?_)
 .refine aB ?_;have E:l= []:=by
   cases l with
   | nil=>rfl
   | cons a l =>
    obtain ⟨s,rfl⟩:=hl.addr ZM;cases d
  subst E;refine aO rfl ⟨ZA,[],rfl,(λp G=>by cases G),OwnS.nil _ _ _,λg H=>(by simp [Value.ownBlock] at H)⟩
 .refine aB ?_;refine bQ 155 rfl rfl VF ?_;rintro g I b;refine aB ?_;have J:OwnS I 155 7 (.slice (some ⟨g,0,none⟩) 0 0) 0 []:=aV b.blk rfl ZL;refine aU (o.flatMap (·.1)) rfl rfl XH rfl J rfl C (λj u K=>by
   obtain ⟨s,L,t⟩:=D j u K;exact ⟨s,L,(b.below.cell (block_lt_of_cell t)).trans t⟩) (iZ QC r) ZJ ZJ ?_
  rintro N M e k m;refine aB ?_;have n:=b.below.grown k b.below.size (λq c=>by simp [Value.ownBlock] at c; have:=b.at_; omega);refine aO rfl ⟨n,o,B,r,by rw [Nat.zero_add,List.nil_append] at e; exact e,λq c=> ?_⟩;rcases m with h|h
  .rw [h] at c; simp [Value.ownBlock] at c; have:=b.at_; omega
  .rw [h] at c; cases c; exact b.below.size
theorem Hm {l:List Li} (hl:SL LM F w v l) (hs:l.length<=1000000):Gives prog 100 #[v] w λx y=>Cop LM F w y 157 x l:=by
 obtain ⟨A,z,rfl,_⟩:=hl.form;obtain ⟨o,B,r,C,D⟩:=hl.flat ZL;refine gv func100 ntmps100 ?_;refine aB ?_;refine aK rfl (λd=> ?_) (λi=> ?_)
 .refine aB ?_;have E:l= []:=by
   cases l with
   | nil=>rfl
   | cons a l =>
    obtain ⟨s,rfl⟩:=hl.addr ZM;cases d
  subst E;refine aO rfl ⟨ZA,[],rfl,(λp G=>by cases G),OwnS.nil _ _ _,λg H=>(by simp [Value.ownBlock] at H)⟩
 .refine aB ?_;refine bQ 157 rfl rfl VE ?_;rintro g I b;refine aB ?_;have J:OwnS I 157 6 (.slice (some ⟨g,0,none⟩) 0 0) 0 []:=aV b.blk rfl ZL;refine aU (o.flatMap (·.1)) rfl rfl XG rfl J rfl C (λj u K=>by
   obtain ⟨s,L,t⟩:=D j u K;exact ⟨s,L,(b.below.cell (block_lt_of_cell t)).trans t⟩) (iZ QJ r) ZJ ZJ ?_
  rintro N M e k m;refine aB ?_;have n:=b.below.grown k b.below.size (λq c=>by simp [Value.ownBlock] at c; have:=b.at_; omega);refine aO rfl ⟨n,o,B,r,by rw [Nat.zero_add,List.nil_append] at e; exact e,λq c=> ?_⟩;rcases m with h|h
  .rw [h] at c; simp [Value.ownBlock] at c; have:=b.at_; omega
  .rw [h] at c; cases c; exact b.below.size
theorem Hq {l:List Cla} (hl:SL zl F w v l) (hs:l.length<=1000000):Gives prog 101 #[v] w λx y=>Cop zl F w y 159 x l:=by
 obtain ⟨A,z,rfl,_⟩:=hl.form;obtain ⟨o,B,r,C,D⟩:=hl.flat ZL;refine gv func101 ntmps101 ?_;refine aB ?_;refine aK rfl (λd=> ?_) (λi=> ?_)
 .refine aB ?_;have E:l= []:=by
   cases l with
   | nil=>rfl
   | cons a l =>
    obtain ⟨s,rfl⟩:=hl.addr ZM;cases d
  subst E;refine aO rfl ⟨ZA,[],rfl,(λp G=>by cases G),OwnS.nil _ _ _,λg H=>(by simp [Value.ownBlock] at H)⟩
 .refine aB ?_;refine bQ 159 rfl rfl VD ?_;rintro g I b;refine aB ?_;have J:OwnS I 159 3 (.slice (some ⟨g,0,none⟩) 0 0) 0 []:=aV b.blk rfl ZL;refine aU (o.flatMap (·.1)) rfl rfl XF rfl J rfl C (λj u K=>by
   obtain ⟨s,L,t⟩:=D j u K;exact ⟨s,L,(b.below.cell (block_lt_of_cell t)).trans t⟩) (iZ Oy r) ZJ ZJ ?_
  rintro N M e k m;refine aB ?_;have n:=b.below.grown k b.below.size (λq c=>by simp [Value.ownBlock] at c; have:=b.at_; omega);refine aO rfl ⟨n,o,B,r,by rw [Nat.zero_add,List.nil_append] at e; exact e,λq c=> ?_⟩;rcases m with h|h
  .rw [h] at c; simp [Value.ownBlock] at c; have:=b.at_; omega
  .rw [h] at c; cases c; exact b.below.size
theorem uT {r:Rc} (h:RcOK F w v r) (hs:r.cont.length<=1000000) :
  Gives prog 54 #[.agg (iY r v).toArray] w λx m=>ZT w m/\ ∃A,x= .agg (iY r A).toArray/\RcOK (λk=>w.heap.size<=k/\k<m.heap.size) m A r:=by
 obtain ⟨X,L,rfl,_⟩:=h.ct.form;refine gv func54 ntmps54 ?_;refine aB ?_;refine bY rfl rfl rfl rfl ?_;rintro g1 w1 j;refine gM rfl rfl Jt ?_;rintro M B d;refine aB ?_;have C:=j.below.step d.below;have g:=j.blk.next d.below;refine aH rfl (g.fld rfl) ?_;refine aM rfl (rO (h.ct.below C) hs) ?_;rintro x n N;obtain ⟨l,D⟩:=N.sl ZL (λ_ _ _ _ _ _ h=>h) hs;obtain ⟨Y,E,rfl,_⟩:=D.form;have o:=g.next l;have p:=d.blk.next l;have G:=C.step l;have s1:=j.at_;have s2:=d.at_;have z1:=j.size;have z2:=d.size;refine aB ?_;refine mG rfl is23.q rfl rfl o (by show 5<6; decide) rfl ?_;rintro s t a H;refine aB ?_;refine gy rfl (λ_ _ O=>t.fld O) ?_;have u:=But.blk (k:=M) a p ZJ;refine fq rfl rfl rfl u is57.q rfl rfl rfl ?_;rintro I y i J;refine aB ?_;have R:=l.size;have K:ZT w s:=G.grown a G.size (λq z=>by cases z; omega);have S:ZT w I:=K.grown i K.size (λq z=>by cases z; omega);have U:Kept (λk=>B.heap.size<=k/\k<n.heap.size) n s:= .of_blocks λb W c=>a.block b c (λe=>by cases e; omega);have Z:Kept (λk=>B.heap.size<=k/\k<n.heap.size) s I:= .of_blocks λb W c=>i.block b c (λe=>by cases e; omega)
 refine CZ results54 underlying57 (by exact is57.q) rfl (y) (⟨S,_,rfl,h.i1,h.i2,h.i3,h.i4,h.lb,((D.mono U).mono Z).wider λk hk=>⟨ZJ,ZJ⟩⟩)
end Go.Proofs.YtoleahhfkpkcjaaGreatDoor
namespace Go.PF
open Go.RowKit
section
theorem wo {p:Program} {at_:Addr} {u:TypeId} {k:Addr} {b:Bool} (h:w.viewStore p at_ u k v b= .ok r):r.1.drawn=w.drawn:=by
 unfold World.viewStore at h;simp only [bind,Except.bind,pure,Except.pure] at h
 repeat' split at h
 all_goals first
  | (cases h; done)
  | (simp only [Except.ok.injEq] at h; subst h; rfl)
  | (simp at h; done)
theorem yh {p:Program} {a:Addr} {b:Bool} (h:w.farStore p a v b= .ok r):r.1.drawn=w.drawn:=by
 unfold World.farStore at h
 split at h
 .split at h
  .rename_i c;simp only [Except.ok.injEq] at h;subst h;exact wo c
  .cases h
 .cases h
theorem Lf (x:Ask α): ∀w:World,w.drawn<=(w.ask x).2.drawn:=by
 induction x with
 | done a=>intro w; exact ZC
 | ask c b k d =>
  intro w;unfold World.ask;dsimp only
  split
  .exact d _ w
  .exact Nat.le_trans (Nat.le_succ _) (d _ {w with drawn:=w.drawn+1})
theorem JB (w:World) (c:Sys):w.drawn<=(w.sys c).2.drawn:=by
 unfold World.sys;have h:=Lf (Kernel.perform c w.os) w
 split
 .exact ZC
 .rename_i r d e b a;rw [a] at h;exact h
theorem JL {p:Program} (s:Sem α): ∀ {w d:World} {v:α},s.run p w= .ok v d->w.drawn<=d.drawn:=by
 induction s with
 | pure a=>intro w d v h; simp at h; rw [h.2]; exact ZC
 | load m a k b =>
  intro w d v h;unfold Sem.run at h
  split at h
  .exact b _ h
  .split at h
   .exact b _ h
   .cases h
 | store m a u k b =>
  intro w d v h
  cases u with
  | agg c=>simp [Sem.run] at h
  | tuple c=>simp [Sem.run] at h
  | _ =>
   simp only [Sem.run] at h
   split at h
   .split at h
    .cases h
    .have e:=b h;exact e
   .split at h
    .rename_i g;have f:=yh g;have e:=b h;dsimp only at f;omega
    .cases h
 | new o k b=>intro w d v h; exact b _ (w:= {w with heap:=w.heap.push o}) h
 | shape r k b=>intro w d v h; exact b _ h
 | freeze a n k b =>
  intro w d v h;have f:=b h;have e:(w.freeze a n).drawn=w.drawn:=by unfold World.freeze; split<;>rfl
  omega
 | frozen a k b=>intro w d v h; exact b _ h
 | getObj r k b =>
  intro w d v h;unfold Sem.run at h
  split at h
  .cases h
  .exact b _ h
  .cases h
 | setObj r o k b =>
  intro w d v h;unfold Sem.run at h
  split at h
  .cases h
  .exact b (w:= {w with heap:=w.heap.setIfInBounds r o}) h
  .cases h
 | choose q k b =>
  intro w d v h;unfold Sem.run at h
  split at h
  .exact b _ h
  .exact Nat.le_trans (Nat.le_succ _) (b _ h)
 | sys c k b =>
  intro w d v h
  exact Nat.le_trans (JB w c) (b _ h)
 | program k b=>intro w d v h; exact b _ h
 | mark m k b=>intro w d v h; exact b h
 | halt h=>intro w d v h; simp at h
structure BelD (w w':World):Prop where
 b:ZT w w'
 d:w.drawn<=w'.drawn
theorem BelD.refl (w:World):BelD w w:=⟨ZA,ZC⟩
theorem BelD.trans {a b c:World} (h:BelD a b) (e:BelD b c):BelD a c:=⟨h.b.step e.b,Nat.le_trans h.d e.d⟩
section
variable {P:Program} {r:Option Nat} {Q:Exit->Act->World->Prop} {N:Nat} {ds:List Deferred} {ops rest:List Oper} {E:Env} {w:World}
variable {d:Option Tmp} {ty:TypeId} {pos:String} {af:Array Edge} {gu:Option (Nat×Bool)} {x:Operand}
theorem yJ (e:TypeId) {sz len:Nat} {parts:Array (Nat×Operand)} (xs:List Operand) {vs cs:List Value} (l:gu=none) (m:aD N d=true) (hp:parts.toList=number xs) (he:dA P t e sz=true) (n:Args N ds E none xs vs) (hl:len=vs.length)
  (o:vs.all (λv=>Nat.beq v.cells.size sz)=true) (h:Nat.ble (vs.length*sz) 16777216=true) (b:Nat.blt 0 vs.length=true) (i:vs.flatMap (λv=>v.cells.toList)=cs)
  (next: ∀g f,Fresh w f g e cs->BelD w f->TW P r Q N ds ops rest (ins E d none (.slice (some ⟨g,0,none⟩) len len)) f):TW P r Q N ds ops (⟨d,.buildSlice t len parts,ty,pos,af,gu⟩::rest) E w:=by
 subst hl;have c:=λv j=>Nat.eq_of_beq_eq_true (List.all_eq_true.1 o v j);refine eX l m rfl (λa k=>fU hp rfl he (n a k trivial) c (Nat.le_of_ble_eq_true h) (blt_iff.1 b)) ?_;rw [i];exact next _ _ (gQ w e cs) ⟨iH _ _,ZC⟩
theorem H9 {e:TypeId} {sz bytes m c:Nat} {s:Operand} {xs:List Value} (news:List Value) (y:gu=none) (z:aD N d=true) (B:cZ P t e sz bytes=true)
  (hs:ev E s=some (none,v)) (g:OwnS w e sz v n xs) (C:ev E x=some (none,.slice A m c)) (hl:news.length=m*sz) (hn: ∀j u,news[j]?=some u-> ∃l,A=some l/\w.cell? (l.add j)=some u) (h1: ∀u∈news,u.oneCell'=true)
  (hb:(n+m)*bytes<=140737488355328) (h:1<=bytes)
  (next: ∀b f,OwnS f e sz b (n+m) (xs++news)->w.grownBy f v.ownBlock->(b.ownBlock=v.ownBlock\/b.ownBlock=some w.heap.size)->w.drawn<=f.drawn->TW P r Q N ds ops rest (ins E d none b) f) :
  TW P r Q N ds ops (⟨d,.call ⟨.builtin .append,#[s,x],#[t,t]⟩,ty,pos,af,gu⟩::rest) E w:=by
 obtain ⟨b,f,i,o,p,q⟩:=lT (ty:=ty) (c:=c) B g hl hn h1 hb h;refine eX y z rfl (λa k=> ?_) (next b f o p q (JL _ i));simp only [execOp,resolve,Go.invoke,Go.builtin,Sem.run_bind,Sem.run_pure,Result.andThen_ok,List.map_toArray,List.map_cons,List.map_nil,k.eval hs trivial,k.eval C trivial,i]
theorem Ck {vx:Value} {cs:List Value} (e:gu=none) (f:aD N d=true) (h:ev E x=some (none,vx)) (i:vx.cells=cs.toArray)
  (next: ∀g b,Fresh w b g t cs->BelD w b->TW P r Q N ds ops rest (ins E d none (.pointer (some ⟨g,0,none⟩))) b):TW P r Q N ds ops (⟨d,.box t x,ty,pos,af,gu⟩::rest) E w :=
 eX e f rfl (λa c=>by
  simp only [execOp]; rw [c.eval h trivial,<-i]; rfl) (next _ _ (gQ w t cs) ⟨iH _ _,ZC⟩)
end
section
variable {P:Program} {N:Nat} {ds:List Deferred} {ops rest:List Oper} {D:DE} {w:World} {G:Option Bool} {Fin:DE->Prop}
variable {d:Option Tmp} {ty:TypeId} {pos:String} {af:Array Edge} {gu:Option (Nat×Bool)} {x:Operand} {cx:Option Bool}
theorem ve {f:Operand} {cap:List Value} {cf:Option Bool} {xs:List Operand} {es:List Ent} {ts:Array TypeId} (e:Ent) (hm:e.mono) (q:fD ops D gu=some G) (r:aD N d=true) (he:enters P k=true)
  (s:dev D f=some (cf,.ex (.func (.func k) #[] cap.toArray))) (u:aF G->aF cf) (x:PArgs (Oper.looksAt ops.toArray ⟨d,.call ⟨.value f,xs.toArray,ts⟩,ty,pos,af,gu⟩) N ds D G xs es)
  (y:aF G-> ∀c,ZT w c-> ∀l,Sats es l c->Gives P k (l++cap).toArray c λv g=>BelD c g/\e.sat v g)
  (next:DW P N ds .cnt ops w Fin rest (bG D d G e)):DW P N ds .cnt ops w Fin (⟨d,.call ⟨.value f,xs.toArray,ts⟩,ty,pos,af,gu⟩::rest) D :=
 ⟨G,e,⟨q,r,rfl,hm,λh a c m i=> .inr ⟨_,_,lU he (i.eval s ZP (u h)) rfl,
  (y h c m _ (x (λt n=>bB (by simp [Op.operands,Call.operands,n])) a c i h)).mono λv g ⟨j,p⟩=>⟨⟨j.b,j.d⟩,p⟩⟩⟩,next⟩
theorem RN (is:List Nat) (E:Env) (hp:kX D is=some E) (h: ∀b,BelD w b->KW N ds K E b): ∀a b,ZT w b/\w.drawn<=b.drawn->FitD N ds D a b->K a b :=
 λa b c d=>h b ⟨c.1,c.2⟩ a (d.pick hp)
end
end
abbrev SI (w:World) (v:Value) (l:List Int):Prop:=SL aT (λk=>k<w.heap.size) w v l
theorem pY (h:SI w v l) (hb:ZT w w'):SI w' v l:=h.step jG hb
theorem eT {l:List α} {k:Nat} (h:k<l.length): ∃x,l[k]?=some x/\x∈l:=⟨l[k],ZD h,List.getElem_mem h⟩
theorem je (l:List Int): ∀u∈l.map (Value.int .i64),u.oneCell'=true:=by
 intro u a;obtain ⟨x,_,rfl⟩:=List.mem_map.1 a;rfl
theorem nN (h:SL aT F w v l): ∀x∈l,fE x:=λx a=>by
 obtain ⟨i,b,rfl⟩:=List.getElem_of_mem a;exact h.rngI (ZD b)
theorem wG {c:Nat} (h:SL aT F w (.slice A n c) l): ∀(j:Nat) (u:Value),(l.map (Value.int .i64))[j]?=some u-> ∃a,A=some a/\w.cell? (a.add j)=some u:=by
 intro j u b;simp only [List.getElem?_map] at b;obtain ⟨z,e,rfl⟩:=Option.map_eq_some_iff.1 b;obtain ⟨a,f,d,_⟩:=h.int e;exact ⟨a,f,by rw [Nat.mul_one] at d; exact d⟩
theorem xG {e:TypeId} (h:OwnS w e 1 v l.length (l.map (Value.int .i64))) (b: ∀x∈l,fE x) (hn:l.length<=9223372036854775807):SI w v l:=dU h b (λg a=>h.lt a) hn
theorem SL.getT {cap:Nat} {l:List ByteArray} (h:SL eB F w (.slice (some ad) n cap) l) {x:ByteArray} (d:l[i]?=some x):w.cell? (ad.add ((i:Int).toNat*1))=some (.string x):=by
 obtain ⟨a,e,b,_,⟨rfl,_⟩,c⟩:=h.at d;cases b;have:=c 0 (.string x) rfl;simpa [eB,Addr.add] using this
theorem SL.sizeT {l:List ByteArray} (h:SL eB F w v l): ∀x∈l,x.size<=9223372036854775807:=λx a=>by
 obtain ⟨A,b,_,_,_,c⟩:=h;obtain ⟨i,d,e⟩:=List.getElem_of_mem a;obtain ⟨_,_,_,_,_,f⟩:=c i x (by rw [<-e]; exact ZD d);exact f.2
section
def DEq (D D':DE):Prop:= ∀i,(bT D i=none/\bT D' i=none)\/ ∃c c' e,bT D i=some (c,e)/\bT D' i=some (c',e)/\(aF c↔aF c')
theorem DEq.symm {D D':DE} (h:DEq D D'):DEq D' D:=λi=>by
 rcases h i with ⟨a,b⟩|⟨c,d,e,a,b,f⟩
 .exact .inl ⟨b,a⟩
 .exact .inr ⟨d,c,e,b,a,f.symm⟩
theorem sH {c c':Option Bool} {e:Ent} (a:aF c↔aF c') (h:nM c e u w):nM c' e u w:=⟨λq=>h.1 (a.2 q),λq=>h.2 (λp=>q (a.1 p))⟩
theorem DEq.fitL {N:Nat} {L:List Nat} {a:Act} (h:DEq D D') (f:FitL N ds L D a w):FitL N ds L D' a w :=
 ⟨f.size,f.defers,λi g c e b=>by
  rcases h i with ⟨_,d⟩|⟨j,m,n,k,d,l⟩
  .rw [d] at b; cases b
  .rw [d] at b; cases b;exact sH l (f.slots i g j e k)⟩
theorem DEq.fitD {N:Nat} {a:Act} (h:DEq D D') (f:FitD N ds D a w):FitD N ds D' a w :=
 ⟨f.size,f.defers,λi c e b=>by
  rcases h i with ⟨_,d⟩|⟨g,l,m,j,d,k⟩
  .rw [d] at b; cases b
  .rw [d] at b; cases b;exact sH k (f.slots i g e j)⟩
theorem DEq.gd {ops:List Oper} (h:DEq D D') {g:Option (Nat×Bool)} {G':Option Bool} (hg:fD ops D' g=some G'): ∃G,fD ops D g=some G/\(aF G↔aF G'):=by
 cases g with
 | none=>exact ⟨G',hg,Iff.rfl⟩
 | some p =>
  obtain ⟨j,want⟩:=p;simp only [fD] at hg ⊢
  cases hd:(ops[j]?).bind (·.dst) with
  | none=>rw [hd] at hg; simp at hg
  | some d =>
   rw [hd] at hg;simp only at hg ⊢;rcases h d with ⟨_,h2⟩|⟨c,c',e,h1,h2,h3⟩
   .rw [h2] at hg; simp at hg
   .rw [h2] at hg;rw [h1]
    cases e with
    | pr φ=>rcases c' with _|c'<;>simp at hg
    | own φ S=>rcases c' with _|c'<;>simp at hg
    | ex v =>
     cases v with
     | bool b =>
      rcases c with _|c<;>rcases c' with _|c'<;>simp [aF] at h3<;>cases want<;>simp at hg<;>subst hg<;>simp [aF,h3]
     | _=>rcases c' with _|c'<;>simp at hg
theorem DEq.ins (h:DEq D D') {d:Option Tmp} {G G':Option Bool} (a:aF G↔aF G') (e:Ent):DEq (bG D d G e) (bG D' d G' e):=by
 cases d with
 | none=>exact h
 | some d =>
  intro i;simp only [bG,bT]
  cases Nat.beq d i with
  | true=>exact .inr ⟨G,G',e,rfl,rfl,a⟩
  | false=>exact h i
theorem DEq.drop (h:DEq D D') (s:List Nat):DEq (iC D s) (iC D' s):=λi=>by
 rw [my,my]
 split
 .exact .inl ⟨rfl,rfl⟩
 .exact h i
theorem DEq.eat (h:DEq D D') {a:Act} (he:Cn D eats a g):Cn D' eats a g:=by
 obtain ⟨s,c,e,d,b,f,i⟩:=he;rcases h s with ⟨q,_⟩|⟨n,j,o,k,l,m⟩
 .rw [q] at b; cases b
 .rw [k] at b; cases b;exact ⟨s,j,e,d,l,m.1 f,i⟩
theorem DEq.eatW (h:DEq D D') {a:Act} (he:Pk D eats a w g):Pk D' eats a w g:=by
 obtain ⟨s,c,e,d,b,f,i⟩:=he;rcases h s with ⟨q,_⟩|⟨n,j,o,k,l,m⟩
 .rw [q] at b; cases b
 .rw [k] at b; cases b;exact ⟨s,j,e,d,l,m.1 f,i⟩
theorem RG (h:DEq D D') (b:List Nat) (a:Act):Cn D b a=Cn D' b a:=funext λ_=>propext ⟨h.eat,h.symm.eat⟩
section
variable {P:Program} {N:Nat} {ds:List Deferred} {ops:List Oper} {w:World} {Fin:DE->Prop} {md:Mode}
theorem Pp (L: ∀D f,DEq D f->Fin f->Fin D): ∀ {D f:DE},DEq D f->DW P N ds md ops w Fin rest f->DW P N ds md ops w Fin rest D:=by
 induction rest with
 | nil=>intro D f h y; cases md<;>exact L D f h y
 | cons o rest z =>
  intro D f h y
  cases md with
  | weak =>
   obtain ⟨A,e,⟨j,k,l,m,n⟩,p⟩:=y;obtain ⟨G,r,d⟩:=h.gd j
   exact ⟨G,e,⟨r,k,l,m,λt a i u v=>n (d.1 t) a i u (h.fitL v)⟩,z (h.ins d e) p⟩
  | own =>
   obtain ⟨A,e,b,⟨j,k,l,m,n,B,C⟩,p⟩:=y;obtain ⟨G,r,d⟩:=h.gd j;refine ⟨G,e,b,⟨r,k,l,m,n,λs E=> ?_,λt a i u v=> ?_⟩,z ((h.drop b).ins d e) p⟩
   .obtain ⟨c,φ,S,q⟩:=B s E;rcases h s with ⟨_,x⟩|⟨F,I,J,H,x,_⟩
    .rw [x] at q; cases q
    .rw [x] at q; cases q;exact ⟨F,φ,S,H⟩
   .rw [RG h]
    exact C (d.1 t) a i u (h.fitL v)
  | cnt =>
   obtain ⟨A,e,⟨j,k,l,m,n⟩,p⟩:=y;obtain ⟨G,r,d⟩:=h.gd j
   exact ⟨G,e,⟨r,k,l,m,λt a i u v=>n (d.1 t) a i u (h.fitL v)⟩,z (h.ins d e) p⟩
  | free =>
   obtain ⟨A,e,b,⟨j,k,l,m,n,B,C⟩,p⟩:=y;obtain ⟨G,r,d⟩:=h.gd j;refine ⟨G,e,b,⟨r,k,l,m,n,λs E=> ?_,λt a i u v=> ?_⟩,z ((h.drop b).ins d e) p⟩
   .obtain ⟨c,φ,S,q⟩:=B s E;rcases h s with ⟨_,x⟩|⟨F,I,J,H,x,_⟩
    .rw [x] at q; cases q
    .rw [x] at q; cases q;exact ⟨F,φ,S,H⟩
   .have K:Pk D b a i=Pk f b a i:=funext λg=>propext ⟨h.eatW,h.symm.eatW⟩;rw [K];exact C (d.1 t) a i u (h.fitL v)
def IY:DE->DE
 | []=> []
 | (i,c,e)::D=>(i,zG c,e)::IY D
theorem EB: ∀D:DE,DEq D (IY D)
 | [],i=> .inl ⟨rfl,rfl⟩
 | (j,c,e)::D,i=>by
  simp only [IY,bT]
  cases Nat.beq j i with
  | true=>exact .inr ⟨c,zG c,e,rfl,rfl,(zF c).symm⟩
  | false=>exact EB D i
theorem eP (h:DW P N ds md ops w (λD=> ∀a b,ZT w b->FitD N ds D a b->K a b) rest (IY D)):DW P N ds md ops w (λD=> ∀a b,ZT w b->FitD N ds D a b->K a b) rest D :=
 Pp (λD g c d a b e f=>d a b e (c.fitD f)) (EB D) h
end
end
end Go.PF
namespace Go.Ord
inductive Chn (l:List Sc) (r:List Rc) (lab:ByteArray):List Nat->ByteArray->Prop
 | nil:Chn l r lab [] lab
 | snoc {c:List Nat} {a:ByteArray} {m:Nat} {x:Rc}:Chn l r lab c a->r[m]?=some x->Val l x->a∈x.cont->m ∉ c->c.length<3->Chn l r lab (c++ [m]) x.label
def dN (c:List Nat):List Int:=insAll [] (c.map λi:Nat=>(i:Int))
theorem jF (c:List Nat):Inc (dN c):=Inc.insAll List.Pairwise.nil
theorem mem_recI:x∈dN c↔ ∃i∈c,(i:Int)=x:=by
 unfold dN;rw [rz];simp
theorem Gc {c':List Nat} (h: ∀i,i∈c↔i∈c'):dN c=dN c':=mh (jF c) (jF c') λx=>by
 rw [mem_recI,mem_recI];constructor
 .rintro ⟨i,a,e⟩; exact ⟨i,(h i).1 a,e⟩
 .rintro ⟨i,a,e⟩; exact ⟨i,(h i).2 a,e⟩
theorem zO (c:List Nat) (i:Nat):dN (c++ [i])=insS (i:Int) (dN c):=by
 unfold dN insAll;simp
theorem o6 (h:c.Nodup):(dN c).length=c.length:=by
 have f:=dR (jF c).nodup λx a=>by
  obtain ⟨i,b,e⟩:=mem_recI.1 a;exact List.mem_map.2 ⟨i,b,e⟩
 have g:=dR (List.pairwise_map.2 (h.imp λd e=>d ZJ)) λx a=>by
  obtain ⟨i,b,e⟩:=List.mem_map.1 a;exact mem_recI.2 ⟨i,b,e⟩
 simp at f g;omega
theorem IA (h:i∈c):dN (c++ [i])=dN c:=Gc λj=>by
 simp;exact λe=>e ▸ h
theorem Chn.nodup {l:List Sc} {r:List Rc} (h:Chn l r lab c a):c.Nodup:=by
 induction h with
 | nil=>exact List.Pairwise.nil
 | snoc i j k m d n f =>
  refine List.pairwise_append.2 ⟨f,List.pairwise_singleton _ _,λx g y b e=> ?_⟩;rw [List.mem_singleton] at b;subst b;subst e;exact d g
theorem Chn.len {l:List Sc} {r:List Rc} (h:Chn l r lab c a):c.length<=3:=by
 cases h with
 | nil=>simp
 | snoc b d e f g i=>simp; omega
theorem Chn.lt {l:List Sc} {r:List Rc} (h:Chn l r lab c a): ∀m∈c,∃x,r[m]?=some x/\Val l x/\x.kind=2:=by
 induction h with
 | nil=>intro m b; cases b
 | snoc i e d f j k g =>
  intro m b;rcases ZH b with h|h
  .exact g m h
  .rw [List.mem_singleton] at h;subst h;exact ⟨_,e,d,d.man f⟩
structure Fol (l:List Sc) (r:List Rc) (lab:ByteArray) (e:Ev):Prop where
 has: ∃c a i x,Chn l r lab c a/\r[i]?=some x/\Val l x/\x.label=a/\e=kM l x (dN (c++ [i]))
theorem Fol.len {l:List Sc} {r:List Rc} {lab:ByteArray} {e:Ev} (h:Fol l r lab e):1<=e.needs.length/\e.needs.length<=4:=by
 obtain ⟨c,a,i,x,b,j,k,m,rfl⟩:=h.has;have n:=b.len;show 1<=(dN (c++ [i])).length/\(dN (c++ [i])).length<=4;by_cases d:i∈c
 .rw [IA d,o6 b.nodup];have:=List.length_pos_of_mem d;omega
 .rw [o6 (List.pairwise_append.2 ⟨b.nodup,List.pairwise_singleton _ _,λx g y f e=>by rw [List.mem_singleton] at f; subst f; subst e; exact d g⟩)];simp;omega
theorem Fol.size {l:List Sc} {r:List Rc} (h:Chn l r lab c a) (i:Nat):(dN (c++ [i])).length=if i∈c then c.length else c.length+1:=by
 by_cases b:i∈c
 .rw [if_pos b,IA b,o6 h.nodup]
 .rw [if_neg b,o6 (List.pairwise_append.2 ⟨h.nodup,List.pairwise_singleton _ _,λx f y d e=>by rw [List.mem_singleton] at d; subst d; subst e; exact b f⟩)];simp
theorem Chn.det {l:List Sc} {r:List Rc} (h:Chn l r lab c a) (f:Chn l r lab c b):a=b:=by
 cases h with
 | nil =>
  generalize d:([]:List Nat)=c at f
  cases f with
  | nil=>rfl
  | snoc=>exact absurd d.symm ZM
 | @snoc c0 j m x k i n o p q =>
  generalize d:c0++ [m]=c at f
  cases f with
  | nil=>simp at d
  | @snoc c1 s t u v g w y z A =>
   have:=List.append_inj' d rfl;obtain ⟨_,e⟩:=this;simp at e;subst e;rw [i] at g;cases g;rfl
theorem Chn.pre {l:List Sc} {r:List Rc} (h:Chn l r lab c b): ∀d f,c=d++f-> ∃a,Chn l r lab d a:=by
  induction h with
  | nil => intro d f e; have : d = [] := by cases d with | nil => rfl | cons x d => simp at e
           subst this; exact ⟨_,.nil⟩
  | @snoc c0 s m x g i j k n o p =>
    intro d f e;rcases List.eq_nil_or_concat f with rfl|⟨q,y,rfl⟩
    . rw [List.append_nil] at e
      subst e;exact ⟨_,g.snoc i j k n o⟩
    . rw [List.concat_eq_append,<-List.append_assoc] at e
      exact p d q (List.append_inj' e rfl).1
theorem Chn.last {l:List Sc} {r:List Rc} {m:Nat} (h:Chn l r lab (c++ [m]) b): ∃a x,Chn l r lab c a/\r[m]?=some x/\Val l x/\a∈x.cont/\m ∉ c/\c.length<3/\x.label=b:=by
 generalize d:c++ [m]=c' at h
 cases h with
 | nil=>simp at d
 | @snoc c1 o p q f g i j k n =>
  obtain ⟨rfl,e⟩:=List.append_inj' d rfl;simp at e;subst e;exact ⟨_,_,f,g,i,j,k,n,rfl⟩
def Ext (l:List Sc) (r:List Rc) (lab:ByteArray) (c:List Nat) (e:Ev):Prop:= ∃c' b i x,Chn l r lab (c++c') b/\r[i]?=some x/\Val l x/\x.label=b/\e=kM l x (dN (c++c'++ [i]))
theorem En {l:List Sc} {r:List Rc} (h:Chn l r lab c a) (e:Ev):Ext l r lab c e↔(∃i x,r[i]?=some x/\Val l x/\x.label=a/\e=kM l x (dN (c++ [i])))\/ ∃m x,r[m]?=some x/\Val l x/\a∈x.cont/\m ∉ c/\c.length<3/\Ext l r lab (c++ [m]) e:=by
 constructor
 .rintro ⟨d,b,i,x,g,j,k,n,f⟩
  cases d with
  | nil =>
   rw [List.append_nil] at g f;have:=h.det g;subst this
   exact .inl ⟨i,x,j,k,n,f⟩
  | cons m d =>
   right;have o:c++m::d=(c++ [m])++d:=ZM;rw [o] at g f;obtain ⟨z,p⟩:=g.pre _ _ rfl;obtain ⟨A,y,w,q,s,t,u,v,B⟩:=p.last;have:=h.det w;subst this;exact ⟨m,y,q,s,t,u,v,d,b,i,x,g,j,k,n,f⟩
 .rintro (⟨i,x,j,k,n,f⟩|⟨m,y,q,s,t,u,v,d,b,i,x,g,j,k,n,f⟩)
  .exact ⟨[],a,i,x,by simpa using h,j,k,n,by simpa using f⟩
  .have o:c++m::d=(c++ [m])++d:=ZM;exact ⟨m::d,b,i,x,by rw [o]; exact g,j,k,n,by rw [o]; exact f⟩
theorem fol_iff {l:List Sc} {r:List Rc}:Fol l r lab e↔Ext l r lab [] e:=by
 constructor
 .rintro ⟨c,a,i,x,b,d,f,g,h⟩;exact ⟨c,a,i,x,b,d,f,g,h⟩
 .rintro ⟨c,a,i,x,b,d,f,g,h⟩;exact ⟨c,a,i,x,b,d,f,g,h⟩
theorem Ext.len {l:List Sc} {r:List Rc} {lab:ByteArray} {c:List Nat} {e:Ev} (h:Ext l r lab c e):c.length<=e.needs.length/\e.needs.length<=4:=by
 obtain ⟨a,b,i,x,d,j,k,m,rfl⟩:=h;show c.length<=(dN (c++a++ [i])).length/\(dN (c++a++ [i])).length<=4;have f:=Fol.size d i;have g:=d.len;simp at g;rw [f]
 split
 .simp; omega
 .simp; omega
theorem ext_size {l:List Sc} {r:List Rc} (h:Chn l r lab c a) (hn:c.length<=min n 3) (e:Ev):(Ext l r lab c e/\e.needs.length=n) ↔
  (n<=c.length+1/\ ∃i x,r[i]?=some x/\Val l x/\x.label=a/\(i∈c↔c.length=n)/\e=kM l x (dN (c++ [i])))\/(c.length≠min n 3/\ ∃m x,r[m]?=some x/\Val l x/\a∈x.cont/\m ∉ c/\Ext l r lab (c++ [m]) e/\e.needs.length=n):=by
 rw [En h];constructor
 .rintro ⟨⟨i,x,f,g,j,rfl⟩|⟨m,x,p,q,s,t,y,k⟩,o⟩
  .left;have v:=Fol.size h i;have b:(dN (c++ [i])).length=n:=o;rw [v] at b;by_cases d:i∈c
   .rw [if_pos d] at b;exact ⟨ZJ,i,x,f,g,j,⟨λ_=>b,λ_=>d⟩,rfl⟩
   .rw [if_neg d] at b;exact ⟨ZJ,i,x,f,g,j,⟨λh=>absurd h d,λh=>ZJ⟩,rfl⟩
  .right;have:=k.len.1;simp at this;exact ⟨ZJ,m,x,p,q,s,t,k,o⟩
 .rintro (⟨w,i,x,f,g,j,u,rfl⟩|⟨w,m,x,p,q,s,t,k,o⟩)
  .refine ⟨.inl ⟨i,x,f,g,j,rfl⟩,?_⟩;show (dN (c++ [i])).length=n;rw [Fol.size h i];by_cases d:i∈c
   .rw [if_pos d]; exact u.1 d
   .rw [if_neg d];have:c.length≠n:=λe=>d (u.2 e);omega
  .exact ⟨.inr ⟨m,x,p,q,s,t,ZJ,k⟩,o⟩
end Go.Ord
namespace Go.Proofs.YtoleahhfkpkcjaaGreatDoor
open Go.Proofs.Tryz
open Go.PF Go.RowKit Go.Ord
attribute [local irreducible] TW CW KW DW
theorem IQ:Gives prog 274 #[ZU x] w λu a=>a=w/\u= .bool false:=by
 refine gv func274 ntmps274 ?_;refine aB ?_;refine aO rfl ⟨rfl,ZM⟩
def ku (a b:Int):Int:=if a<b then -1 else if b<a then 1 else 0
theorem compare_e {a b:Int}:Gives prog 191 #[ZU a,ZU b] w λu i=>i=w/\u= ZU (ku a b):=by
 refine gv func191 ntmps191 ?_;refine aB ?_;refine aM rfl (IQ) ?_;rintro y k ⟨rfl,rfl⟩;refine aB ?_;refine aM rfl (IQ) ?_;rintro y l ⟨rfl,rfl⟩;refine aB ?_;refine aK rfl (λd=> ?_) (λj=> ?_)
 .cases d
 refine aB ?_;refine aK rfl (λd=> ?_) (λj=> ?_)
 .cases d
 refine aB ?_;refine aI rfl (λe=> ?_) (λc=> ?_)
 .refine aB ?_;refine aO rfl ⟨rfl,by unfold ku; rw [if_pos e]⟩
 refine aB ?_;refine aI rfl (λg=> ?_) (λh=> ?_)
 .refine aB ?_;refine aO rfl ⟨rfl,by unfold ku; rw [if_neg c,if_pos g]⟩
 refine aB ?_;refine aO rfl ⟨rfl,by unfold ku; rw [if_neg c,if_neg h]⟩
theorem lw: ∀ {a b:List Int} {k:Nat},a.take k=b.take k->cmpL a b=cmpL (a.drop k) (b.drop k)
 | a,b,0,_=>rfl
 | [],[],k+1,_=>by simp
 | [],y::b,k+1,h=>by simp at h
 | x::a,[],k+1,h=>by simp at h
 | x::a,y::b,k+1,h=>by
  simp at h;obtain ⟨rfl,h⟩:=h;simp only [List.drop_succ_cons];rw [<-lw h];simp [cmpL]
theorem FP {a b:List Int} (p:SL aT F w u a) (hb:SL aT G w v b) :
  Gives prog 244 #[u,v] w λx L=>L=w/\x= ZU (cmpL a b):=by
 obtain ⟨A,j,rfl,_⟩:=p.form;obtain ⟨B,m,rfl,_⟩:=hb.form;have H:=p.len.2.2;refine gv func244 ntmps244 ?_;refine aB ?_;refine cB (λk:Nat=> [(0,none,.slice A a.length j),(1,none,.slice B b.length m),(9,none,.slice A a.length j),(10,none,ZU (a.length:Int)),(11,none,ZU (k:Int))])
  (λk W=>k<=a.length/\k<=b.length/\a.take k=b.take k/\W=w) (λk=>a.length-k) 0 [0,1,9,10,11] ⟨ZJ,ZJ,ZM,rfl⟩ rfl ?_
 rintro k W ⟨Z,M,c,rfl⟩;refine aB ?_;refine aI rfl (λN=> ?_) (λO=> ?_)
 .obtain ⟨x,q,R⟩:=eT (l:=a) (k:=k) ZJ;obtain ⟨ad,rfl⟩:=p.addr ZJ;obtain ⟨r,s⟩:=ZE q;have d:a.drop k=x::a.drop (k+1):=by rw [<-s,<-List.drop_eq_getElem_cons r]
  refine aB ?_;refine aH rfl (p.getI q) ?_;refine aB ?_;refine dF [0,1,5,6,9,10,11,19] rfl ?_;refine aI rfl (λI=> ?_) (λS=> ?_)
  .refine aB ?_;refine aO rfl ⟨rfl,?_⟩;rw [lw c,d,List.drop_of_length_le (l:=b) ZJ];rfl
  obtain ⟨y,n,t⟩:=eT (l:=b) (k:=k) ZJ;obtain ⟨bd,rfl⟩:=hb.addr ZJ;obtain ⟨e,g⟩:=ZE n;have h:b.drop k=y::b.drop (k+1):=by rw [<-g,<-List.drop_eq_getElem_cons e]
  refine aB ?_;refine aH rfl (hb.getI n) ?_;refine aB ?_;refine aM rfl (compare_e) ?_;rintro z w1 ⟨rfl,rfl⟩;refine aB ?_;refine aI rfl (λi=> ?_) (λC=> ?_)
  .refine aB ?_;refine aO rfl ⟨rfl,?_⟩;rw [lw c,d,h];unfold ku at i ⊢;unfold cmpL
   split
   .rfl
   .split
    .rfl
    .rename_i U Y;rw [if_neg U,if_neg Y] at i;exact absurd rfl i
  .have D:x=y:=by
    have o:ku x y=0:=by
     apply Classical.byContradiction;exact C
    unfold ku at o
    split at o
    .cases o
    .split at o
     .cases o
     .omega
   refine aB ?_;refine bJ (k+1) [0,1,9,10,11] rfl ⟨ZJ,ZJ,?_,rfl⟩ ZJ;rw [ZG,ZG,q,n,c,D]
 .have E:k=a.length:=ZJ;subst E;rw [List.take_length] at c;have d:a.drop a.length= []:=List.drop_length;refine aB ?_;refine aI rfl (λJ=> ?_) (λK=> ?_)
  .obtain ⟨y,n,t⟩:=eT (l:=b) (k:=a.length) ZJ;obtain ⟨e,g⟩:=ZE n;have h:b.drop a.length=y::b.drop (a.length+1):=by rw [<-g,<-List.drop_eq_getElem_cons e]
   refine aB ?_;refine aO rfl ⟨rfl,?_⟩;rw [lw (k:=a.length) (by rw [List.take_length]; exact c),d,h];rfl
  .refine aB ?_;refine aO rfl ⟨rfl,?_⟩;rw [lw (k:=a.length) (by rw [List.take_length]; exact c),d,List.drop_of_length_le (l:=b) ZJ];rfl
def mq (e:Ev) (v:Value):List Value:= [ZU e.office,ZU e.low,ZU e.high,v]
structure EvOK (F:Nat->Prop) (w:World) (v:Value) (e:Ev):Prop where
 i1:fE e.office
 i2:fE e.low
 i3:fE e.high
 nd:SL aT F w v e.needs
theorem EvOK.step (h:EvOK (λk=>k<w.heap.size) w v e) (hb:ZT w w'):EvOK (λk=>k<w'.heap.size) w' v e:=⟨h.i1,h.i2,h.i3,pY h.nd hb⟩
theorem EvOK.below {F:Nat->Prop} {w w':World} {v:Value} {e:Ev} (h:EvOK F w v e) (hb:ZT w w'):EvOK F w' v e:=⟨h.i1,h.i2,h.i3,h.nd.below hb⟩
theorem Ny (h:EvOK F w v e) (hn:e.needs.length<=1000000) :
  Gives prog 152 #[.agg (mq e v).toArray] w λx j=>BelD w j/\OwnS j 3 1 x (dG e).length ((dG e).map (Value.int .i64))/\SI j x (dG e):=by
 obtain ⟨A,t,rfl,_⟩:=h.nd.form;have u:=nN h.nd;have r:=h.nd.len.2.2;refine gv func152 ntmps152 ?_;refine aB ?_;refine Ck rfl rfl rfl rfl ?_;rintro G H a y;refine aB ?_;have c:=a.blk;have k:=h.nd.below a.below;refine aH rfl (c.fld rfl) ?_;refine aB ?_;refine aH rfl (c.fld rfl) ?_;refine aB ?_;refine aH rfl (c.fld rfl) ?_;refine aB ?_;refine aH rfl (c.fld rfl) ?_;refine yJ 3 _ rfl rfl rfl kN (aA rfl ct (aA rfl ct (aA rfl ct (aA rfl ct aJ)))) rfl rfl rfl rfl rfl ?_;rintro I J b z;refine aB ?_;have l:=k.below b.below;refine aH rfl ((c.next b.below).fld rfl) ?_;refine H9 (e.needs.map (Value.int .i64)) rfl rfl jH rfl (aV (n:=4) b.blk rfl ZJ) rfl ZM (wG l) (je _) ZJ ZJ ?_;rintro B s C m D o;refine aB ?_;have p:ZT w s:=(a.below.step b.below).grown m (a.below.step b.below).size (λq E=>by simp [Value.ownBlock] at E; have:=a.at_; have:=b.at_; have:=a.size; omega);have g:OwnS s 3 1 B (dG e).length ((dG e).map (Value.int .i64)):=by
  have:(dG e).length=4+e.needs.length:=by simp [dG]; omega
  rw [this];exact C
 refine aO rfl ⟨⟨p,Nat.le_trans y.d (Nat.le_trans z.d o)⟩,g,xG g (λx i=> ?_) (by simp [dG]; omega)⟩;unfold dG at i;simp only [List.mem_cons] at i;rcases i with rfl|rfl|rfl|rfl|i
 .exact ⟨by show (-9223372036854775808:Int)<=_; omega,by show _<=(9223372036854775807:Int); omega⟩
 .exact h.i1
 .exact h.i2
 .exact h.i3
 .exact u x i
theorem JG (he:EvOK F w v e) (D:EvOK G w u f) (s:e.needs.length<=1000000) (t:f.needs.length<=1000000) (N:Blk w g 215 [.func (.func 152) #[] #[]]) :
  Gives prog 243 #[.agg (mq e v).toArray,.agg (mq f u).toArray,.pointer (some ⟨g,0,none⟩)] w λx j=>BelD w j/\x= ZU (kr e f):=by
 obtain ⟨A,E,rfl,_⟩:=he.nd.form;obtain ⟨B,y,rfl,_⟩:=D.nd.form;refine gv func243 ntmps243 ?_;refine aB ?_;refine Ck rfl rfl rfl rfl ?_;rintro O R H I;refine Ck rfl rfl rfl rfl ?_;rintro S U z J;have a:=I.trans J;have o:=he.below a.b;have p:=D.below a.b;have k:=N.next a.b;have l:=H.blk.next z.below;refine aB ?_;refine Px mixed ZK ?_;refine dH rfl (k.cell 0) ?_;refine kE rfl (λ_ _ q=>l.fld q) ?_;refine ve (.pr λx W=>SI W x (dG e)) (λ_ _ _ r h=>pY h r) rfl rfl Sq rfl ct (bN rfl ct gP) (λ_ j c C m=> ?_) ?_
 .obtain ⟨_,rfl,rfl⟩:=Sats.one m;exact (Ny (o.below c) s).mono λx n ⟨d,_,i⟩=>⟨d,i⟩
 refine dH rfl (k.cell 0) ?_;refine kE rfl (λ_ _ q=>z.blk.fld q) ?_;refine ve (.pr λx W=>SI W x (dG f)) (λ_ _ _ r h=>pY h r) rfl rfl Sq rfl ct (bN rfl ct gP) (λ_ j c C m=> ?_) ?_
 .obtain ⟨_,rfl,rfl⟩:=Sats.one m;exact (Ny (p.below c) t).mono λx n ⟨d,_,i⟩=>⟨d,i⟩
 refine ve (.ex (ZU (kr e f))) (trivial) rfl rfl VT rfl ct (bN rfl ct (bN rfl ct gP)) (λ_ j c C m=> ?_) ?_
 .obtain ⟨K,L,rfl,d,i⟩:=Sats.two m;have d:SI j K (dG e):=d;have i:SI j L (dG f):=i;exact (FP d i).mono λx n ⟨d,i⟩=>⟨d ▸ BelD.refl _,i⟩
 refine bR fG rfl ⟨ct,trivial⟩ (λ_=>trivial) ?_;refine gZ (RN [0,1,2,3,4,5] [(0,_,_),(1,_,_),(2,_,_),(3,_,_),(4,_,_),(5,_,_)] rfl (λY M=>aN ?_));refine rX ?_;refine aO rfl ⟨a.trans M,rfl⟩
end Go.Proofs.YtoleahhfkpkcjaaGreatDoor
namespace Go.Ord
theorem Fol.facts {l:List Sc} {r:List Rc} (h:Fol l r lab e):Inc e.needs/\(∀n∈e.needs,∃(i:Nat) (x:Rc),n=(i:Int)/\r[i]?=some x/\Val l x)/\(∃(i:Nat) (x:Rc),(i:Int)∈e.needs/\r[i]?=some x/\e=kM l x e.needs)/\ ∀n,e.needs= [n]-> ∃(i:Nat) (x:Rc),n=(i:Int)/\r[i]?=some x/\(x.label=lab\/x.kind=2):=by
 obtain ⟨c,a,i,x,p,g,s,t,rfl⟩:=h.has;have u: ∀n,n∈dN (c++ [i])-> ∃(j:Nat) (y:Rc),n=(j:Int)/\r[j]?=some y/\Val l y:=λn k=>by
  obtain ⟨j,b,rfl⟩:=mem_recI.1 k;rcases ZH b with b|b
  .obtain ⟨y,o,v,_⟩:=p.lt j b;exact ⟨j,y,rfl,o,v⟩
  .rw [List.mem_singleton] at b;subst b;exact ⟨j,x,rfl,g,s⟩
 refine ⟨jF _,u,⟨i,x,mem_recI.2 ⟨i,ZM,rfl⟩,g,rfl⟩,λn k=> ?_⟩;have w:(i:Int)=n:=by
  have d:(i:Int)∈(kM l x (dN (c++ [i]))).needs:=mem_recI.2 ⟨i,ZM,rfl⟩;rw [k] at d;exact List.mem_singleton.1 d
 refine ⟨i,x,w.symm,g,?_⟩;by_cases q:c= []
 .subst q;have:=p.det .nil;rw [t,this];exact .inl rfl
 .obtain ⟨m,f⟩:=List.exists_mem_of_ne_nil c q;have d:(m:Int)∈(kM l x (dN (c++ [i]))).needs:=mem_recI.2 ⟨m,by simp [f],rfl⟩;rw [k] at d;have A:=List.mem_singleton.1 d;have:m=i:=ZJ;subst this;obtain ⟨y,o,_,z⟩:=p.lt m f;rw [g] at o;cases o;exact .inr z
theorem SrtE.filter {l:List Ev} (p:Ev->Bool) (h:SrtE l):SrtE (l.filter p):=List.Pairwise.sublist List.filter_sublist h
def Xl (n:Nat) (l:List Int):List Int:=(l.map λk=>(n:Int)-1-k).reverse
def Yk (n:Nat) (e:Ev):Ev:=⟨e.office,e.low,e.high,Xl n e.needs⟩
theorem Chn.up {l:List Sc} {r s:List Rc} (h:Chn l r lab c a):Chn l (r++s) lab c a:=by
 induction h with
 | nil=>exact .nil
 | @snoc c0 j m x k b d e f g i=>exact i.snoc (by rw [List.getElem?_append_left (ZE b).1]; exact b) d e f g
def Yn (n:Nat) (e:Ev):Ev:=if (n:Int)∈e.needs then e else ⟨e.office,e.low,e.high,e.needs++ [(n:Int)]⟩
section
structure Emb (φ:Nat->Nat) (r r':List Rc):Prop where
 mono: ∀i j,i<j->φ i<φ j
 at_: ∀i,r'[φ i]?=r[i]?
theorem Dw (h: ∀i j,i<j->φ i<φ j) {j:Nat} (e:φ i=φ j):i=j:=by
 rcases Nat.lt_trichotomy i j with q|q|q
 .have:=h _ _ q; omega
 .exact q
 .have:=h _ _ q; omega
def dI (φ:Nat->Nat) (l:List Int):List Int:=l.map λn=>((φ n.toNat:Nat):Int)
def eQ (φ:Nat->Nat) (e:Ev):Ev:=⟨e.office,e.low,e.high,dI φ e.needs⟩
theorem mem_renI:x∈dI φ l↔ ∃n∈l,((φ n.toNat:Nat):Int)=x:=List.mem_map
theorem C6 (h: ∀i j,i<j->φ i<φ j) (hl:Inc l) (c: ∀n∈l,0<=n):Inc (dI φ l):=by
 unfold dI Inc;rw [List.pairwise_map];refine List.Pairwise.imp_of_mem (λ{a b} d e f=> ?_) hl;have:=c a d;have:=h a.toNat b.toNat ZJ;omega
theorem MM (h: ∀i j,i<j->φ i<φ j) (c: ∀n∈l,0<=n) (f:0<=x):((φ x.toNat:Nat):Int)∈dI φ l↔x∈l:=by
 rw [mem_renI];constructor
 .rintro ⟨n,a,e⟩;have d:=Dw h (i:=n.toNat) (j:=x.toNat) ZJ;have:=c n a;have:n=x:=ZJ;rw [<-this]; exact a
 .exact λb=>⟨x,b,rfl⟩
variable {φ:Nat->Nat} {l:List Sc} {r r':List Rc} {lab:ByteArray}
theorem Chn.emb (h:Emb φ r r') (o:Chn l r lab c a):Chn l r' lab (c.map φ) a:=by
 induction o with
 | nil=>exact .nil
 | snoc p d f g i j m =>
  rw [List.map_append];refine .snoc m ((h.at_ _).trans d) f g (λn=> ?_) (by simpa using j);obtain ⟨k,b,e⟩:=List.mem_map.1 n;rw [Dw h.mono e] at b;exact i b
theorem Chn.unemb (h:Emb φ r r') {c':List Nat} (u:Chn l r' lab c' a): ∀c:List Nat,c.map φ=c'->Chn l r lab c a:=by
 induction u with
 | nil =>
  intro c e;rw [List.map_eq_nil_iff.1 e]
  exact .nil
 | @snoc c0 v m x w f g i j n o =>
  intro c e;obtain ⟨p,d,rfl,q,b⟩:=List.map_eq_append_iff.1 e;obtain ⟨k,rfl,s⟩: ∃k,d= [k]/\φ k=m:=by
   cases d with
   | nil=>simp at b
   | cons k d =>
    simp at b;exact ⟨k,by rw [b.2],b.1⟩
  subst s q;exact .snoc (o p rfl) ((h.at_ k).symm.trans f) g i (λt=>j (List.mem_map_of_mem t)) (by simpa using n)
theorem Da: ∀n∈dN c,0<=n:=λn a=>by
 obtain ⟨i,_,e⟩:=mem_recI.1 a;omega
theorem Db (h: ∀i j,i<j->φ i<φ j) (c:List Nat):dN (c.map φ)=dI φ (dN c):=mh (jF _) (C6 h (jF _) Da) λx=>by
 rw [mem_recI,mem_renI];constructor
 .rintro ⟨i,b,e⟩;obtain ⟨k,a,rfl⟩:=List.mem_map.1 b;exact ⟨(k:Int),mem_recI.2 ⟨k,a,rfl⟩,e⟩
 .rintro ⟨n,d,e⟩;obtain ⟨k,a,rfl⟩:=mem_recI.1 d;exact ⟨φ k,List.mem_map_of_mem a,e⟩
theorem Fol.pos (h:Fol l r lab e): ∀n∈e.needs,0<=n:=λn b=>by
 obtain ⟨c,a,i,x,d,f,g,j,rfl⟩:=h.has;exact Da n b
theorem wL (h:Emb φ r r') {e':Ev}:(Fol l r' lab e'/\ ∀n∈e'.needs,∃i:Nat,n=((φ i:Nat):Int))↔ ∃e,Fol l r lab e/\e'=eQ φ e:=by
 constructor
 .rintro ⟨⟨b,a,u,x,g,o,p,q,rfl⟩,s⟩;have f: ∀j∈b++ [u],∃i,φ i=j:=λj d=>by
   obtain ⟨i,v⟩:=s (j:Int) (mem_recI.2 ⟨j,d,rfl⟩);exact ⟨i,ZJ⟩
  have t: ∀b:List Nat,(∀j∈b,∃i,φ i=j)-> ∃c:List Nat,c.map φ=b:=by
   intro b
   induction b with
   | nil=>exact λ_=>⟨[],rfl⟩
   | cons j b w =>
    intro d;obtain ⟨i,v⟩:=d j ZM;obtain ⟨c,y⟩:=w λk z=>d k (by simp [z]);exact ⟨i::c,by rw [List.map_cons,v,y]⟩
  obtain ⟨c,rfl⟩:=t b λj d=>f j (by simp [d]);obtain ⟨i,rfl⟩:=f u ZM;refine ⟨kM l x (dN (c++ [i])),⟨c,a,i,x,g.unemb h c rfl,(h.at_ i).symm.trans o,p,q,rfl⟩,?_⟩;have:c.map φ++ [φ i]=(c++ [i]).map φ:=ZM;rw [this,Db h.mono];rfl
 .rintro ⟨e,⟨c,a,i,x,g,o,p,q,rfl⟩,rfl⟩;refine ⟨⟨c.map φ,a,φ i,x,g.emb h,(h.at_ i).trans o,p,q,?_⟩,λn A=> ?_⟩
  .have:c.map φ++ [φ i]=(c++ [i]).map φ:=ZM;rw [this,Db h.mono];rfl
  .obtain ⟨m,B,e⟩:=mem_renI.1 A;exact ⟨m.toNat,e.symm⟩
theorem EL (h: ∀i j,i<j->φ i<φ j): ∀ {a b:List Int},(∀n∈a,0<=n)->(∀n∈b,0<=n)->cmpL (dI φ a) (dI φ b)=cmpL a b
 | [],[],_,_=>rfl
 | [],_::_,_,_=>rfl
 | _::_,[],_,_=>rfl
 | x::a,y::b,d,e=>by
  have g:=d x ZM;have k:=e y ZM;have f:=EL h (a:=a) (b:=b) (λn c=>d n (by simp [c])) (λn c=>e n (by simp [c]));show (if ((φ x.toNat:Nat):Int)<((φ y.toNat:Nat):Int) then (-1:Int) else if ((φ y.toNat:Nat):Int)<((φ x.toNat:Nat):Int) then 1 else cmpL (dI φ a) (dI φ b))=if x<y then -1 else if y<x then 1 else cmpL a b
  rw [f];rcases Int.lt_trichotomy x y with q|q|q
  .have:=h x.toNat y.toNat ZJ;rw [if_pos ZJ,if_pos q]
  .subst q;rw [if_neg ZJ,if_neg ZJ,if_neg ZJ,if_neg ZJ]
  .have:=h y.toNat x.toNat ZJ;rw [if_neg ZJ,if_pos ZJ,if_neg ZJ,if_pos q]
theorem QG (h: ∀i j,i<j->φ i<φ j) (he: ∀n∈e.needs,0<=n) (b: ∀n∈f.needs,0<=n):uD (eQ φ e) (eQ φ f)↔uD e f:=by
 have:kr (eQ φ e) (eQ φ f)=kr e f:=by
  show cmpL (((dI φ e.needs).length:Int)::e.office::e.low::e.high::dI φ e.needs) (((dI φ f.needs).length:Int)::f.office::f.low::f.high::dI φ f.needs)=cmpL ((e.needs.length:Int)::e.office::e.low::e.high::e.needs) ((f.needs.length:Int)::f.office::f.low::f.high::f.needs);have a: ∀l:List Int,(dI φ l).length=l.length:=λl=>List.length_map ..;rw [a,a];simp only [cmpL,EL h he b]
 unfold uD;rw [this]
theorem Im (h: ∀i j,i<j->φ i<φ j) {k:List Ev} (hs:SrtE k) (d: ∀e∈k,∀n∈e.needs,0<=n):SrtE (k.map (eQ φ)):=by
 unfold SrtE;rw [List.pairwise_map];exact List.Pairwise.imp_of_mem (λ{a b} f g c=>(QG h (d a f) (d b g)).2 c) hs
def jq (r:List Rc) (p:Nat) (x:Rc):List Rc:=r.take p++x::r.drop p
def sh (p i:Nat):Nat:=if i<p then i else i+1
theorem sI (p:Nat): ∀i j,i<j->sh p i<sh p j:=λi j h=>by
 unfold sh
 split<;>split<;>omega
theorem wN {x:Rc} (hp:p<=r.length):Emb (sh p) r (jq r p x):=⟨sI p,λi=>by
 unfold sh jq
 split
 .rename_i h;rw [List.getElem?_append_left ZO,List.getElem?_take_of_lt h]
 .rw [List.getElem?_append_right ZO,List.length_take,Nat.min_eq_left hp,show i+1-p=(i-p)+1 by omega,List.getElem?_cons_succ,List.getElem?_drop,show p+(i-p)=i by omega]⟩
theorem NJ {x:Rc} (hp:p<=r.length):(jq r p x)[p]?=some x:=by
 unfold jq;rw [List.getElem?_append_right ZO,List.length_take,Nat.min_eq_left hp,Nat.sub_self];rfl
theorem Ky {x y:Rc} (hp:p<=r.length) (a:i≠p) (h:(jq r p x)[i]?=some y):y∈r:=by
 rcases ZI i p with q|q
 .have:=(wN (x:=x) hp).at_ i;rw [show sh p i=i by unfold sh; rw [if_pos q],h] at this;exact ZF this.symm
 .have:=(wN (x:=x) hp).at_ (i-1);rw [show sh p (i-1)=i by unfold sh; rw [if_neg ZJ]; omega,h] at this;exact ZF this.symm
theorem K7 {x:Rc} (hp:p<=r.length) (o:Q 0 lab) (q: ∀n a m,n<3->Q n a->m∈r->a∈m.cont->Q (n+1) m.label) (s: ∀n a,Q n a->a ∉ x.cont) (t:Chn l (jq r p x) lab c a):p ∉ c/\Q c.length a:=by
 induction t with
 | nil=>exact ⟨ZM,o⟩
 | @snoc c0 u m y v b w d z i j =>
  obtain ⟨k,f⟩:=j;have g:m≠p:=λe=>by
   subst e;rw [NJ hp] at b;cases b;exact s _ _ f d
  refine ⟨λh=> ?_,?_⟩
  .rcases ZH h with h|h
   .exact k h
   .simp at h; exact g h.symm
  .rw [List.length_append];exact q _ _ _ i f (Ky hp g b) d
theorem KC {x:Rc} (hp:p<=r.length) (z:Q 0 lab) (A: ∀n a m,n<3->Q n a->m∈r->a∈m.cont->Q (n+1) m.label) (d: ∀n a,Q n a->a ∉ x.cont/\a≠x.label) (h:Fol l (jq r p x) lab e): ∀n∈e.needs,∃i:Nat,n=((sh p i:Nat):Int):=λn f=>by
 obtain ⟨c,a,i,y,g,b,B,k,rfl⟩:=h.has;obtain ⟨o,s⟩:=K7 hp z A (λn a t=>(d n a t).1) g;have u:i≠p:=λe=>by
  subst e;rw [NJ hp] at b;cases b;exact (d _ _ s).2 k.symm
 obtain ⟨j,v,rfl⟩:=mem_recI.1 f;have w:j≠p:=λe=>by
  subst e;rcases ZH v with h|h
  .exact o h
  .simp at h; exact u h.symm
 rcases ZI j p with q|q
 .exact ⟨j,by unfold sh; rw [if_pos q]⟩
 .exact ⟨j-1,by unfold sh; rw [if_neg ZJ]; omega⟩
def Tch (r:List Rc) (x:Rc):Nat->ByteArray->Prop
 | 0,s=>s=x.label\/s∈x.cont
 | n+1,s=>Tch r x n s\/ ∃m∈r,Tch r x n m.label/\s∈m.cont
theorem Tch.zero {x:Rc} {s:ByteArray} (h:Tch r x 0 s): ∀n,Tch r x n s
 | 0=>h
 | n+1=> .inl (Tch.zero h n)
theorem ze {x:Rc} (hp:p<=r.length) (j: ¬Tch r x 3 lab) (h:Fol l (jq r p x) lab e): ∀n∈e.needs,∃i:Nat,n=((sh p i:Nat):Int):=by
 refine KC hp (Q:=λn a=> ¬Tch r x (3-n) a) j (λn a m k b c d f=>b ?_) (λn a b=>⟨λc=>b (Tch.zero (.inr c) _),λg=>b (Tch.zero (.inl g) _)⟩) h;rw [show 3-n=(3-(n+1))+1 by omega];exact .inr ⟨m,c,f,d⟩
end
section
def mP (s:ByteArray):List Int:=s.data.toList.map (λb=>(b.toNat:Int)+1)++ [0]
def iD (s t:ByteArray):Int:=cmpL (mP s) (mP t)
theorem Ah: ∀ {x y:List Int},(∀n∈x,1<=n)->(∀n∈y,1<=n)-> ∀a b:List Int,cmpL (x++0::a) (y++0::b)=if cmpL (x++ [0]) (y++ [0])=0 then cmpL a b else cmpL (x++ [0]) (y++ [0])
 | [],[],_,_,a,b=>by simp [cmpL]
 | [],n::y,_,c,a,b=>by
  have:=c n ZM;have h:(0:Int)<n:=ZJ
  simp [cmpL,h]
 | n::x,[],d,_,a,b=>by
  have:=d n ZM;have h:(0:Int)<n:=ZJ;have i: ¬n<0:=ZJ
  simp [cmpL,h,i]
 | n::x,m::y,d,c,a,b=>by
  have j:=Ah (x:=x) (y:=y) (λk e=>d k (by simp [e])) (λk e=>c k (by simp [e])) a b;simp only [List.cons_append,cmpL];rw [j];by_cases f:n<m
  .simp [f]
  .by_cases g:m<n
   .simp [f,g]
   .simp [f,g]
theorem tN (s t:ByteArray) (a b:List Int):cmpL (mP s++a) (mP t++b)=if iD s t=0 then cmpL a b else iD s t:=by
 have h: ∀s:ByteArray,∀n∈s.data.toList.map (λb=>(b.toNat:Int)+1),1<=n:=λs n hn=>by
  obtain ⟨b,_,rfl⟩:=List.mem_map.1 hn;omega
 unfold iD mP;rw [List.append_assoc,List.append_assoc];exact Ah (h s) (h t) a b
theorem DD {α β:Type} {f:α->β} (c: ∀a b,f a=f b->a=b): ∀ {l m:List α},l.map f=m.map f->l=m
 | [],[],_=>rfl
 | [],_::_,h=>by simp at h
 | _::_,[],h=>by simp at h
 | x::l,y::m,h=>by
  simp only [List.map_cons,List.cons.injEq] at h;rw [c _ _ h.1,DD c h.2]
theorem Om {s t:ByteArray} (h:mP s=mP t):s=t:=by
 have h1:=List.append_cancel_right h;have h2:s.data.toList=t.data.toList:=by
  refine DD (λa b e=> ?_) h1;have:a.toNat=b.toNat:=ZJ;exact UInt8.toNat_inj.1 this
 cases s; cases t
 congr 1
 exact Array.toList_inj.1 h2
theorem cmpS_eq {s t:ByteArray}:iD s t=0↔s=t:=⟨λh=>Om (cmpL_eq h),λh=>by rw [h]; exact ko _⟩
theorem tO: ∀a b:List Int,cmpL a b= -1\/cmpL a b=0\/cmpL a b=1
 | [],[]=> .inr (.inl rfl)
 | [],_::_=> .inl rfl
 | _::_,[]=> .inr (.inr rfl)
 | x::a,y::b=>by
  unfold cmpL
  split
  .exact .inl rfl
  .split
   .exact .inr (.inr rfl)
   .exact tO a b
theorem DT: ∀x y:List UInt8,Op.bytesLess x y=decide (cmpL (x.map (λb=>(b.toNat:Int)+1)++ [0]) (y.map (λb=>(b.toNat:Int)+1)++ [0])<0)
 | [],[]=>rfl
 | [],b::y=>by
  have:(0:Int)<(b.toNat:Int)+1:=ZJ;simp only [List.map_nil,List.map_cons,List.nil_append,List.cons_append,cmpL,if_pos this]
  rfl
 | a::x,[]=>by
  have c: ¬(a.toNat:Int)+1<0:=ZJ;have d:(0:Int)<(a.toNat:Int)+1:=ZJ;simp only [List.map_nil,List.map_cons,List.nil_append,List.cons_append,cmpL,if_pos d]
  rfl
 | a::x,b::y=>by
  have f:=DT x y;simp only [Op.bytesLess,List.map_cons,List.cons_append,cmpL];rcases Nat.lt_trichotomy a.toNat b.toNat with h|h|h
  .have c:=UInt8.lt_iff_toNat_lt.2 h;rw [if_pos ZJ];simp [c]
  .have c:=UInt8.toNat_inj.1 h;subst c;rw [if_neg ZJ,if_neg ZJ,f];have: ¬a<a:=λh=>by have:=UInt8.lt_iff_toNat_lt.1 h; omega
   simp
  .have c: ¬a<b:=λg=>by have:=UInt8.lt_iff_toNat_lt.1 g; omega
   have d:a≠b:=λe=>by rw [e] at h; omega
   rw [if_neg ZJ,if_pos ZJ];simp [c,d]
theorem toList_data (s:ByteArray):s.toList=s.data.toList:=Go.Lib.toList_data s
theorem uO (s t:ByteArray):Op.bytesLess s.toList t.toList=decide (iD s t<0):=by
 rw [toList_data,toList_data,DT];rfl
def oG:List ByteArray->List ByteArray->Int
 | [],[]=>0
 | [],_::_=> -1
 | _::_,[]=>1
 | s::a,t::b=>if iD s t=0 then oG a b else iD s t
def DX (r:Rc):List Int:=r.scn::r.num::r.kind::r.time::(mP r.label++((r.cont.length:Int)::r.cont.flatMap mP))
def qI (a b:Rc):Int:=cmpL (DX a) (DX b)
def kP (m n:Int):Int:=if m<n then -1 else if n<m then 1 else 0
theorem ny (x y:Int) (a b:List Int):cmpL (x::a) (y::b)=if kP x y=0 then cmpL a b else kP x y:=by
 unfold kP;show (if x<y then (-1:Int) else if y<x then 1 else cmpL a b)=_;by_cases h:x<y
 .simp [h]
 .by_cases c:y<x
  .simp [h,c]
  .simp [h,c]
theorem EM: ∀ {a b:List ByteArray},a.length=b.length->cmpL (a.flatMap mP) (b.flatMap mP)=oG a b
 | [],[],_=>rfl
 | [],_::_,h=>by simp at h
 | _::_,[],h=>by simp at h
 | s::a,t::b,h=>by
  rw [List.flatMap_cons,List.flatMap_cons,tN,EM (by simpa using h)];rfl
theorem I1 (a b:Rc):qI a b=if kP a.scn b.scn≠0 then kP a.scn b.scn else if kP a.num b.num≠0 then kP a.num b.num else if kP a.kind b.kind≠0 then kP a.kind b.kind else if kP a.time b.time≠0 then kP a.time b.time else if iD a.label b.label≠0 then iD a.label b.label else if kP a.cont.length b.cont.length≠0 then kP a.cont.length b.cont.length else oG a.cont b.cont:=by
 unfold qI DX;rw [ny,ny,ny,ny,tN,ny];simp only [ite_not];by_cases h:kP (a.cont.length:Int) (b.cont.length:Int)=0
 .have:a.cont.length=b.cont.length:=by
   unfold kP at h
   split at h
   .omega
   .split at h
    .omega
    .omega
  rw [EM this]
 .simp only [if_neg h]
theorem Oj: ∀ {a b:List ByteArray},a.length=b.length->a.flatMap mP=b.flatMap mP->a=b:=by
 intro a
 induction a with
 | nil=>intro b h _; exact (List.eq_nil_of_length_eq_zero h.symm).symm
 | cons s a ih =>
  intro b h e
  cases b with
  | nil=>simp at h
  | cons t b =>
   have h0:cmpL ((s::a).flatMap mP) ((t::b).flatMap mP)=0:=by rw [e]; exact ko _
   rw [List.flatMap_cons,List.flatMap_cons,tN] at h0
   split at h0
   .rename_i hs;have hst:=cmpS_eq.1 hs;subst hst;rw [ih (by simpa using h) (List.append_cancel_left e)]
   .rename_i hs; exact absurd h0 hs
theorem cmpR_eq {a b:Rc}:qI a b=0↔a=b:=by
 constructor
 .intro h;have h1:=cmpL_eq h;unfold DX at h1;simp only [List.cons.injEq] at h1;obtain ⟨e1,e2,e3,e4,e5⟩:=h1;have h0:cmpL (mP a.label++((a.cont.length:Int)::a.cont.flatMap mP)) (mP b.label++((b.cont.length:Int)::b.cont.flatMap mP))=0:=by rw [e5]; exact ko _
  rw [tN] at h0
  split at h0
  .rename_i hs;have hl:=cmpS_eq.1 hs;rw [hl] at e5;have e6:=List.append_cancel_left e5;simp only [List.cons.injEq] at e6;have e7:=Oj ZJ e6.2;cases a; cases b
   simp_all
  .rename_i hs; exact absurd h0 hs
 .rintro rfl;exact ko _
def xN (a b:Rc):Prop:=qI a b<0
theorem nT {a:Rc}: ¬xN a a:=by unfold xN; rw [cmpR_eq.2 rfl]; decide
theorem mZ {a b c:Rc} (h:xN a b) (d:xN b c):xN a c:=lS h d
theorem QF (a b:Rc):xN a b\/a=b\/xN b a:=by
 have c:=tO (DX a) (DX b);have d:qI a b= -qI b a:=qo _ _;unfold xN;rcases c with h|h|h
 .left; show cmpL (DX a) (DX b)<0; omega
 .right; left; exact cmpR_eq.1 h
 .right; right;have:qI a b=1:=h;omega
def l8 (l:List Rc):Prop:=l.Pairwise xN
theorem sD: ∀ {a b:List Rc},l8 a->l8 b->(∀x,x∈a↔x∈b)->a=b
 | [],[],_,_,_=>rfl
 | [],y::b,_,_,h=>by have:=(h y).2 ZM; cases this
 | x::a,[],_,_,h=>by have:=(h x).1 ZM; cases this
 | x::a,y::b,i,j,h=>by
  have c:=List.pairwise_cons.1 i;have d:=List.pairwise_cons.1 j;have e:x=y:=by
   rcases List.mem_cons.1 ((h x).1 ZM) with e|k
   .exact e
   .rcases List.mem_cons.1 ((h y).2 ZM) with e|l
    .exact e.symm
    .exact absurd (mZ (c.1 y l) (d.1 x k)) nT
  subst e;refine congrArg _ (sD c.2 d.2 λz=> ?_);constructor
  .intro g;rcases List.mem_cons.1 ((h z).1 (by simp [g])) with e|f
   .subst e; exact absurd (c.1 z g) nT
   .exact f
  .intro g;rcases List.mem_cons.1 ((h z).2 (by simp [g])) with e|f
   .subst e; exact absurd (d.1 z g) nT
   .exact f
structure PosR (l:List Rc) (x:Rc) (p:Nat):Prop where
 le:p<=l.length
 pre: ∀i y,i<p->l[i]?=some y->xN y x
 at_: ∀y,l[p]?=some y-> ¬xN y x
theorem PosR.uniq {l:List Rc} {x:Rc} {q:Nat} (h:PosR l x p) (b:PosR l x q):p=q:=by
 have a: ∀ {p q:Nat},PosR l x p->PosR l x q-> ¬p<q:=λ{p q} h b c=>by
  have d:p<l.length:=by have:=b.le; omega
  exact h.at_ _ (ZD d) (b.pre p _ c (ZD d))
 have e:=a h b;have f:=a b h;omega
noncomputable def lJ (l:List Rc) (x:Rc):Nat:=(l.takeWhile λy=>decide (qI y x<0)).length
theorem jh (l:List Rc) (x:Rc):PosR l x (lJ l x):=by
 unfold lJ
 induction l with
 | nil=>exact ⟨ZC,λi y h=>by simp at h,λy h=>by simp at h⟩
 | cons z l c =>
  rw [List.takeWhile_cons]
  split
  .rename_i b;simp only [decide_eq_true_eq] at b;refine ⟨by have:=c.le; simp only [List.length_cons]; omega,λi y d a=> ?_,λy a=>c.at_ y (by simpa using a)⟩
   cases i with
   | zero=>simp at a; subst a; exact b
   | succ i=>exact c.pre i y (by simp at d; exact d) (by simpa using a)
  .rename_i b;exact ⟨ZB,λi y h=>by simp at h,λy a=>by simp at a; subst a; unfold xN; simpa using b⟩
open Classical in
noncomputable def eZ (l:List Rc) (x:Rc):List Rc:=if x∈l then l else jq l (lJ l x) x
theorem PosR.found {l:List Rc} {x:Rc} (hs:l8 l) (h:PosR l x p):x∈l↔l[p]?=some x:=by
 constructor
 .intro e;obtain ⟨i,b⟩:=List.mem_iff_getElem?.1 e;have a:=(ZE b).1;rcases Nat.lt_trichotomy i p with q|q|q
  .exact absurd (h.pre i x q b) nT
  .rw [<-q]; exact b
  .have c:p<l.length:=ZJ;have d:=List.pairwise_iff_getElem.1 hs p i c a q;have f:l[i]=x:=by have:=ZD a; rw [b] at this; simpa using this.symm
   rw [f] at d;exact absurd d (h.at_ _ (ZD c))
 .exact λh=>ZF h
theorem Kq {l:List Rc} {x y:Rc}:y∈jq l p x↔y=x\/y∈l:=by
 unfold jq;rw [List.mem_append,List.mem_cons]
 conv=>rhs; rw [<-List.take_append_drop p l,List.mem_append]
 constructor
 .rintro (h|h|h)
  .exact .inr (.inl h)
  .exact .inl h
  .exact .inr (.inr h)
 .rintro (h|h|h)
  .exact .inr (.inl h)
  .exact .inl h
  .exact .inr (.inr h)
theorem mem_insertR {l:List Rc} {x y:Rc}:y∈eZ l x↔y=x\/y∈l:=by
 unfold eZ
 split
 .rename_i h;exact ⟨λa=> .inr a,λa=>a.elim (λe=>e ▸ h) id⟩
 .exact Kq
theorem JD {l:List Rc} {x:Rc} (hs:l8 l) (h:PosR l x p) (s:x ∉ l):l8 (jq l p x):=by
 have a: ∀i y,p<=i->l[i]?=some y->xN x y:=λi y b c=>by
  have d:=(ZE c).1;have m:p<l.length:=ZJ;have n: ∀z∈l,z≠x:=λz f e=>s (e ▸ f);have g:xN x l[p]:=by
   rcases QF x l[p] with q|q|q
   .exact q
   .exact absurd q.symm (n _ (List.getElem_mem m))
   .exact absurd q (h.at_ _ (ZD m))
  have o:l[i]=y:=by have:=ZD d; rw [c] at this; simpa using this.symm
  rcases ZI p i with q|q
  .rw [<-o]; exact mZ g (List.pairwise_iff_getElem.1 hs p i m d q)
  .have:i=p:=ZJ;subst this;rw [<-o]; exact g
 unfold l8 jq;rw [List.pairwise_append];refine ⟨hs.sublist (List.take_sublist _ _),List.pairwise_cons.2 ⟨λy c=> ?_,hs.sublist (List.drop_sublist _ _)⟩,λy c z f=> ?_⟩
 .obtain ⟨i,b⟩:=List.mem_iff_getElem?.1 c;rw [List.getElem?_drop] at b;exact a _ y ZJ b
 .obtain ⟨i,b⟩:=List.mem_iff_getElem?.1 c;have k:i<p:=by
   have:=(ZE b).1;simp at this;omega
  rw [List.getElem?_take_of_lt k] at b;have g:=h.pre i y k b;rcases List.mem_cons.1 f with rfl|f
  .exact g
  .obtain ⟨j,r⟩:=List.mem_iff_getElem?.1 f;rw [List.getElem?_drop] at r;exact mZ g (a _ z ZJ r)
theorem vC {l:List Rc} {x:Rc} (hs:l8 l):l8 (eZ l x):=by
 unfold eZ
 split
 .exact hs
 .rename_i h; exact JD hs (jh l x) h
end
end Go.Ord
namespace Go.Proofs.YtoleahhfkpkcjaaGreatDoor
open Go.Proofs.Tryz
open Go.PF Go.RowKit Go.Ord
attribute [local irreducible] TW CW KW DW
theorem DZ {x:ByteArray}:Gives prog 275 #[.string x] w λu a=>a=w/\u= .bool false:=by
 refine gw func275 ntmps275 ?_;refine aO rfl ⟨rfl,ZM⟩
theorem yt:Gives prog 197 #[.string a,.string b] w λu w'=>w'=w/\u= ZU (iD a b):=by
 refine gw func197 ntmps197 ?_;refine ce rfl DZ ?_;refine ce rfl DZ ?_;refine cF rfl ?_;refine cF rfl ?_;have hr:=tO (mP a) (mP b);rw [uO];refine iE rfl (λh=> ?_) λh=> ?_
 .simp only [decide_eq_true_eq] at h;refine aO rfl ⟨rfl,?_⟩;rcases hr with e|e|e
  .exact congrArg _ e.symm
  .have:iD a b=0:=e;omega
  .have:iD a b=1:=e;omega
 simp only [decide_eq_false_iff_not] at h;refine iE rfl (λg=> ?_) λg=> ?_
 .refine aO rfl ⟨rfl,?_⟩;have hne:iD a b≠0:=λe=>by rw [cmpS_eq.1 e] at g; simp at g
  rcases hr with e|e|e
  .have:iD a b= -1:=e;omega
  .exact absurd e hne
  .exact congrArg _ e.symm
 refine aO rfl ⟨rfl,?_⟩;rcases hr with e|e|e
 .have:iD a b= -1:=e;omega
 .exact congrArg _ e.symm
 .have e1:iD a b=1:=e;simp [uO,h] at g;have:a=b:=by
   rw [toList_data,toList_data] at g;cases a; cases b
   congr 1
   exact Array.toList_inj.1 g
  rw [cmpS_eq.2 this] at e1;omega
theorem qp: ∀ {a b:List ByteArray} {k:Nat},a.take k=b.take k->oG a b=oG (a.drop k) (b.drop k)
 | a,b,0,_=>rfl
 | [],[],k+1,_=>by simp
 | [],y::b,k+1,h=>by simp at h
 | x::a,[],k+1,h=>by simp at h
 | x::a,y::b,k+1,h=>by
  simp at h;obtain ⟨rfl,h⟩:=h;simp only [List.drop_succ_cons];rw [<-qp h];simp [oG,cmpS_eq]
theorem CU {a b:List ByteArray} (m:SL eB F w u a) (hb:SL eB G w v b) :
  Gives prog 200 #[u,v] w λx n=>n=w/\x= ZU (oG a b):=by
 obtain ⟨A,o,rfl,_⟩:=m.form;obtain ⟨B,j,rfl,_⟩:=hb.form;have l:=m.len.2.2;refine gw func200 ntmps200 ?_;refine Vp [0,1,9,10] 11 a.length (λk W=>W=w/\k<=b.length/\a.take k=b.take k) ⟨rfl,ZJ,rfl⟩ ?_;rintro k W t-⟨rfl,p,c⟩;refine cd rfl (λq=> ?_) λr=> ?_
 .refine cd rfl (λd=> ?_) λd=> ?_
  .refine aO rfl ⟨rfl,?_⟩;rw [qp c,List.drop_eq_getElem_cons (i:=k) ZJ,List.drop_eq_nil_of_le (ZJ:b.length<=k)];rfl
  have e:oG a b=if iD a[k] b[k]=0 then oG (a.drop (k+1)) (b.drop (k+1)) else iD a[k] b[k]:=by
   rw [qp c,List.drop_eq_getElem_cons (i:=k) ZJ,List.drop_eq_getElem_cons (i:=k) ZJ];rfl
  refine ce rfl yt ?_;refine cd rfl (λg=> ?_) λg=> ?_
  .refine aO rfl ⟨rfl,?_⟩;rw [e,if_neg (by simpa using g)]
  refine nS ⟨rfl,ZJ,?_⟩;have s:a[k]=b[k]:=cmpS_eq.1 (by simpa using g);rw [ZG,ZG,c,ZD (show k<a.length by omega),ZD (show k<b.length by omega),s]
 have h:k=a.length:=ZJ;subst h;have e:oG a b=oG [] (b.drop a.length):=by rw [qp c,List.drop_eq_nil_of_le ZC]
 refine cd rfl (λd=> ?_) λd=> ?_
 .refine aO rfl ⟨rfl,?_⟩;rw [e,List.drop_eq_getElem_cons (i:=a.length) ZJ];rfl
 refine aO rfl ⟨rfl,?_⟩;rw [e,List.drop_eq_nil_of_le ZJ];rfl
theorem tQ:Gives prog 189 #[.func (.func k) #[] #[]] w λu c=>ZT w c/\ ∃g,u= .agg #[.func (.func 190) #[] #[.pointer (some ⟨g,0,none⟩)]]/\Blk c g 257 [.func (.func k) #[] #[]]:=by
 refine gv func189 ntmps189 ?_;refine aB ?_;refine bY rfl rfl rfl rfl ?_;rintro e j a;refine gM rfl rfl RX ?_;rintro l m b;refine aB ?_;refine dS rfl rfl (aA rfl ct aJ) ?_;refine Jk rfl ?_;refine fq rfl rfl rfl b.blk is178.q rfl rfl rfl ?_;rintro n h d o;refine aB ?_;have p:=b.at_;have r:=a.at_;have s:=a.size;refine CZ results189 underlying178 (by exact is178.q) rfl (h) (⟨(a.below.step b.below).grown d (a.below.step b.below).size λq i=>(by cases i; omega),e,rfl,But.blk d (a.blk.next b.below) ZJ⟩)
theorem Uk:Gives prog 115 #[] w λu d=>ZT w d/\ ∃m n o p r,u= .agg #[.func (.func 190) #[] #[.pointer (some ⟨m,0,none⟩)],.func (.func 190) #[] #[.pointer (some ⟨n,0,none⟩)],.func (.func 190) #[] #[.pointer (some ⟨o,0,none⟩)],.func (.func 190) #[] #[.pointer (some ⟨p,0,none⟩)],.func (.func 196) #[] #[],.func (.func 190) #[] #[.pointer (some ⟨r,0,none⟩)],.func (.func 199) #[] #[]] /\
  Blk d m 257 [.func (.func 192) #[] #[]]/\Blk d n 257 [.func (.func 193) #[] #[]]/\Blk d o 257 [.func (.func 194) #[] #[]]/\Blk d p 257 [.func (.func 195) #[] #[]]/\Blk d r 257 [.func (.func 198) #[] #[]]:=by
 refine gv func115 ntmps115 ?_;refine aB ?_;refine gM rfl rfl UZ ?_;rintro t N v;refine aB ?_;refine fH rfl rfl EA rfl (aA rfl ct aJ) (tQ) ?_;rintro O R ⟨z,m,rfl,G⟩;refine aB ?_;refine fH rfl rfl EA rfl (aA rfl ct aJ) (tQ) ?_;rintro S U ⟨x,n,rfl,H⟩;refine aB ?_;refine fH rfl rfl EA rfl (aA rfl ct aJ) (tQ) ?_;rintro W Y ⟨s,o,rfl,I⟩;refine aB ?_;refine fH rfl rfl EA rfl (aA rfl ct aJ) (tQ) ?_;rintro Z w4 ⟨j,p,rfl,J⟩;refine Jk rfl ?_;refine aB ?_;refine fH rfl rfl EA rfl (aA rfl ct aJ) (tQ) ?_;rintro y5 y ⟨i,r,rfl,A⟩;refine Jk rfl ?_;refine Jk rfl ?_;have k:=((((v.below.step z).step x).step s).step j).step i;have b:Blk y t _ _:=v.blk.next ((((z.step x).step s).step j).step i);have s0:=v.at_;refine fq rfl rfl rfl b is179.q rfl rfl rfl ?_;rintro K L B hs;refine aB ?_;have l: ∀ {g c},Blk y g 257 c->g≠t->Blk K g 257 c:=λh a=>But.blk B h a;have C:=G.next (((x.step s).step j).step i);have D:=H.next ((s.step j).step i);have E:=I.next (j.step i);have F:=J.next i;have a: ∀ {g c},Blk y g 257 c->g≠t:=λh e=>by
  subst e;unfold Blk at h b;rw [b] at h;cases h
 refine RY results115 underlying179 is179.q rfl rfl L ⟨k.grown B k.size λq M=>(by cases M; omega),m,n,o,p,r,rfl,l C (a C),l D (a D),l E (a E),l F (a F),l A (a A)⟩
def Keyed (k:FuncId) (φ:Rc->Int):Prop:= ∀ {w:World} {v:Value} {r:Rc} {F:Nat->Prop},RcOK F w v r->Gives prog k #[.agg (iY r v).toArray] w (ZS w (ZU (φ r)))
theorem TP:Keyed 192 (·.scn):=by
 intro w v r F h;refine gw func192 ntmps192 ?_;refine nw rfl λg a f=> ?_;exact aO rfl ⟨f.below,rfl⟩
theorem TO:Keyed 193 (·.num):=by
 intro w v r F h;refine gw func193 ntmps193 ?_;refine nw rfl λg a f=> ?_;exact aO rfl ⟨f.below,rfl⟩
theorem TN:Keyed 194 (·.kind):=by
 intro w v r F h;refine gw func194 ntmps194 ?_;refine nw rfl λg a f=> ?_;exact aO rfl ⟨f.below,rfl⟩
theorem TM:Keyed 195 (·.time):=by
 intro w v r F h;refine gw func195 ntmps195 ?_;refine nw rfl λg a f=> ?_;exact aO rfl ⟨f.below,rfl⟩
theorem TK:Keyed 198 (λr=>(r.cont.length:Int)):=by
 intro w v r F h;obtain ⟨A,a,rfl,_⟩:=h.ct.form;refine gw func198 ntmps198 ?_;refine nw rfl λg b f=> ?_;exact aO rfl ⟨f.below,rfl⟩
theorem TL {a b:Rc}:Gives prog 196 #[.agg (iY a u).toArray,.agg (iY b v).toArray] w λx c=>ZT w c/\x= ZU (iD a.label b.label):=by
 refine gw func196 ntmps196 ?_;refine nw rfl λd e g=> ?_;refine nw rfl λh i j=> ?_;refine ce rfl yt ?_;exact aO rfl ⟨bP,rfl⟩
theorem TJ {a b:Rc} (d:RcOK F w u a) (hb:RcOK G w v b):Gives prog 199 #[.agg (iY a u).toArray,.agg (iY b v).toArray] w λx c=>ZT w c/\x= ZU (oG a.cont b.cont):=by
 refine gw func199 ntmps199 ?_;refine nw rfl λe g h=> ?_;refine nw rfl λi j k=> ?_;have l:=d.ct;have m:=hb.ct;refine ce rfl (CU (F:=F) (G:=G) tr tr) ?_;exact aO rfl ⟨bP,rfl⟩
theorem QM {φ:Rc->Int} (he:enters prog k=true) (o:Keyed k φ) {a b:Rc} (t:RcOK F w u a) (hb:RcOK G w v b) (y:Blk w g 257 [.func (.func k) #[] #[]]) :
  Gives prog 190 #[.agg (iY a u).toArray,.agg (iY b v).toArray,.pointer (some ⟨g,0,none⟩)] w λx e=>ZT w e/\x= ZU (ku (φ a) (φ b)):=by
 refine gv func190 ntmps190 ?_;refine aB ?_;refine bY rfl rfl rfl rfl ?_;rintro z A j;refine bY rfl rfl rfl rfl ?_;rintro B C i;refine aB ?_;refine ib mixed ZK ?_;have d:=(y.next j.below).next i.below;have l:=j.blk.next i.below;have m:=i.blk;have n:=j.below.step i.below;refine dH rfl (d.cell 0) ?_;refine kE rfl (λ_ _ h=>l.fld h) ?_;refine qB (.ex (ZU (φ a))) trivial rfl rfl he rfl ct (bO rfl ct dE) (λ_ e c=>o ((t.below n).below c)) ?_;refine dH rfl (d.cell 0) ?_;refine kE rfl (λ_ _ h=>m.fld h) ?_;refine qB (.ex (ZU (φ b))) trivial rfl rfl he rfl ct (bO rfl ct dE) (λ_ e c=>o ((hb.below n).below c)) ?_;refine vZ (.ex (ZU (ku (φ a) (φ b)))) trivial rfl (λ_ e c=>compare_e.mono λx p ⟨q,r⟩=>⟨q ▸ ZA,r⟩) ?_;refine jR ?_;refine pR [0,1,2,3,4,5] rfl λD s=> ?_;refine aB ?_;refine aO rfl ⟨n.step s,rfl⟩
end Go.Proofs.YtoleahhfkpkcjaaGreatDoor
