/- Texts of this claim,joined. -/
import Derived.TacticsIn
import Derived.OrdersIn
import Derived.Below
import Derived.Laws.Slices
import Derived.Laws.Strings
import Derived.Laws.StructEq
import Derived.Laws.Small
import Derived.Laws.Build
import Derived.Laws.Tables
import Derived.Laws.Rows
import Derived.Great.BuildSlice
import Derived.RangeFuncLeaves
set_option linter.unusedSimpArgs false
set_option linter.unusedVariables false
set_option maxRecDepth 100000
set_option maxHeartbeats 4000000
variable {t t' e:Go.TypeId} {R φ:Go.Value->Go.World->Prop} {o:Go.Oper} {vs cs:List Go.Value} {K:Go.Act->Go.World->Prop} {w w':Go.World} {G c:Option Bool} {b b':Bool} {xs:List Go.Operand} {F:Nat->Prop} {f:Go.FuncId} {s s':ByteArray} {L is:List Nat} {A:Option Go.Addr} {a:Go.Act} {g id d:Nat} {ad:Go.Addr} {ops:List Go.Oper} {ds:List Go.Deferred} {α β:Type}
namespace Go
open RowKit
theorem ZA {n : Nat} {w : World} : Below n w w := Below.refl _ _
theorem ZB {n : Nat} : 0 <= n := Nat.zero_le _
theorem ZC {n : Nat} : n <= n := Nat.le_refl _
theorem ZD {α : Type _} {l : List α} {i : Nat} (h : i < l.length) : l[i]? = some l[i] := List.getElem?_eq_getElem h
theorem ZE {α : Type _} {l : List α} {i : Nat} {a : α} (h : l[i]? = some a) : ∃ h : i < l.length, l[i] = a := List.getElem?_eq_some_iff.1 h
theorem ZF {α : Type _} {l : List α} {i : Nat} {a : α} (h : l[i]? = some a) : a ∈ l := List.mem_of_getElem? h
theorem ZG {α : Type _} {l : List α} {i : Nat} : l.take (i + 1) = l.take i ++ l[i]?.toList := List.take_add_one
theorem ZH {α : Type _} {a : α} {s t : List α} (h : a ∈ s ++ t) : a ∈ s \/ a ∈ t := List.mem_append.1 h
theorem ZI (a b : Nat) : a < b \/ a ≥ b := Nat.lt_or_ge a b
theorem ZJ {p : Prop} (h : p := by omega) : p := h
theorem ZK {p : Prop} (h : p := by kernel_rfl) : p := h
theorem ZL {p : Prop} (h : p := by decide) : p := h
theorem ZM {p : Prop} (h : p := by simp) : p := h
theorem ZN {p : Prop} (h : p := by rfl) : p := h
theorem ZO {p : Prop} (h : p := by simp; omega) : p := h
theorem ZP {p : Prop} (h : p := by simp [Op.operands,Call.operands]) : p := h
theorem ZQ {p : Prop} (h : p := by simp [Op.operands]) : p := h
theorem ZR {p : Prop} (h : p := by assumption) : p := h
abbrev ZS (w : World) (v : Value) : Value -> World -> Prop := λu w' => Below w.heap.size w w' /\ u = v
abbrev ZT (w w' : World) : Prop := Below w.heap.size w w'
abbrev ZU (x : Int) : Value := .int .i64 x
end Go
namespace Go.PF
open Go.RowKit
section
abbrev FR (r:Option Nat):Fence:= {Fence.wide with round:=r}
def aF:Option Bool->Prop
 | none=>True
 | some b=>b=true
abbrev Env:=List (Nat×Option Bool×Value)
def look:Env->Nat->Option (Option Bool×Value)
 | [],_=>none
 | (j,c,v)::E,i=>match Nat.beq j i with
  | true=>some (c,v)
  | false=>look E i
structure Fit (N:Nat) (ds:List Deferred) (E:Env) (a:Act):Prop where
 size:a.tmps.size=N
 defers:a.defers=ds
 slots: ∀i c v,look E i=some (c,v)->(aF c->a.tmps.getD i undef=v)/\(¬aF c->a.tmps.getD i undef=undef)
def ev (E:Env):Operand->Option (Option Bool×Value)
 | .tmp t=>look E t
 | .const v=>some (none,v)
 | .global g=>some (none,.pointer (some ⟨g,0,none⟩))
 | .func f=>some (none,.func (.func f) #[] #[])
theorem kF {i:Nat} (h:d≠i):Nat.beq d i=false:=by
 cases a:Nat.beq d i with
 | false=>rfl
 | true=>exact absurd (Nat.eq_of_beq_eq_true a) h
theorem ig (d:Nat):Nat.beq d d=true:=Nat.beq_refl d
theorem Fit.eval {N:Nat} {ds:List Deferred} {E:Env} {a:Act} (h:Fit N ds E a) {x:Operand} {c:Option Bool} {v:Value} (b:ev E x=some (c,v)) (d:aF c):a.eval x=v:=by
 cases x with
 | tmp t=>exact (h.slots t c v b).1 d
 | const u=>simp [ev] at b; exact b.2
 | global g=>simp [ev] at b; exact b.2
 | func f=>simp [ev] at b; exact b.2
def ins (E:Env) (d:Option Tmp) (c:Option Bool) (v:Value):Env :=
 match d with
 | none=>E
 | some d=>(d,c,v)::E
def aC (N:Nat):Option Tmp->Bool
 | none=>true
 | some d=>Nat.blt d N
theorem Fit.put {N:Nat} {ds:List Deferred} {E:Env} {a:Act} (h:Fit N ds E a) {d:Option Tmp} {c:Option Bool} {v u:Value} (l:aC N d=true) (h1:aF c->u=v) (m: ¬aF c->u=undef) :
  Fit N ds (ins E d c v) (a.put d u):=by
 cases d with
 | none=>exact h
 | some d =>
  have f:d<N:=by simpa [aC] using l
  refine ⟨by simp [Act.put,h.size],by simp [Act.put,h.defers],λi j k b=> ?_⟩;simp only [ins,look] at b;by_cases g:d=i
  .subst g;have e:=ig d;rw [e] at b;obtain ⟨rfl,rfl⟩:=b;have:(a.put (some d) u).tmps.getD d undef=u:=by
    simp [Act.put,h.size,f]
   rw [this];exact ⟨h1,m⟩
  .have e:=kF g;rw [e] at b;have:(a.put (some d) u).tmps.getD i undef=a.tmps.getD i undef:=by
    simp [Act.put,Array.getElem?_setIfInBounds_ne g]
   rw [this];exact h.slots i j k b
def gd (ops:List Oper) (E:Env):Option (Nat×Bool)->Option (Option Bool)
 | none=>some none
 | some (j,want)=>match (ops[j]?).bind (·.dst) with
  | none=>none
  | some d=>match look E d with
   | some (none,.bool b)=>match want with
    | true=>some (some b)
    | false=>some (some (!b))
   | some (some c,.bool b)=>match want with
    | true=>some (some (c&&b))
    | false=>some (some (c&& !b))
   | _=>none
theorem kr {a:Array Value} {v:Value} (h:d<a.size) (e:a.getD d undef=v):a[d]?=some v:=by
 rw [<-e]; simp [h]
def pg:Option Value->Option Bool
 | some (.bool b)=>some b
 | _=>none
theorem nz (ops:List Oper) (t:Array Value) (j:Nat):yielded ops.toArray t j=pg (((ops[j]?).bind (·.dst)).bind (t[·]?)):=by
 unfold yielded pg
 split<;>split<;>simp_all
theorem zF {x:Option Value} (h: ∀b,x≠some (.bool b)):pg x=none:=by
 unfold pg
 split
 .rename_i b; exact absurd rfl (h b)
 .rfl
theorem kQ {N:Nat} {E:Env} (h:Fit N ds E a) (e:gd ops E o.guard=some G) :
  (aF G->Region.wanted o (yielded ops.toArray a.tmps)=true)/\(¬aF G->Region.wanted o (yielded ops.toArray a.tmps)=false):=by
 unfold Region.wanted
 cases m:o.guard with
 | none=>rw [m] at e; simp [gd] at e; subst e; simp [aF]
 | some p =>
  obtain ⟨j,f⟩:=p;rw [m] at e;simp only [gd] at e
  cases q:(ops[j]?).bind (·.dst) with
  | none=>rw [q] at e; simp at e
  | some d =>
   rw [q] at e;simp only at e;simp only [nz,q,Option.bind_some]
   split at e
   .rename_i b r;have g:=(h.slots d none (.bool b) r).1 trivial;have n:a.tmps[d]?=some (.bool b):=by
     rcases ZI d a.tmps.size with i|k
     .exact kr i g
     .simp [Array.getElem?_eq_none k,undef] at g
    rw [n];cases f<;>simp at e<;>subst e<;>simp [aF,pg]
   .rename_i c b r;obtain ⟨g,l⟩:=h.slots d (some c) (.bool b) r
    cases c with
    | true =>
     have g:=g rfl;have n:a.tmps[d]?=some (.bool b):=by
      rcases ZI d a.tmps.size with i|k
      .exact kr i g
      .simp [Array.getElem?_eq_none k,undef] at g
     rw [n]
     cases f<;>simp at e<;>subst e<;>simp [aF,pg]
    | false =>
     have l:=l (by simp [aF]);have n: ∀b,a.tmps[d]?≠some (.bool b):=by
      intro b s;simp [s,undef] at l
     rw [zF n];cases f<;>simp at e<;>subst e<;>simp [aF]
   .cases e
def dX:Op->Bool
 | .defer _=>false
 | _=>true
theorem jc {r:Option Nat} {ρ:Operand->Value} (h:dX o.op=true):Oper.semAt r ρ o=execOp ρ o :=
 Oper.semAt_eq r ρ o λc a=>by rw [a] at h; cases h
section
variable {P:Program} {r:Option Nat} {Q:Exit->Act->World->Prop} {N:Nat} {ds:List Deferred}
def TW (P:Program) (r:Option Nat) (Q:Exit->Act->World->Prop) (N:Nat) (ds:List Deferred) (ops rest:List Oper) (E:Env) (w:World):Prop :=
 ∀ a,Fit N ds E a->wpListIn (FR r) 0 P ops.toArray Q rest a w
def CW (P:Program) (r:Option Nat) (Q:Exit->Act->World->Prop) (N:Nat) (ds:List Deferred) (c:Code) (E:Env) (w:World):Prop :=
 ∀ a,Fit N ds E a->c.wpIn (FR r) 0 P Q a w
def KW (N:Nat) (ds:List Deferred) (K:Act->World->Prop) (E:Env) (w:World):Prop:= ∀a,Fit N ds E a->K a w
theorem dG {E:Env} (h:KW N ds (Q .normal) E w):TW P r Q N ds ops [] E w:=λa b=>h a b
theorem dK {id:Nat} {ops:List Oper} {E:Env} {w:World} (h:TW P r Q N ds ops ops E w):CW P r Q N ds (.region id ops.toArray false) E w :=
 λa b=>wpIn_region_lit (h a b)
theorem fQ {x y:Code} {E:Env} {w:World} (h:CW P r (Exit.then (y.wpIn (FR r) 0 P Q) Q) N ds x E w):CW P r Q N ds (.seq x y) E w :=
 λa b=>wpIn_seq (h a b)
theorem tT {id:Nat} {c:Code} {E:Env} {w:World} (h:CW P r (Exit.inBlock id Q) N ds c E w):CW P r Q N ds (.block id c) E w :=
 λa b=>wpIn_block (h a b)
theorem oh {E:Env} {w:World} (h:KW N ds (Q .normal) E w):CW P r Q N ds .skip E w:=λa b=>wpIn_skip (h a b)
theorem qj {id:Nat} {E:Env} {w:World} (h:KW N ds (Q (.exit id)) E w):CW P r Q N ds (.exit id) E w:=λa b=>wpIn_exit (h a b)
theorem pJ {E:Env} {w:World} (h:KW N ds (Q .ret) E w):CW P r Q N ds .ret E w:=λa b=>wpIn_ret (h a b)
theorem aK {c:Operand} {x y:Code} {b:Bool} {E:Env} {w:World} (e:ev E c=some (none,.bool b)) (f:b=true->CW P r Q N ds x E w) (g:b=false->CW P r Q N ds y E w) :
  CW P r Q N ds (.cond c x y) E w :=
 λa d=>wpIn_cond_split (d.eval e trivial) (λh=>f h a d) (λh=>g h a d)
def pick (E:Env):List Nat->Option Env
 | []=>some []
 | i::is=>match look E i with
  | none=>none
  | some (c,v)=>match pick E is with
   | none=>none
   | some E'=>some ((i,c,v)::E')
theorem zh {E:Env}: ∀ {is:List Nat} {b:Env},pick E is=some b-> ∀i c v,look b i=some (c,v)->look E i=some (c,v)
 | [],b,h,i,c,v,a=>by simp [pick] at h; subst h; simp [look] at a
 | j::is,b,h,i,c,v,a=>by
  simp only [pick] at h
  split at h
  .cases h
  .rename_i l m f
   split at h
   .cases h
   .rename_i g k;simp only [Option.some.injEq] at h;subst h;simp only [look] at a;by_cases d:j=i
    .subst d;have e:=ig j;rw [e] at a;obtain ⟨rfl,rfl⟩:=a;exact f
    .have e:=kF d;rw [e] at a;exact zh k i c v a
theorem Fit.pick {E E':Env} (h:Fit N ds E a) (hp:PF.pick E is=some E'):Fit N ds E' a :=
 ⟨h.size,h.defers,λi c v b=>h.slots i c v (zh hp i c v b)⟩
theorem bD {K:Act->World->Prop} {E:Env} {w:World} (is:List Nat) (b:Env) (hp:PF.pick E is=some b) (h:KW N ds K b w):KW N ds K E w:=λa c=>h a (c.pick hp)
theorem Bw {c:Code} {E:Env} {w:World} (is:List Nat) (b:Env) (hp:PF.pick E is=some b) (h:CW P r Q N ds c b w):CW P r Q N ds c E w:=λa d=>h a (d.pick hp)
theorem IQ {α:Type} {c:Code} {E0:Env} {w:World} (E:α->Env) (J:α->World->Prop) (m:α->Nat) (u:α) (Z:J u w) (hE: ∀a,Fit N ds E0 a->Fit N ds (E u) a)
  (d: ∀x w,J x w->CW P r (Exit.then (λW Y=> ∃l,Fit N ds (E l) W/\J l Y/\m l<m x) Q) N ds c (E x) w):CW P r Q N ds (.loop c) E0 w:=by
 classical
 intro a D
 let I:Act->World->Prop:=λa w=> ∃x,Fit N ds (E x) a/\J x w
 let M:Act->World->Nat->Prop:=λa w n=> ∃x,Fit N ds (E x) a/\J x w/\m x=n
 have b: ∀a w,I a w-> ∃n,M a w n/\ ∀k,M a w k->n<=k:=by
  intro a w ⟨x,f,g⟩;have q: ∀k,(∃j,j<=k/\M a w j)-> ∃n,M a w n/\ ∀k,M a w k->n<=k:=by
   intro k
   induction k with
   | zero =>
    rintro ⟨j,F,s⟩;have:j=0:=ZJ;subst this
    exact ⟨0,s,λk _=>Nat.zero_le k⟩
   | succ k G =>
    rintro ⟨j,F,s⟩;by_cases v: ∃j,j<=k/\M a w j
    .exact G v
    .refine ⟨j,s,λi H=> ?_⟩;rcases ZI i j with K|t
     .exact absurd ⟨i,ZJ,H⟩ v
     .exact t
  exact q (m x) ⟨m x,ZC,x,f,g,rfl⟩
 let μ:Act->World->Nat:=λa w=>if h:I a w then Classical.choose (b a w h) else 0
 have L: ∀a w,I a w-> ∃x,Fit N ds (E x) a/\J x w/\m x=μ a w:=by
  intro a w h;have:=(Classical.choose_spec (b a w h)).1;simpa [μ,h] using this
 have o: ∀a w x,Fit N ds (E x) a->J x w->μ a w<=m x:=by
  intro a w x f g;have p:I a w:=⟨x,f,g⟩;have:=(Classical.choose_spec (b a w p)).2 (m x) ⟨x,f,g,rfl⟩;simpa [μ,p] using this
 refine wpIn_loop I μ ⟨u,hE a D,Z⟩ λy z p=> ?_;obtain ⟨x,f,g,O⟩:=L y z p;refine wpIn_mono (d x z g y f) λe R S A=> ?_
 cases e with
 | normal =>
  obtain ⟨l,B,C,U⟩:=A
  exact ⟨⟨l,B,C⟩,by rw [<-O]; exact Nat.lt_of_le_of_lt (o R S l B C) U⟩
 | _=>exact A
end
end
section
theorem ct:aF G->aF none:=λ_=>trivial
theorem cZ {c:Bool}:aF (some (c&&b))->aF (some c):=λh=>by simp only [aF,Bool.and_eq_true] at h ⊢; exact h.1
theorem pT {q:Prop}:aF G->q->aF none:=λ_ _=>trivial
theorem Cw:aF G->b=false->aF (some (!b)):=λ_ h=>by rw [h]; rfl
theorem Cv {c:Bool}:aF (some c)->b=false->aF (some (c&& !b)):=λa h=>by rw [h]; simpa using a
theorem qA:aF G->b=true->aF (some b):=λ_ h=>h
theorem uR {c:Bool}:aF (some c)->b=true->aF (some (c&&b)):=λa h=>by rw [h]; simpa using a
def Blk (w:World) (g:Nat) (t:TypeId) (cs:List Value):Prop:=w.heap[g]?=some (.cells cs.toArray t (0,0))
theorem Blk.lt (h:Blk w g t cs):g<w.heap.size:=(Array.getElem?_eq_some_iff.1 h).1
theorem Blk.cell {w:World} {g:Nat} {t:TypeId} {cs:List Value} (h:Blk w g t cs) (i:Nat):w.cell? ⟨g,i,none⟩=cs[i]?:=by
 unfold Blk at h; simp [World.cell?,h]
theorem Blk.fld (h:Blk w g t cs) {j:Nat} {v:Value} (hj:cs[j]?=some v):w.cell? (Addr.add ⟨g,0,none⟩ j)=some v:=by
 have e:Addr.add ⟨g,0,none⟩ j=⟨g,j,none⟩:=by unfold Addr.add; split<;>simp_all
 rw [e,h.cell,hj]
theorem Blk.frozen {w:World} {g:Nat} {t:TypeId} {cs:List Value} (h:Blk w g t cs) (i:Nat):w.frozen? ⟨g,i,none⟩=false:=by
 unfold Blk at h; simp [World.frozen?,h]
theorem Blk.below {B:Nat} (h:Blk w g t cs) (hb:Below B w w') (a:g<B):Blk w' g t cs:=(hb.block g a).trans h
theorem Blk.next (h:Blk w g t cs) (hb:ZT w w'):Blk w' g t cs:=h.below hb h.lt
theorem Blk.new (w:World) (t:TypeId) (cs:List Value):Blk (w.alloc (.cells cs.toArray t)) w.heap.size t cs:=heap_alloc_new w _
theorem Blk.set {w:World} {g:Nat} {t:TypeId} {cs:List Value} (h:Blk w g t cs) (i:Nat) (u:Value):Blk (w.setCell ⟨g,i,none⟩ u) g t (cs.set i u):=by
 unfold Blk at h ⊢;simp [World.setCell,Array.getElem?_modify,h]
theorem Blk.far (h:Blk w g t cs) {p:Addr} (hp:g≠p.block) (u:Value):Blk (w.setCell p u) g t cs:=(Below.heap_setCell w p u g hp).trans h
structure Fresh (w w':World) (g:Nat) (t:TypeId) (cs:List Value):Prop where
 at_:g=w.heap.size
 size:w'.heap.size=g+1
 below:ZT w w'
 blk:Blk w' g t cs
 drawn:w.drawn<=w'.drawn
theorem gD (w:World) (t:TypeId) (cs:List Value):Fresh w (w.alloc (.cells cs.toArray t)) w.heap.size t cs :=
 ⟨rfl,ZM,(ZA).alloc ZC _,Blk.new w t cs,ZC⟩
theorem ii (w:World) (o:Obj):ZT w (w.alloc o):=(ZA).alloc ZC o
theorem _root_.Go.RowKit.Below.step {w0:World} (h:ZT w0 w) (a:ZT w w'):ZT w0 w':=h.trans (a.mono h.size)
section
variable {P:Program} {r:Option Nat} {Q:Exit->Act->World->Prop} {N:Nat} {ds:List Deferred} {ops rest:List Oper} {E:Env} {w:World} {G:Option Bool}
variable {d:Option Tmp} {ty:TypeId} {pos:String} {af:Array Edge} {gu:Option (Nat×Bool)}
theorem fZ {v:Value} (i:gd ops E o.guard=some G) (e:aC N o.dst=true) (hn:dX o.op=true)
  (c:aF G-> ∀a,Fit N ds E a->(execOp a.eval o).run P w= .ok (.value v) w) (next:TW P r Q N ds ops rest (ins E o.dst G v) w):TW P r Q N ds ops (o::rest) E w:=by
 intro a d;obtain ⟨f,g⟩:=kQ d i;unfold wpListIn;by_cases b:aF G
 .rw [if_pos (f b)];refine ⟨λ_ _=>trivial,?_⟩;rw [jc hn,c b a d];exact next _ (d.put e (λ_=>rfl) (λh=>absurd b h))
 .rw [if_neg (by rw [g b]; simp)];exact ⟨λ_ _=>trivial,next _ (d.put e (λh=>absurd h b) (λ_=>rfl))⟩
theorem ek {v:Value} (d:o.guard=none) (e:aC N o.dst=true) (hn:dX o.op=true)
  (b: ∀a,Fit N ds E a->(execOp a.eval o).run P w= .ok (.value v) w') (next:TW P r Q N ds ops rest (ins E o.dst none v) w'):TW P r Q N ds ops (o::rest) E w:=by
 intro a c;unfold wpListIn;rw [if_pos (by simp [Region.wanted,d])];refine ⟨λ_ _=>trivial,?_⟩;rw [jc hn,b a c];exact next _ (c.put e (λ_=>rfl) (λh=>absurd trivial h))
theorem mr (d:o.guard=none) (e:o.dst=none) (hn:dX o.op=true)
  (b: ∀a,Fit N ds E a->(execOp a.eval o).run P w= .ok .skip w') (next:TW P r Q N ds ops rest E w'):TW P r Q N ds ops (o::rest) E w:=by
 intro a c;unfold wpListIn;rw [if_pos (by simp [Region.wanted,d])];refine ⟨λ_ _=>trivial,?_⟩;rw [jc hn,b a c];have:=next _ c
 simpa [Oper.uponIn,e,Act.put] using this
def Gives (P:Program) (f:FuncId) (args:Array Value) (w:World) (R:Value->World->Prop):Prop:=Calls P f args w λe w'=> ∃v,e= .returned v/\R v w'
theorem Gives.mono {f:FuncId} {args:Array Value} {R R':Value->World->Prop} (h:Gives P f args w R) (d: ∀v a,R v a->R' v a):Gives P f args w R' :=
 Calls.mono h λ_ _ ⟨v,b,c⟩=>⟨v,b,d v _ c⟩
theorem jQ {args:Array Value} {w:World} {R:Ending->World->Prop} (h:Calls P f args w R):CallsIn (FR r) 0 P f args w R:=by
 have a:CallsIn Fence.wide 0 P f args w R:=callsIn_wide.2 h
 cases r with
 | none=>exact a
 | some l=>exact a
theorem xN {vs:Array Value} (m:gd ops E o.guard=some G) (i:aC N o.dst=true) (hn:dX o.op=true)
  (d:aF G-> ∀a,Fit N ds E a->(execOp a.eval o).run P w= .ok (.enter f vs) w) (n:aF G->Gives P f vs w R)
  (next: ∀v c,(aF G->R v c)->(¬aF G->c=w)->TW P r Q N ds ops rest (ins E o.dst G v) c):TW P r Q N ds ops (o::rest) E w:=by
 intro a g;obtain ⟨j,k⟩:=kQ g m;unfold wpListIn;by_cases b:aF G
 .rw [if_pos (j b)];refine ⟨λ_ _=>trivial,?_⟩;rw [jc hn,d b a g];refine ⟨λh=>by simp [Fence.wide] at h,?_⟩;refine CallsIn.mono (jQ (n b)) ?_;rintro e c ⟨v,rfl,l⟩;exact next v c (λ_=>l) (λh=>absurd b h) _ (g.put i (λ_=>rfl) (λh=>absurd b h))
 .rw [if_neg (by rw [k b]; simp)];exact ⟨λ_ _=>trivial,next undef w (λh=>absurd h b) (λ_=>rfl) _ (g.put i (λh=>absurd h b) (λ_=>rfl))⟩
theorem KB {vs:Array Value} (d:o.guard=none) (e:aC N o.dst=true) (hn:dX o.op=true)
  (b: ∀a,Fit N ds E a->(execOp a.eval o).run P w= .ok (.enter f vs) w) (g:Gives P f vs w R)
  (next: ∀v c,R v c->TW P r Q N ds ops rest (ins E o.dst none v) c):TW P r Q N ds ops (o::rest) E w :=
 xN (by rw [d]; rfl) e hn (λ_=>b) (λ_=>g) (λv c h _=>next v c (h trivial))
theorem run_sizeOf {sz:Nat} (hs:(P.info? e).map (·.size)=some sz) (w:World):(sizeOf e).run P w= .ok sz w:=by
 cases a:P.info? e with
 | none=>simp [a] at hs
 | some i=>simp [a] at hs; simp [sizeOf,typeInfo,a,hs]
def one (P:Program) (t:TypeId):Bool:=match P.underlying t with
 | none|some (.struct _)|some (.array _ _)=>false
 | _=>true
theorem nG (h1:one P t=true) {v:Value} (c:w.cell? ad=some v):(loadVar t ad).run P w= .ok v w:=by
 unfold one at h1
 cases a:P.underlying t with
 | none=>simp [a] at h1
 | some b=>cases b<;>first|(simp [a] at h1; done)|simp [loadVar,isAgg,run_underlying a,c]
theorem je {fs:Array Field} (a:P.underlying t=some (.struct fs)) (hs:(P.info? t).map (·.size)=some cs.length) (b: ∀j v,cs[j]?=some v->w.cell? (ad.add j)=some v) :
  (loadVar t ad).run P w= .ok (.agg cs.toArray) w:=by
 simp [loadVar,isAgg,run_underlying a,run_sizeOf hs,run_loadCells_list w ad cs b]
def zeroCells (P:Program) (t:TypeId):Option (List Value):=((P.info? t).bind (·.zero)).map λv=>v.cells.toList
def enters (P:Program) (f:FuncId):Bool:=match P.funcs[f]? with
 | some fn=> !(fn.name== "runtime.NumGoroutine")&&fn.body.isSome
 | none=>false
theorem jF (h:enters P f=true) (args:Array Value) (w:World):(callFunc f args).run P w= .ok (.enter f args) w:=by
 unfold enters at h
 cases a:P.funcs[f]? with
 | none=>simp [a] at h
 | some b =>
  simp only [a,Bool.and_eq_true] at h;obtain ⟨c,g⟩:=h;have d: ¬b.body=none:=by cases i:b.body<;>simp_all
  have e: ¬b.name= "runtime.NumGoroutine" := by simpa using c
  simp [callFunc,a,e,d]
end
end
section
def mJ:List Value->Nat->Env
 | [],_=> []
 | v::vs,i=>(i,none,v)::mJ vs (i+1)
theorem uU: ∀(a:List Value) (k i:Nat) (c:Option Bool) (v:Value),look (mJ a k) i=some (c,v)->c=none/\k<=i/\a[i-k]?=some v
 | [],k,i,c,v,h=>by simp [mJ,look] at h
 | u::a,k,i,c,v,h=>by
  simp only [mJ,look] at h;by_cases b:k=i
  .subst b;rw [ig] at h;obtain ⟨rfl,rfl⟩:=h;simp
  .rw [kF b] at h;obtain ⟨d,f,e⟩:=uU a (k+1) i c v h;refine ⟨d,ZJ,?_⟩;have:i-k=(i-(k+1))+1:=ZJ;rw [this]; simpa using e
section
variable {P:Program} {r:Option Nat} {Q:Exit->Act->World->Prop} {N:Nat} {ds:List Deferred} {E:Env} {w:World}
theorem Dt (hle:vs.length<=N):Fit N [] (mJ vs 0) {tmps:=vs.toArray++Array.replicate (N-vs.toArray.size) undef,defers:= []}:=by
 refine ⟨ZO,rfl,λi c v h=> ?_⟩;obtain ⟨rfl,_,h3⟩:=uU vs 0 i c v h;refine ⟨λ_=> ?_,λh=>absurd trivial h⟩;have hlt:i<vs.length:=by
  rcases ZI i vs.length with h|h
  .exact h
  .simp [List.getElem?_eq_none h] at h3
 simp only [Nat.sub_zero] at h3;rw [ZD hlt] at h3;simp [Array.getElem?_append,hlt,h3]
theorem M4 {fn:Func} {c:Code} (d:Env) (i:P.funcs[f]?=some fn) (hb:fn.body=some c) (hn:fn.ntmps=N) (b:Nat.ble vs.length N=true) (hE:mJ vs 0=d)
  (h:CW P none (bodyPost P fn λe g=> ∃v,e= .returned v/\R v g) N [] c d w):Gives P f vs.toArray w R:=by
 have a:=Nat.le_of_ble_eq_true b;refine (callsIn_wide (n:=0)).1 (callsIn_of_wp i hb trivial ?_);rw [hn];exact h _ (hE ▸ Dt a)
theorem JU {fn:Func} {c:Code} (d:Env) (i:P.funcs[f]?=some fn) (hb:fn.body=some c) (hn:fn.ntmps=N) (b:Nat.ble vs.length N=true) (hE:mJ vs 0=d)
  (h:CW P none (bodyPostM (FR none) 0 P fn λe g=> ∃v,e= .returned v/\R v g) N [] c d w):Gives P f vs.toArray w R:=by
 have a:=Nat.le_of_ble_eq_true b;refine (callsIn_wide (n:=0)).1 (callsIn_of_wp_marks i hb trivial ?_);rw [hn];exact h _ (hE ▸ Dt a)
theorem aL {y:Code} (h:CW P r Q N ds y E w):KW N ds (Exit.then (y.wpIn (FR r) 0 P Q) Q .normal) E w:=h
theorem iO (h:KW N ds (Q (.exit id)) E w):KW N ds (Exit.then K Q (.exit id)) E w:=h
theorem Eu (h:KW N ds (Q .ret) E w):KW N ds (Exit.then K Q .ret) E w:=h
theorem fB (h:KW N ds (Q .normal) E w):KW N ds (Exit.inBlock id Q .normal) E w:=h
theorem zR (h:KW N ds (Q .ret) E w):KW N ds (Exit.inBlock id Q .ret) E w:=h
theorem kV (h:KW N ds (Q .normal) E w):KW N ds (Exit.inBlock id Q (.exit id)) E w:=λa b=>by
 simp only [Exit.inBlock]; exact h a b
theorem zQ {id':Nat} (b:Nat.beq id' id=false) (h:KW N ds (Q (.exit id')) E w):KW N ds (Exit.inBlock id Q (.exit id')) E w:=λa c=>by
 have:id'≠id:=λe=>by rw [e,ig] at b; cases b
 simp only [Exit.inBlock,if_neg this]; exact h a c
theorem bH {F:α->Env} {J:α->World->Prop} {m:α->Nat} {x:α} (a:α) (is:List Nat) (hp:PF.pick E is=some (F a)) (e:J a w) (hm:m a<m x) :
  KW N ds (Exit.then (λb c=> ∃a,Fit N ds (F a) b/\J a c/\m a<m x) Q .normal) E w :=
 λ_ d=>⟨a,d.pick hp,e,hm⟩
theorem bT {c:Code} (F:α->Env) (J:α->World->Prop) (m:α->Nat) (d:α) (is:List Nat) (h:J d w) (hE:PF.pick E is=some (F d))
  (a: ∀x w,J x w->CW P r (Exit.then (λf g=> ∃b,Fit N ds (F b) f/\J b g/\m b<m x) Q) N ds c (F x) w):CW P r Q N ds (.loop c) E w :=
 IQ F J m d h (λ_ e=>e.pick hE) a
theorem aI {c:Operand} {x y:Code} {p:Prop} [Decidable p] (a:ev E c=some (none,.bool (decide p))) (b:p->CW P r Q N ds x E w) (d: ¬p->CW P r Q N ds y E w):CW P r Q N ds (.cond c x y) E w :=
 aK a (λh=>b (of_decide_eq_true h)) (λh=>d (of_decide_eq_false h))
variable {fn:Func} {R:Value->World->Prop}
theorem Cb (a:fn.results= #[]) (d:R (.tuple #[]) w):KW N [] (bodyPost P fn (λe b=> ∃v,e= .returned v/\R v b) .ret) E w:=λ_ c =>
 bodyPost_ret (results_none a _ _ _) c.defers ⟨_,rfl,d⟩
theorem oU (b:fn.results= #[]) (f:R (.tuple #[]) w):KW N [] (bodyPost P fn (λe c=> ∃v,e= .returned v/\R v c) .normal) E w:=λa d =>
 (bodyPost_ret (R:=λe c=> ∃v,e= .returned v/\R v c) (results_none b a.tmps P w) d.defers ⟨_,rfl,f⟩:bodyPost P fn _ .ret a w)
theorem WG {s:Nat} {v:Value} (b:fn.results= #[.tmp s]) (hs:look E s=some (none,v)) (f:R v w):KW N [] (bodyPost P fn (λe c=> ∃v,e= .returned v/\R v c) .ret) E w:=λa d =>
 bodyPost_ret (results_tmp b a.tmps P w) d.defers ⟨_,rfl,by rw [(d.slots s none v hs).1 trivial]; exact f⟩
theorem WF {s t:Nat} {v u:Value} (b:fn.results= #[.tmp s,.tmp t]) (hs:look E s=some (none,v)) (f:look E t=some (none,u)) (g:R (.tuple #[v,u]) w) :
  KW N [] (bodyPost P fn (λe c=> ∃v,e= .returned v/\R v c) .ret) E w:=λa d =>
 bodyPost_ret (results_tmp2 b a.tmps P w) d.defers ⟨_,rfl,by rw [(d.slots s none v hs).1 trivial,(d.slots t none u f).1 trivial]; exact g⟩
end
end
section
inductive Ent where
 | ex (v:Value)
 | pr (φ:Value->World->Prop)
 | own (φ:Value->World->Prop) (S:Value->Nat->Prop)
def Ent.sat:Ent->Value->World->Prop
 | .ex v,u,_=>u=v
 | .pr φ,u,w=>φ u w
 | .own φ _,u,w=>φ u w
def Ent.mono:Ent->Prop
 | .ex _=>True
 | .pr φ=> ∀v w w',ZT w w'->φ v w->φ v w'
 | .own φ _=> ∀v w w',ZT w w'->φ v w->φ v w'
def Ent.foot:Ent->Value->Nat->Prop
 | .own _ S,v,g=>S v g
 | _,_,_=>False
def Ent.strong (w0:World):Ent->Prop
 | .ex _=>True
 | .pr φ=> ∀v w w',Below w0.heap.size w w'->φ v w->φ v w'
 | .own φ S=>(∀v w w',Below w0.heap.size w w'->(∀g,S v g->w'.heap[g]?=w.heap[g]?)->φ v w->φ v w')/\ ∀v w,φ v w-> ∀g,S v g->w0.heap.size<=g/\g<w.heap.size
inductive Mode where
 | weak
 | own
 | cnt
 | free
theorem nZ {e:Ent} (hm:e.mono) {v:Value} (hb:ZT w w') (h:e.sat v w):e.sat v w':=by
 cases e with
 | ex u=>exact h
 | pr φ=>exact hm v w w' hb h
 | own φ S=>exact hm v w w' hb h
abbrev DE:=List (Nat×Option Bool×Ent)
def bR:DE->Nat->Option (Option Bool×Ent)
 | [],_=>none
 | (j,c,e)::D,i=>match Nat.beq j i with
  | true=>some (c,e)
  | false=>bR D i
def bE (D:DE) (d:Option Tmp) (c:Option Bool) (e:Ent):DE :=
 match d with
 | none=>D
 | some d=>(d,c,e)::D
def nD (c:Option Bool) (e:Ent) (u:Value) (w:World):Prop:=(aF c->e.sat u w)/\(¬aF c->u=undef)
structure FitL (N:Nat) (ds:List Deferred) (L:List Nat) (D:DE) (a:Act) (w:World):Prop where
 size:a.tmps.size=N
 defers:a.defers=ds
 slots: ∀i∈L,∀c e,bR D i=some (c,e)->nD c e (a.tmps.getD i undef) w
structure FitD (N:Nat) (ds:List Deferred) (D:DE) (a:Act) (w:World):Prop where
 size:a.tmps.size=N
 defers:a.defers=ds
 slots: ∀i c e,bR D i=some (c,e)->nD c e (a.tmps.getD i undef) w
def fD (ops:List Oper) (D:DE):Option (Nat×Bool)->Option (Option Bool)
 | none=>some none
 | some (j,want)=>match (ops[j]?).bind (·.dst) with
  | none=>none
  | some d=>match bR D d with
   | some (none,.ex (.bool b))=>match want with
    | true=>some (some b)
    | false=>some (some (!b))
   | some (some c,.ex (.bool b))=>match want with
    | true=>some (some (c&&b))
    | false=>some (some (c&& !b))
   | _=>none
def sF (ops:List Oper) (o:Oper):Option Nat:=match o.guard with
 | some (g,_)=>(ops[g]?).bind (·.dst)
 | none=>none
theorem Gh {N:Nat} {D:DE} (h:FitL N ds L D a w) (t: ∀d,sF ops o=some d->d∈L) (e:fD ops D o.guard=some G) :
  (aF G->Region.wanted o (yielded ops.toArray a.tmps)=true)/\(¬aF G->Region.wanted o (yielded ops.toArray a.tmps)=false):=by
 unfold sF at t;unfold Region.wanted
 cases m:o.guard with
 | none=>rw [m] at e; simp [fD] at e; subst e; simp [aF]
 | some p =>
  obtain ⟨j,f⟩:=p;rw [m] at e t;simp only [fD] at e
  cases r:(ops[j]?).bind (·.dst) with
  | none=>rw [r] at e; simp at e
  | some d =>
   rw [r] at e;have n:=t d (by simpa using r);simp only at e;simp only [nz,r,Option.bind_some]
   split at e
   .rename_i b s;have g:a.tmps.getD d undef= .bool b:=(h.slots d n none (.ex (.bool b)) s).1 trivial;have q:a.tmps[d]?=some (.bool b):=by
     rcases ZI d a.tmps.size with i|k
     .exact kr i g
     .simp [Array.getElem?_eq_none k,undef] at g
    rw [q];cases f<;>simp at e<;>subst e<;>simp [aF,pg]
   .rename_i c b s;obtain ⟨g,l⟩:=h.slots d n (some c) (.ex (.bool b)) s
    cases c with
    | true =>
     have g:a.tmps.getD d undef= .bool b:=g rfl;have q:a.tmps[d]?=some (.bool b):=by
      rcases ZI d a.tmps.size with i|k
      .exact kr i g
      .simp [Array.getElem?_eq_none k,undef] at g
     rw [q]
     cases f<;>simp at e<;>subst e<;>simp [aF,pg]
    | false =>
     have l:=l (by simp [aF]);have q: ∀b,a.tmps[d]?≠some (.bool b):=by
      intro b u;simp [u,undef] at l
     rw [zF q];cases f<;>simp at e<;>subst e<;>simp [aF]
   .cases e
def QP (P:Program) (o:Oper) (a:Act) (w:World) (e:Ent):Prop :=
 (∃v w',(execOp a.eval o).run P w= .ok (.value v) w'/\ZT w w'/\e.sat v w') \/
 (∃f vs,(execOp a.eval o).run P w= .ok (.enter f vs) w/\Gives P f vs w λv w'=>ZT w w'/\e.sat v w')
def XG (P:Program) (N:Nat) (ds:List Deferred) (ops:List Oper) (w0:World) (o:Oper) (D:DE) (G:Option Bool) (e:Ent):Prop :=
 fD ops D o.guard=some G/\aC N o.dst=true/\dX o.op=true/\e.mono /\
 (aF G-> ∀a w,ZT w0 w->FitL N ds (o.looksAt ops.toArray) D a w->QP P o a w e)
def oP:List Nat->Nat->Bool
 | [],_=>false
 | j::s,i=>match Nat.beq j i with
  | true=>true
  | false=>oP s i
def iy:DE->List Nat->DE
 | [],_=> []
 | (j,c,e)::D,s=>match oP s j with
  | true=>iy D s
  | false=>(j,c,e)::iy D s
def Bt (D:DE) (eats:List Nat) (a:Act) (g:Nat):Prop:= ∃s c e,oP eats s=true/\bR D s=some (c,e)/\aF c/\e.foot (a.tmps.getD s undef) g
def zM (w0 w w':World) (E:Nat->Prop):Prop:=Below w0.heap.size w w'/\ ∀b,w0.heap.size<=b->b<w.heap.size-> ¬E b->w'.heap[b]?=w.heap[b]?
def OB (P:Program) (w0:World) (o:Oper) (a:Act) (w:World) (e:Ent) (E:Nat->Prop):Prop :=
 (∃v w',(execOp a.eval o).run P w= .ok (.value v) w'/\zM w0 w w' E/\e.sat v w'/\ ∀g,e.foot v g->E g\/w.heap.size<=g) \/
 (∃f vs,(execOp a.eval o).run P w= .ok (.enter f vs) w/\Gives P f vs w λv w'=>zM w0 w w' E/\e.sat v w'/\ ∀g,e.foot v g->E g\/w.heap.size<=g)
def tZ (ops:List Oper) (o:Oper) (eats:List Nat):Bool:=eats.all λs=>(o.looksAt ops.toArray).contains s&&Nat.ble (ops.filter λp=>(p.looksAt ops.toArray).contains s).length 1
def VX (P:Program) (N:Nat) (ds:List Deferred) (ops:List Oper) (w0:World) (o:Oper) (D:DE) (G:Option Bool) (e:Ent) (eats:List Nat):Prop :=
 fD ops D o.guard=some G/\aC N o.dst=true/\dX o.op=true/\e.strong w0/\tZ ops o eats=true/\(∀s,s∈eats-> ∃c φ S,bR D s=some (c,.own φ S)) /\
 (aF G-> ∀a w,ZT w0 w->FitL N ds (o.looksAt ops.toArray) D a w->OB P w0 o a w e (Bt D eats a))
def OD (P:Program) (o:Oper) (a:Act) (w:World) (e:Ent):Prop :=
 (∃v w',(execOp a.eval o).run P w= .ok (.value v) w'/\(ZT w w'/\w.drawn<=w'.drawn)/\e.sat v w') \/
 (∃f vs,(execOp a.eval o).run P w= .ok (.enter f vs) w/\Gives P f vs w λv w'=>(ZT w w'/\w.drawn<=w'.drawn)/\e.sat v w')
def VZ (P:Program) (N:Nat) (ds:List Deferred) (ops:List Oper) (w0:World) (o:Oper) (D:DE) (G:Option Bool) (e:Ent):Prop :=
 fD ops D o.guard=some G/\aC N o.dst=true/\dX o.op=true/\e.mono /\
 (aF G-> ∀a w,ZT w0 w->FitL N ds (o.looksAt ops.toArray) D a w->OD P o a w e)
def Free (φ:Value->World->Prop) (v:Value) (w:World) (g:Nat):Prop:= ∀w',w.grownBy w' (some g)->w'.heap.size=w.heap.size->φ v w'
def Ent.freeAt:Ent->Value->World->Nat->Prop
 | .own φ _,v,w,g=>Free φ v w g
 | _,_,_,_=>True
def OH (D:DE) (eats:List Nat) (a:Act) (w:World) (g:Nat):Prop:= ∃s c e,oP eats s=true/\bR D s=some (c,e)/\aF c/\ ¬e.freeAt (a.tmps.getD s undef) w g
def OC (P:Program) (o:Oper) (a:Act) (w:World) (e:Ent) (E:Nat->Prop):Prop :=
 (∃v w',(execOp a.eval o).run P w= .ok (.value v) w'/\ZT w w'/\e.sat v w'/\ ∀g,¬e.freeAt v w' g->E g\/w.heap.size<=g) \/
 (∃f vs,(execOp a.eval o).run P w= .ok (.enter f vs) w/\Gives P f vs w λv w'=>ZT w w'/\e.sat v w'/\ ∀g,¬e.freeAt v w' g->E g\/w.heap.size<=g)
def VY (P:Program) (N:Nat) (ds:List Deferred) (ops:List Oper) (w0:World) (o:Oper) (D:DE) (G:Option Bool) (e:Ent) (eats:List Nat):Prop :=
 fD ops D o.guard=some G/\aC N o.dst=true/\dX o.op=true/\e.mono/\tZ ops o eats=true/\(∀s,s∈eats-> ∃c φ S,bR D s=some (c,.own φ S)) /\
 (aF G-> ∀a w,ZT w0 w->FitL N ds (o.looksAt ops.toArray) D a w->OC P o a w e (OH D eats a w))
def DW (P:Program) (N:Nat) (ds:List Deferred) (m:Mode) (ops:List Oper) (w0:World) (Fin:DE->Prop):List Oper->DE->Prop
 | [],D=>Fin D
 | o::rest,D=>match m with
  | .weak=> ∃G e,XG P N ds ops w0 o D G e/\DW P N ds .weak ops w0 Fin rest (bE D o.dst G e)
  | .own=> ∃G e eats,VX P N ds ops w0 o D G e eats/\DW P N ds .own ops w0 Fin rest (bE (iy D eats) o.dst G e)
  | .cnt=> ∃G e,VZ P N ds ops w0 o D G e/\DW P N ds .cnt ops w0 Fin rest (bE D o.dst G e)
  | .free=> ∃G e eats,VY P N ds ops w0 o D G e eats/\DW P N ds .free ops w0 Fin rest (bE (iy D eats) o.dst G e)
theorem fq: ∀D:DE,iy D []=D
 | []=>rfl
 | (j,c,e)::D=>by simp [iy,oP,fq D]
def fU (ops:List Oper):Bool :=
 ops.zipIdx.all λ(o,i) =>
  (o.after.all λe=> !Region.binds .any e||Nat.blt e.on i) &&
  ops.zipIdx.all λ(p,k)=>match p.dst with
   | none=>true
   | some d=>(Nat.beq k i||o.dst !=some d) &&
    (!(o.looksAt ops.toArray).contains d ||
     (if Nat.blt k i then o.after.any (λe=>Region.binds .any e&&Nat.beq e.on k) else (Nat.beq k i||p.after.any (λe=>Region.binds .any e&&Nat.beq e.on i))))
theorem blt_iff {a b:Nat}:Nat.blt a b=true↔a<b:=by
 exact ⟨λh=>Nat.le_of_ble_eq_true h,λh=>Nat.ble_eq_true_of_le h⟩
section sound
variable {P:Program} {r:Option Nat} {Q:Exit->Act->World->Prop} {N:Nat} {ds:List Deferred} {ops:List Oper} {w0:World}
theorem dH (h:fU ops=true) {i k:Nat} {p:Oper} (u:ops[i]?=some o) (hp:ops[k]?=some p) :
  (∀e∈o.after,Region.binds .any e=true->e.on<i)/\ ∀d,p.dst=some d->(k=i\/o.dst≠some d) /\
   (d∈o.looksAt ops.toArray->(k<i-> ∃e∈o.after,Region.binds .any e=true/\e.on=k)/\(i<=k->k=i\/ ∃e∈p.after,Region.binds .any e=true/\e.on=i)):=by
 unfold fU at h;rw [List.all_eq_true] at h;have f:=h (o,i) (by rw [List.mem_zipIdx_iff_getElem?]; simpa using u);simp only [Bool.and_eq_true,List.all_eq_true] at f;obtain ⟨f,n⟩:=f;refine ⟨λe g j=> ?_,λd q=> ?_⟩
 .rw [Array.all_eq_true'] at f;have:=f e g;rw [j] at this;exact blt_iff.1 (by simpa using this)
 .have b:=n (p,k) (by rw [List.mem_zipIdx_iff_getElem?]; simpa using hp);simp only [q,Bool.and_eq_true,Bool.or_eq_true] at b;obtain ⟨b,a⟩:=b;refine ⟨?_,λr=> ?_⟩
  .rcases b with b|b
   .exact .inl (Nat.eq_of_beq_eq_true b)
   .right; simpa using b
  .rcases a with a|a
   .simp at a; exact absurd r a
   .refine ⟨λl=> ?_,λs=> ?_⟩
    .have m:=blt_iff.2 l;rw [m,if_pos rfl] at a;rw [Array.any_eq_true'] at a;obtain ⟨e,g,c⟩:=a;simp only [Bool.and_eq_true] at c;exact ⟨e,g,c.1,Nat.eq_of_beq_eq_true c.2⟩
    .have m:Nat.blt k i=false:=by
      cases t:Nat.blt k i with
      | false=>rfl
      | true=>exact absurd (blt_iff.1 t) ZJ
     rw [m] at a;simp only [Bool.false_eq_true,if_false,Bool.or_eq_true] at a;rcases a with a|a
     .exact .inl (Nat.eq_of_beq_eq_true a)
     .rw [Array.any_eq_true'] at a;obtain ⟨e,g,c⟩:=a;simp only [Bool.and_eq_true] at c;exact .inr ⟨e,g,c.1,Nat.eq_of_beq_eq_true c.2⟩
theorem CS (h:sF ops o=some d):d∈o.looksAt ops.toArray:=by
 unfold sF at h;unfold Oper.looksAt
 cases a:o.guard with
 | none=>rw [a] at h; cases h
 | some p =>
  rw [a] at h;simp only [List.mem_append];right;simp at h ⊢;exact h
def lift:Env->DE
 | []=> []
 | (i,c,v)::E=>(i,c,.ex v)::lift E
theorem jM: ∀(E:Env) (i:Nat),bR (lift E) i=(look E i).map λp=>(p.1,Ent.ex p.2)
 | [],i=>rfl
 | (j,c,v)::E,i=>by
  simp only [lift,bR,look]
  cases Nat.beq j i with
  | true=>rfl
  | false=>exact jM E i
end sound
section steps
variable {P:Program} {N:Nat} {ds:List Deferred} {ops rest:List Oper} {w:World} {D:DE} {G:Option Bool} {Fin:DE->Prop}
def dev (D:DE):Operand->Option (Option Bool×Ent)
 | .tmp t=>bR D t
 | .const v=>some (none,.ex v)
 | .global g=>some (none,.ex (.pointer (some ⟨g,0,none⟩)))
 | .func f=>some (none,.ex (.func (.func f) #[] #[]))
theorem bB {t:Nat} (h:Operand.tmp t∈o.op.operands.toList):t∈o.looksAt ops.toArray:=by
 unfold Oper.looksAt;rw [List.mem_append];left;rw [List.mem_filterMap];exact ⟨.tmp t,h,rfl⟩
theorem FitL.sat {L:List Nat} {a:Act} (h:FitL N ds L D a w) {x:Operand} {c:Option Bool} {e:Ent} (b:dev D x=some (c,e)) (d: ∀t,x= .tmp t->t∈L) (i:aF c):e.sat (a.eval x) w:=by
 cases x with
 | tmp t=>exact (h.slots t (d t rfl) c e b).1 i
 | const u=>simp [dev] at b; rw [<-b.2]; rfl
 | global g=>simp [dev] at b; rw [<-b.2]; rfl
 | func f=>simp [dev] at b; rw [<-b.2]; rfl
theorem FitL.evalL (h:FitL N ds L D a w) {x:Operand} {v:Value} (b:dev D x=some (c,.ex v)) (d: ∀t,x= .tmp t->t∈L) (e:aF c):a.eval x=v:=h.sat b d e
theorem FitL.eval {o:Oper} {a:Act} (h:FitL N ds (o.looksAt ops.toArray) D a w) {x:Operand} {c:Option Bool} {v:Value} (d:dev D x=some (c,.ex v)) (hm:x∈o.op.operands.toList) (e:aF c):a.eval x=v :=
 h.evalL d (λ_ b=>bB (b ▸ hm)) e
theorem FitL.evalP (h:FitL N ds (o.looksAt ops.toArray) D a w) {x:Operand} (d:dev D x=some (c,.pr φ)) (hm:x∈o.op.operands.toList) (e:aF c):φ (a.eval x) w :=
 h.sat d (λ_ b=>bB (b ▸ hm)) e
theorem gJ {m:Mode} (h:Fin D):DW P N ds m ops w Fin [] D:=by cases m<;>exact h
theorem jw {m:Mode} {v:Value} (g:fD ops D o.guard=some G) (i:aC N o.dst=true) (hn:dX o.op=true)
  (c:aF G-> ∀a b,ZT w b->FitL N ds (o.looksAt ops.toArray) D a b->(execOp a.eval o).run P b= .ok (.value v) b) (next:DW P N ds m ops w Fin rest (bE D o.dst G (.ex v))):DW P N ds m ops w Fin (o::rest) D:=by
 cases m with
 | weak=>exact ⟨G,.ex v,⟨g,i,hn,trivial,λd a b e f=> .inl ⟨v,b,c d a b e f,ZA,rfl⟩⟩,next⟩
 | own=>exact ⟨G,.ex v,[],⟨g,i,hn,trivial,rfl,λs j=>by simp at j,λd a b e f=> .inl ⟨v,b,c d a b e f,⟨ZA,λ_ _ _ _=>rfl⟩,rfl,λ_ h=>h.elim⟩⟩,by rw [fq]; exact next⟩
 | cnt=>exact ⟨G,.ex v,⟨g,i,hn,trivial,λd a b e f=> .inl ⟨v,b,c d a b e f,⟨ZA,ZC⟩,rfl⟩⟩,next⟩
 | free=>exact ⟨G,.ex v,[],⟨g,i,hn,trivial,rfl,λs j=>by simp at j,λd a b e f=> .inl ⟨v,b,c d a b e f,ZA,rfl,λ_ h=>absurd trivial h⟩⟩,by rw [fq]; exact next⟩
theorem pG {e:Ent} (i:fD ops D o.guard=some G) (j:aC N o.dst=true) (hn:dX o.op=true) (hm:e.mono)
  (d:aF G-> ∀a b,ZT w b->FitL N ds (o.looksAt ops.toArray) D a b-> ∃v c,(execOp a.eval o).run P b= .ok (.value v) c/\ZT b c/\e.sat v c) (next:DW P N ds .weak ops w Fin rest (bE D o.dst G e)):DW P N ds .weak ops w Fin (o::rest) D :=
 ⟨G,e,⟨i,j,hn,hm,λf a b g h=> .inl (d f a b g h)⟩,next⟩
theorem tO {e:Ent} (k:fD ops D o.guard=some G) (l:aC N o.dst=true) (hn:dX o.op=true) (hm:e.mono)
  (d:aF G-> ∀a b,ZT w b->FitL N ds (o.looksAt ops.toArray) D a b-> ∃f g,(execOp a.eval o).run P b= .ok (.enter f g) b/\Gives P f g b λv c=>ZT b c/\e.sat v c) (next:DW P N ds .weak ops w Fin rest (bE D o.dst G e)):DW P N ds .weak ops w Fin (o::rest) D :=
 ⟨G,e,⟨k,l,hn,hm,λh a b i j=> .inr (d h a b i j)⟩,next⟩
def lH (D:DE):List Nat->Option Env
 | []=>some []
 | i::is=>match bR D i with
  | some (c,.ex v)=>match lH D is with
   | some E=>some ((i,c,v)::E)
   | none=>none
  | _=>none
theorem wU {D:DE}: ∀ {is:List Nat} {E:Env},lH D is=some E-> ∀i c v,look E i=some (c,v)->bR D i=some (c,.ex v)
 | [],E,h,i,c,v,a=>by simp [lH] at h; subst h; simp [look] at a
 | j::is,E,h,i,c,v,a=>by
  simp only [lH] at h
  split at h
  .rename_i f g d
   split at h
   .rename_i k e;simp only [Option.some.injEq] at h;subst h;simp only [look] at a;by_cases b:j=i
    .subst b;rw [ig] at a;obtain ⟨rfl,rfl⟩:=a;exact d
    .rw [kF b] at a;exact wU e i c v a
   .cases h
  .cases h
theorem FitD.pick {E:Env} (h:FitD N ds D a w) (hp:lH D is=some E):Fit N ds E a :=
 ⟨h.size,h.defers,λi c v b=>h.slots i c (.ex v) (wU hp i c v b)⟩
theorem Bv (is:List Nat) (E:Env) (hp:lH D is=some E) (h: ∀b,ZT w b->KW N ds K E b): ∀a b,ZT w b->FitD N ds D a b->K a b :=
 λa b c d=>h b c a (d.pick hp)
theorem QV (s:Nat) (hs:bR D s=some (none,.pr φ)) (is:List Nat) (E:Env) (hp:lH D is=some E) (h: ∀v b,ZT w b->φ v b->KW N ds K ((s,none,v)::E) b) :
  ∀ a b,ZT w b->FitD N ds D a b->K a b:=λa b g e=>by
 refine h (a.tmps.getD s undef) b g ((e.slots s none _ hs).1 trivial) a ⟨e.size,e.defers,λi c v d=> ?_⟩;simp only [look] at d;by_cases f:s=i
 .subst f;rw [ig] at d;obtain ⟨rfl,rfl⟩:=d;exact ⟨λ_=>rfl,λh=>absurd trivial h⟩
 .rw [kF f] at d;exact (e.pick hp).slots i c v d
end steps
end
section
theorem eG {z:Int} (h: -9223372036854775808<=z/\z<=9223372036854775807):IntKind.i64.wrap z=z:=by
 rw [IntKind.wrap_i64]; omega
theorem EW (w:World) (a cs:Array Value) (t:TypeId):(w.alloc (.cells a t)).setRow w.heap.size cs=w.alloc (.cells cs t):=by
 have c:((w.alloc (.cells a t)).setRow w.heap.size cs).heap=w.heap.push (.cells cs t):=by
  unfold World.setRow;have e:(w.alloc (.cells a t)).heap=w.heap.push (.cells a t):=rfl;simp only [e];apply Array.ext
  .simp
  .intro i d g;simp only [Array.getElem_modify];by_cases b:w.heap.size=i
   .subst b; simp
   .have:i<w.heap.size:=by simp at d; omega
    simp [b,Array.getElem_push_lt this]
 have f:(w.alloc (.cells a t)).setRow w.heap.size cs= {w with heap:=((w.alloc (.cells a t)).setRow w.heap.size cs).heap}:=rfl;rw [f,c];rfl
section
variable {P:Program} {r:Option Nat} {Q:Exit->Act->World->Prop} {N:Nat} {ds:List Deferred} {ops rest:List Oper} {E:Env} {D:DE} {w:World} {G:Option Bool} {Fin:DE->Prop} {md:Mode}
variable {d:Option Tmp} {ty:TypeId} {pos:String} {af:Array Edge} {gu:Option (Nat×Bool)}
variable {x y z:Operand} {cx cy cz:Option Bool} {ρ:Operand->Value}
def lF (P:Program) (t:TypeId) (fi:Nat):Option Nat:=match P.underlying t with
 | some (.struct fs)=>match fs[fi]? with
  | some f=>match (P.info? f.type).map (·.size) with
   | some (_+1)=>some f.offset
   | _=>none
  | none=>none
 | _=>none
theorem uN {fi off:Nat} (a:lF P t fi=some off):(do let v<-Instr.fieldAt t (.pointer (some ad)) fi; pure (Next.value v):Sem Next).run P w= .ok (.value (.pointer (some (ad.add off)))) w:=by
 unfold lF at a
 split at a
 .rename_i e c
  split at a
  .rename_i f b
   split at a
   .rename_i g d;simp only [Option.some.injEq] at a;subst a;simp [Instr.fieldAt,run_underlying c,b,Instr.sureAddr,fieldPlace,run_sizeOf d]
   .cases a
  .cases a
 .cases a
def sH (P:Program) (t:TypeId) (fi:Nat) (cs:Array Value):Option Value:=match P.underlying t with
 | some (.struct fs)=>match fs[fi]? with
  | some f=>match one P f.type with
   | true=>cs[f.offset]?
   | false=>none
  | none=>none
 | _=>none
theorem yR {fi:Nat} {cs:Array Value} {v:Value} (a:sH P t fi cs=some v):(do let v<-Instr.field t (.agg cs) fi; pure (Next.value v):Sem Next).run P w= .ok (.value v) w:=by
 unfold sH at a
 split at a
 .rename_i i g
  split at a
  .rename_i f c
   split at a
   .rename_i d;have h:(isAgg f.type).run P w= .ok false w:=by
     unfold one at d
     cases b:P.underlying f.type with
     | none=>simp [b] at d
     | some e=>cases e<;>first|(simp [b] at d; done)|simp [isAgg,run_underlying b]
    simp [Instr.field,run_underlying g,c,asAgg,part,h,a]
   .cases a
  .cases a
 .cases a
class One (P:Program) (t:TypeId):Prop where
 q:one P t=true
class Und (P:Program) (t:TypeId) (u:outParam TypeDesc):Prop where
 q:P.underlying t=some u
class Sz (P:Program) (t:TypeId) (n:outParam Nat):Prop where
 q:(P.info? t).map (·.size)=some n
class FO (P:Program) (t i:Nat) (n:outParam Nat):Prop where
 q:lF P t i=some n
theorem wS {f:α->β} {x:α} {a:β} (h: [x].map f= [a]):f x=a:=by simpa using h
theorem iI {f:α->β} {x y:α} {a b:β} (h: [x,y].map f= [a,b]):f x=a/\f y=b:=by simpa using h
theorem WS {f:α->β} {x y z:α} {a b c:β} (h: [x,y,z].map f= [a,b,c]):f x=a/\f y=b/\f z=c:=by simpa using h
structure Val (P:Program) (o:Oper) (xs:List Operand) (vs:List Value) (C:Prop) (v:Value):Prop where
 nd:dX o.op=true
 mem: ∀x∈xs,x∈o.op.operands.toList
 run:C-> ∀(ρ:Operand->Value) (w:World),xs.map ρ=vs->(execOp ρ o).run P w= .ok (.value v) w
def Ud (E:Env):List Operand->Option (List (Option Bool)×List Value)
 | []=>some ([],[])
 | x::xs=>match ev E x with
  | some (c,v)=>match Ud E xs with
   | some (cs,vs)=>some (c::cs,v::vs)
   | none=>none
  | none=>none
def vF (D:DE):List Operand->Option (List (Option Bool)×List Value)
 | []=>some ([],[])
 | x::xs=>match dev D x with
  | some (c,.ex v)=>match vF D xs with
   | some (cs,vs)=>some (c::cs,v::vs)
   | none=>none
  | _=>none
def uF (G:Option Bool):List (Option Bool)->Prop
 | []=>True
 | c::cs=>(aF G->aF c)/\uF G cs
theorem AM {a:Act} (g:Fit N ds E a) (i:aF G): ∀ {e:List Operand} {b:List (Option Bool)} {d:List Value},Ud E e=some (b,d)->uF G b->e.map a.eval=d
 | [],b,d,h,_=>by simp [Ud] at h; rw [h.2]; rfl
 | x::e,b,d,h,f=>by
  simp only [Ud] at h
  split at h
  .rename_i c v j
   split at h
   .rename_i k l m;obtain ⟨rfl,rfl⟩:=h;rw [List.map_cons,g.eval j (f.1 i),AM g i m f.2]
   .cases h
  .cases h
theorem jm {L:List Nat} {a:Act} {w:World} (j:FitL N ds L D a w) (k:aF G): ∀ {b:List Operand} {d:List (Option Bool)} {e:List Value},(∀t,Operand.tmp t∈b->t∈L)->vF D b=some (d,e)->uF G d->b.map a.eval=e
 | [],d,e,_,h,_=>by simp [vF] at h; rw [h.2]; rfl
 | x::b,d,e,g,h,i=>by
  simp only [vF] at h
  split at h
  .rename_i c v l
   split at h
   .rename_i m n o;obtain ⟨rfl,rfl⟩:=h;rw [List.map_cons,j.evalL l (λt f=>g t (by simp [f])) (i.1 k),jm j k (λt f=>g t (by simp [f])) o i.2]
   .cases h
  .cases h
theorem aM {op:Op} {C:Prop} {v:Value} {cs:List (Option Bool)} (c:Val P ⟨d,op,ty,pos,af,gu⟩ xs vs C v) (h:(gd ops E gu,aC N d,Ud E xs)=(some G,true,some (cs,vs))) (f:uF G cs) (g:aF G->C)
  (next:TW P r Q N ds ops rest (ins E d G v) w):TW P r Q N ds ops (⟨d,op,ty,pos,af,gu⟩::rest) E w:=by
 simp only [Prod.mk.injEq] at h;exact fZ h.1 h.2.1 c.nd (λb a e=>c.run (g b) a.eval w (AM e b h.2.2 f)) next
theorem bM {op:Op} {C:Prop} {v:Value} {cs:List (Option Bool)} (b:Val P ⟨d,op,ty,pos,af,gu⟩ xs vs C v) (h:(fD ops D gu,aC N d,vF D xs)=(some G,true,some (cs,vs))) (i:uF G cs) (j:aF G->C)
  (next:DW P N ds md ops w Fin rest (bE D d G (.ex v))):DW P N ds md ops w Fin (⟨d,op,ty,pos,af,gu⟩::rest) D:=by
 simp only [Prod.mk.injEq] at h;exact jw h.1 h.2.1 b.nd (λc a e _ f=>b.run (j c) a.eval e (jm f c (λt g=>bB (b.mem _ g)) h.2.2 i)) next
theorem X3 {k:IntKind} {m n:Int} {t t':TypeId}  (a:ρ x= .int k m) (b:ρ y= .int k n):(execOp ρ ⟨d,.binOp .lss t x y t',ty,pos,af,gu⟩).run P w= .ok (.value (.bool (decide (m<n)))) w:=by simp only [execOp]; rw [a,b,eqGuard_lss,binOp_lss]; rfl
theorem ve {k:IntKind} {m n:Int} {t t':TypeId}:Val P ⟨d,.binOp .lss t x y t',ty,pos,af,gu⟩ [x,y] [.int k m,.int k n] (True) (.bool (decide (m<n))) :=
 ⟨rfl,ZQ,λ_ ρ w h=>by
  obtain ⟨a,b⟩:=iI h;simp only [execOp]; rw [a,b,eqGuard_lss,binOp_lss]; rfl⟩
theorem X4 {k:IntKind} {m n:Int} {t t':TypeId}  (a:ρ x= .int k m) (b:ρ y= .int k n):(execOp ρ ⟨d,.binOp .leq t x y t',ty,pos,af,gu⟩).run P w= .ok (.value (.bool (decide (m<=n)))) w:=by simp only [execOp]; rw [a,b,eqGuard_leq,binOp_leq]; rfl
theorem Iz {k:IntKind} {m n:Int} {t t':TypeId}:Val P ⟨d,.binOp .leq t x y t',ty,pos,af,gu⟩ [x,y] [.int k m,.int k n] (True) (.bool (decide (m<=n))) :=
 ⟨rfl,ZQ,λ_ ρ w h=>by
  obtain ⟨a,b⟩:=iI h;simp only [execOp]; rw [a,b,eqGuard_leq,binOp_leq]; rfl⟩
theorem X5 {k:IntKind} {m n:Int} {t t':TypeId}  (a:ρ x= .int k m) (b:ρ y= .int k n):(execOp ρ ⟨d,.binOp .gtr t x y t',ty,pos,af,gu⟩).run P w= .ok (.value (.bool (decide (n<m)))) w:=by simp only [execOp]; rw [a,b,eqGuard_gtr,binOp_gtr]; rfl
theorem IA {k:IntKind} {m n:Int} {t t':TypeId}:Val P ⟨d,.binOp .gtr t x y t',ty,pos,af,gu⟩ [x,y] [.int k m,.int k n] (True) (.bool (decide (n<m))) :=
 ⟨rfl,ZQ,λ_ ρ w h=>by
  obtain ⟨a,b⟩:=iI h;simp only [execOp]; rw [a,b,eqGuard_gtr,binOp_gtr]; rfl⟩
theorem X6 {k:IntKind} {m n:Int} {t t':TypeId}  (a:ρ x= .int k m) (b:ρ y= .int k n):(execOp ρ ⟨d,.binOp .geq t x y t',ty,pos,af,gu⟩).run P w= .ok (.value (.bool (decide (n<=m)))) w:=by simp only [execOp]; rw [a,b,eqGuard_geq,binOp_geq]; rfl
theorem IB {k:IntKind} {m n:Int} {t t':TypeId}:Val P ⟨d,.binOp .geq t x y t',ty,pos,af,gu⟩ [x,y] [.int k m,.int k n] (True) (.bool (decide (n<=m))) :=
 ⟨rfl,ZQ,λ_ ρ w h=>by
  obtain ⟨a,b⟩:=iI h;simp only [execOp]; rw [a,b,eqGuard_geq,binOp_geq]; rfl⟩
theorem X7 {k:IntKind} {m n:Int} {t t':TypeId}  (a:ρ x= .int k m) (b:ρ y= .int k n):(execOp ρ ⟨d,.binOp .eql t x y t',ty,pos,af,gu⟩).run P w= .ok (.value (.bool (decide (m=n)))) w:=by simp only [execOp]; rw [a,b,eqGuard_at_int,binOp_eql]; rfl
theorem Eh {k:IntKind} {m n:Int} {t t':TypeId}:Val P ⟨d,.binOp .eql t x y t',ty,pos,af,gu⟩ [x,y] [.int k m,.int k n] (True) (.bool (decide (m=n))) :=
 ⟨rfl,ZQ,λ_ ρ w h=>by
  obtain ⟨a,b⟩:=iI h;simp only [execOp]; rw [a,b,eqGuard_at_int,binOp_eql]; rfl⟩
theorem XY {k:IntKind} {m n:Int} {t t':TypeId}  (a:ρ x= .int k m) (b:ρ y= .int k n):(execOp ρ ⟨d,.binOp .neq t x y t',ty,pos,af,gu⟩).run P w= .ok (.value (.bool (decide (m≠n)))) w:=by 
  simp only [execOp]; rw [a,b,eqGuard_at_int,binOp_neq]
  have e:(m !=n)=decide (m≠n):=by by_cases h:m=n<;>simp [h]
  rw [e]; rfl
theorem Eg {k:IntKind} {m n:Int} {t t':TypeId}:Val P ⟨d,.binOp .neq t x y t',ty,pos,af,gu⟩ [x,y] [.int k m,.int k n] (True) (.bool (decide (m≠n))) :=
 ⟨rfl,ZQ,λ_ ρ w h=>by
  obtain ⟨a,b⟩:=iI h;simp only [execOp]; rw [a,b,eqGuard_at_int,binOp_neq];have e:(m !=n)=decide (m≠n):=by by_cases h:m=n<;>simp [h]
  rw [e]; rfl⟩
theorem Oi {m n:Int} {t t':TypeId}  (a:ρ x= ZU m) (b:ρ y= ZU n) (hb: -9223372036854775808<=m+n/\m+n<=9223372036854775807):(execOp ρ ⟨d,.binOp .add t x y t',ty,pos,af,gu⟩).run P w= .ok (.value (ZU (m+n))) w:=by 
  simp only [execOp]; rw [a,b,eqGuard_add,binOp_add]
  show Result.ok (Next.value (Value.int .i64 (IntKind.i64.wrap (m+n)))) w=_
  rw [eG hb]
theorem IC {m n:Int} {t t':TypeId}:Val P ⟨d,.binOp .add t x y t',ty,pos,af,gu⟩ [x,y] [ZU m,ZU n] (-9223372036854775808<=m+n/\m+n<=9223372036854775807) (ZU (m+n)) :=
 ⟨rfl,ZQ,λa ρ w h=>by
  obtain ⟨b,c⟩:=iI h;simp only [execOp]; rw [b,c,eqGuard_add,binOp_add];show Result.ok (Next.value (Value.int .i64 (IntKind.i64.wrap (m+n)))) w=_;rw [eG a]⟩
theorem N5 {m n:Int} {t t':TypeId}  (a:ρ x= ZU m) (b:ρ y= ZU n) (hb: -9223372036854775808<=m-n/\m-n<=9223372036854775807):(execOp ρ ⟨d,.binOp .sub t x y t',ty,pos,af,gu⟩).run P w= .ok (.value (ZU (m-n))) w:=by 
  simp only [execOp]; rw [a,b,eqGuard_sub,binOp_sub]
  show Result.ok (Next.value (Value.int .i64 (IntKind.i64.wrap (m-n)))) w=_
  rw [eG hb]
theorem uY {m n:Int} {t t':TypeId}:Val P ⟨d,.binOp .sub t x y t',ty,pos,af,gu⟩ [x,y] [ZU m,ZU n] (-9223372036854775808<=m-n/\m-n<=9223372036854775807) (ZU (m-n)) :=
 ⟨rfl,ZQ,λa ρ w h=>by
  obtain ⟨b,c⟩:=iI h;simp only [execOp]; rw [b,c,eqGuard_sub,binOp_sub];show Result.ok (Next.value (Value.int .i64 (IntKind.i64.wrap (m-n)))) w=_;rw [eG a]⟩
theorem XZ {m n:Int} {t t':TypeId}  (a:ρ x= ZU m) (b:ρ y= ZU n) (hb: -9223372036854775808<=m*n/\m*n<=9223372036854775807):(execOp ρ ⟨d,.binOp .mul t x y t',ty,pos,af,gu⟩).run P w= .ok (.value (ZU (m*n))) w:=by 
  simp only [execOp]; rw [a,b,eqGuard_mul,binOp_mul]
  show Result.ok (Next.value (Value.int .i64 (IntKind.i64.wrap (m*n)))) w=_
  rw [eG hb]
theorem Iy {m n:Int} {t t':TypeId}:Val P ⟨d,.binOp .mul t x y t',ty,pos,af,gu⟩ [x,y] [ZU m,ZU n] (-9223372036854775808<=m*n/\m*n<=9223372036854775807) (ZU (m*n)) :=
 ⟨rfl,ZQ,λa ρ w h=>by
  obtain ⟨b,c⟩:=iI h;simp only [execOp]; rw [b,c,eqGuard_mul,binOp_mul];show Result.ok (Next.value (Value.int .i64 (IntKind.i64.wrap (m*n)))) w=_;rw [eG a]⟩
theorem XV {m n:Int} {t t':TypeId}  (b:ρ x= ZU m) (c:ρ y= ZU n) (hb:0<=m/\1<=n/\n<=9223372036854775807):(execOp ρ ⟨d,.binOp .rem t x y t',ty,pos,af,gu⟩).run P w= .ok (.value (ZU (m%n))) w:=by 
  simp only [execOp]; rw [b,c,eqGuard_rem,binOp_rem]
  have e:m.tmod n=m%n:=Int.tmod_eq_emod_of_nonneg hb.1
  have a:n≠0:=ZJ
  have g:=Int.emod_lt_of_pos m (show 0<n by omega)
  simp [Op.intDiv,a,e]
theorem RA {m n:Int} {t t':TypeId}:Val P ⟨d,.binOp .rem t x y t',ty,pos,af,gu⟩ [x,y] [ZU m,ZU n] (0<=m/\1<=n/\n<=9223372036854775807) (ZU (m%n)) :=
 ⟨rfl,ZQ,λa ρ w h=>by
  obtain ⟨c,f⟩:=iI h;simp only [execOp]; rw [c,f,eqGuard_rem,binOp_rem];have e:m.tmod n=m%n:=Int.tmod_eq_emod_of_nonneg a.1;have b:n≠0:=ZJ;have i:=Int.emod_lt_of_pos m (show 0<n by omega);simp [Op.intDiv,b,e]⟩
theorem XW {m n:Int} {t t':TypeId}  (b:ρ x= ZU m) (c:ρ y= ZU n) (hb:0<=m/\1<=n/\m<=9223372036854775807):(execOp ρ ⟨d,.binOp .quo t x y t',ty,pos,af,gu⟩).run P w= .ok (.value (ZU (m / n))) w:=by 
  simp only [execOp]; rw [b,c,eqGuard_quo,binOp_quo]
  have e:m.tdiv n=m / n:=Int.tdiv_eq_ediv_of_nonneg hb.1
  have a:n≠0:=ZJ
  have f:=Int.ediv_nonneg hb.1 (show 0<=n by omega)
  have g:=Int.ediv_le_self n hb.1
  simp [Op.intDiv,a,e,eG (z:=m / n) ZJ]
theorem RD {m n:Int} {t t':TypeId}:Val P ⟨d,.binOp .quo t x y t',ty,pos,af,gu⟩ [x,y] [ZU m,ZU n] (0<=m/\1<=n/\m<=9223372036854775807) (ZU (m / n)) :=
 ⟨rfl,ZQ,λa ρ w h=>by
  obtain ⟨b,c⟩:=iI h;simp only [execOp]; rw [b,c,eqGuard_quo,binOp_quo];have e:m.tdiv n=m / n:=Int.tdiv_eq_ediv_of_nonneg a.1;have f:n≠0:=ZJ;have g:=Int.ediv_nonneg a.1 (show 0<=n by omega);have i:=Int.ediv_le_self n a.1;simp [Op.intDiv,f,e,eG (z:=m / n) ZJ]⟩
theorem XX {b:Bool} {t:TypeId}  (a:ρ x= .bool b):(execOp ρ ⟨d,.unOp .not t x,ty,pos,af,gu⟩).run P w= .ok (.value (.bool (!b))) w:=by simp only [execOp]; rw [a]; rfl
theorem zJ {b:Bool} {t:TypeId}:Val P ⟨d,.unOp .not t x,ty,pos,af,gu⟩ [x] [.bool b] (True) (.bool (!b)) :=
 ⟨rfl,ZQ,λ_ ρ w h=>by
  have a:=wS h;simp only [execOp]; rw [a]; rfl⟩
theorem XB (a:P.underlying t=some .bool) (c:ρ x= .bool b) (e:ρ y= .bool b'):(execOp ρ ⟨d,.binOp .eql t x y t',ty,pos,af,gu⟩).run P w= .ok (.value (.bool (b==b'))) w:=by simp only [execOp]; rw [c,e,eqGuard_at_bool]; simp [run_eql_bool w t b b' a]
theorem Bl [Und P t .bool]:Val P ⟨d,.binOp .eql t x y t',ty,pos,af,gu⟩ [x,y] [.bool b,.bool b'] (True) (.bool (b==b')) :=
 ⟨rfl,ZQ,λ_ ρ w h=>by
  obtain ⟨a,c⟩:=iI h;have e:P.underlying t=some .bool:=Und.q;simp only [execOp]; rw [a,c,eqGuard_at_bool]; simp [run_eql_bool w t b b' e]⟩
theorem Xw (a:P.underlying t=some .bool) (c:ρ x= .bool b) (e:ρ y= .bool b'):(execOp ρ ⟨d,.binOp .neq t x y t',ty,pos,af,gu⟩).run P w= .ok (.value (.bool (!(b==b')))) w:=by simp only [execOp]; rw [c,e,eqGuard_at_bool]; simp [run_neq_bool w t b b' a]
theorem Ol [Und P t .bool]:Val P ⟨d,.binOp .neq t x y t',ty,pos,af,gu⟩ [x,y] [.bool b,.bool b'] (True) (.bool (!(b==b'))) :=
 ⟨rfl,ZQ,λ_ ρ w h=>by
  obtain ⟨a,c⟩:=iI h;have e:P.underlying t=some .bool:=Und.q;simp only [execOp]; rw [a,c,eqGuard_at_bool]; simp [run_neq_bool w t b b' e]⟩
theorem XA (a:ρ x= .string s) (b:ρ y= .string s'):(execOp ρ ⟨d,.binOp .eql t x y t',ty,pos,af,gu⟩).run P w= .ok (.value (.bool (s.toList==s'.toList))) w:=by simp only [execOp]; rw [a,b,eqGuard_at_string,binOp_string_eql]; rfl
theorem Bj:Val P ⟨d,.binOp .eql t x y t',ty,pos,af,gu⟩ [x,y] [.string s,.string s'] (True) (.bool (s.toList==s'.toList)) :=
 ⟨rfl,ZQ,λ_ ρ w h=>by
  obtain ⟨a,b⟩:=iI h;simp only [execOp]; rw [a,b,eqGuard_at_string,binOp_string_eql]; rfl⟩
theorem Xv (a:ρ x= .string s) (b:ρ y= .string s'):(execOp ρ ⟨d,.binOp .neq t x y t',ty,pos,af,gu⟩).run P w= .ok (.value (.bool (!(s.toList==s'.toList)))) w:=by simp only [execOp]; rw [a,b,eqGuard_at_string,binOp_string_neq]; rfl
theorem Bi:Val P ⟨d,.binOp .neq t x y t',ty,pos,af,gu⟩ [x,y] [.string s,.string s'] (True) (.bool (!(s.toList==s'.toList))) :=
 ⟨rfl,ZQ,λ_ ρ w h=>by
  obtain ⟨a,b⟩:=iI h;simp only [execOp]; rw [a,b,eqGuard_at_string,binOp_string_neq]; rfl⟩
theorem XC {k k':IntKind} {m:Int} (hs:(P.underlying t).isSome=true) (a:P.underlying t'=some (.int k')) (c:ρ x= .int k m):(execOp ρ ⟨d,.convert t t' x,ty,pos,af,gu⟩).run P w= .ok (.value (.int k' (k'.wrap m))) w:=by 
  have b:P.intKind t'=k':=by simp [Program.intKind,a]
  have h:=run_convert_int w t t' k m hs (by rw [b]; exact a)
  rw [b] at h
  simp only [execOp]; rw [c]; simp [h]
theorem uB {k k':IntKind} {m:Int} [Und P t' (.int k')] (hs:(P.underlying t).isSome=true):Val P ⟨d,.convert t t' x,ty,pos,af,gu⟩ [x] [.int k m] (True) (.int k' (k'.wrap m)) :=
 ⟨rfl,ZQ,λ_ ρ w h=>by
  have c:=wS h;have a:P.underlying t'=some (.int k'):=Und.q;have b:P.intKind t'=k':=by simp [Program.intKind,a]
  have h:=run_convert_int w t t' k m hs (by rw [b]; exact a);rw [b] at h;simp only [execOp]; rw [c]; simp [h]⟩
theorem TL {l c:Nat} (a:P.underlying t=some (.slice e)) (b:ρ x= .slice A l c):(execOp ρ ⟨d,.call ⟨.builtin .len,#[x],#[t]⟩,ty,pos,af,gu⟩).run P w= .ok (.value (ZU (l:Int))) w:=by simp [execOp,resolve,invoke,builtin,b,Builtin.len_,run_underlying a,goInt]
theorem V.lenSlice {l c:Nat} [Und P t (.slice e)]:Val P ⟨d,.call ⟨.builtin .len,#[x],#[t]⟩,ty,pos,af,gu⟩ [x] [.slice A l c] (True) (ZU (l:Int)) :=
 ⟨rfl,ZP,λ_ ρ w h=>by
  have a:=wS h;have b:P.underlying t=some (.slice e):=Und.q;simp [execOp,resolve,invoke,builtin,a,Builtin.len_,run_underlying b,goInt]⟩
theorem Rz (a:P.underlying t=some .string) (b:ρ x= .string s):(execOp ρ ⟨d,.call ⟨.builtin .len,#[x],#[t]⟩,ty,pos,af,gu⟩).run P w= .ok (.value (ZU (s.size:Int))) w:=by simp [execOp,resolve,invoke,builtin,b,Builtin.len_,run_underlying a,goInt]
theorem mi [Und P t .string]:Val P ⟨d,.call ⟨.builtin .len,#[x],#[t]⟩,ty,pos,af,gu⟩ [x] [.string s] (True) (ZU (s.size:Int)) :=
 ⟨rfl,ZP,λ_ ρ w h=>by
  have a:=wS h;have b:P.underlying t=some .string:=Und.q;simp [execOp,resolve,invoke,builtin,a,Builtin.len_,run_underlying b,goInt]⟩
theorem pq {ad:Addr} {l c sz:Nat} {t e:TypeId} {k:IntKind} {i:Int} (a:P.underlying t=some (.slice e)) (hs:(P.info? e).map (·.size)=some sz) (b:ρ x= .slice (some ad) l c) (f:ρ y= .int k i) (g:0<=i/\i<(l:Int)):(execOp ρ ⟨d,.indexAddr t x y,ty,pos,af,gu⟩).run P w= .ok (.value (.pointer (some (ad.add (i.toNat*sz))))) w:=by simp only [execOp]; rw [b,f]; simp [Instr.indexAt,run_underlying a,asIntOf,g,run_sizeOf hs]
theorem V.indexAddr {ad:Addr} {l c sz:Nat} {t e:TypeId} {k:IntKind} {i:Int} [Und P t (.slice e)] [Sz P e sz]:Val P ⟨d,.indexAddr t x y,ty,pos,af,gu⟩ [x,y] [.slice (some ad) l c,.int k i] (0<=i/\i<(l:Int)) (.pointer (some (ad.add (i.toNat*sz)))) :=
 ⟨rfl,ZQ,λa ρ w h=>by
  obtain ⟨b,f⟩:=iI h;have g:P.underlying t=some (.slice e):=Und.q;have j:(P.info? e).map (·.size)=some sz:=Sz.q;simp only [execOp]; rw [b,f]; simp [Instr.indexAt,run_underlying g,asIntOf,a,run_sizeOf j]⟩
theorem uX {ad:Addr} {off fi:Nat} {t:TypeId} (a:lF P t fi=some off) (b:ρ x= .pointer (some ad)):(execOp ρ ⟨d,.fieldAddr t x fi,ty,pos,af,gu⟩).run P w= .ok (.value (.pointer (some (ad.add off)))) w:=by simp only [execOp]; rw [b]; exact uN a
theorem mo {ad:Addr} {off fi:Nat} {t:TypeId} [FO P t fi off]:Val P ⟨d,.fieldAddr t x fi,ty,pos,af,gu⟩ [x] [.pointer (some ad)] (True) (.pointer (some (ad.add off))) :=
 ⟨rfl,ZQ,λ_ ρ w h=>by
  have a:=wS h;have b:lF P t fi=some off:=FO.q;simp only [execOp]; rw [a]; exact uN b⟩
theorem nT {vx:Value}  (a:ρ x=vx):(execOp ρ ⟨d,.move x,ty,pos,af,gu⟩).run P w= .ok (.value (vx)) w:=by simp only [execOp]; rw [a]; rfl
theorem bX {vx:Value}:Val P ⟨d,.move x,ty,pos,af,gu⟩ [x] [vx] (True) (vx) :=
 ⟨rfl,ZQ,λ_ ρ w h=>by
  have a:=wS h;simp only [execOp]; rw [a]; rfl⟩
theorem VT {vx:Value}  (a:ρ x=vx):(execOp ρ ⟨d,.assign x,ty,pos,af,gu⟩).run P w= .ok (.value (vx)) w:=by simp only [execOp]; rw [a]; rfl
theorem eQ {vx:Value}:Val P ⟨d,.assign x,ty,pos,af,gu⟩ [x] [vx] (True) (vx) :=
 ⟨rfl,ZQ,λ_ ρ w h=>by
  have a:=wS h;simp only [execOp]; rw [a]; rfl⟩
theorem uA {vs:Array Value} {v:Value} {i:Nat} (a:vs[i]?=some v) (b:ρ x= .tuple vs):(execOp ρ ⟨d,.extract x i,ty,pos,af,gu⟩).run P w= .ok (.value (v)) w:=by simp only [execOp]; rw [b]; simp [Instr.extract,a]
theorem qa {vs:Array Value} {v:Value} {i:Nat}:Val P ⟨d,.extract x i,ty,pos,af,gu⟩ [x] [.tuple vs] (vs[i]?=some v) (v) :=
 ⟨rfl,ZQ,λa ρ w h=>by
  have b:=wS h;simp only [execOp]; rw [b]; simp [Instr.extract,a]⟩
theorem V7 {s:ByteArray} {k:IntKind} {i:Int} {t:TypeId} (c:P.underlying t=some .string) (f:ρ x= .string s) (g:ρ y= .int k i) (h:0<=i/\i<(s.size:Int)):(execOp ρ ⟨d,.index t x y,ty,pos,af,gu⟩).run P w= .ok (.value (.int .u8 ((s.data.getD i.toNat 0).toNat:Int))) w:=by 
  simp only [execOp]; rw [f,g]
  have b:i.toNat<s.size:=ZJ
  have e:s[i.toNat]?=some (s.data.getD i.toNat 0):=by
   have a:=b;rw [ByteArray.getElem?_lt' s i.toNat b];simp [ByteArray.getElem_eq_getElem_data,Array.getElem?_eq_getElem a]
  simp [Instr.index,run_underlying c,asIntOf,h.1,e]
theorem vS {s:ByteArray} {k:IntKind} {i:Int} {t:TypeId} [Und P t .string]:Val P ⟨d,.index t x y,ty,pos,af,gu⟩ [x,y] [.string s,.int k i] (0<=i/\i<(s.size:Int)) (.int .u8 ((s.data.getD i.toNat 0).toNat:Int)) :=
 ⟨rfl,ZQ,λc ρ w h=>by
  obtain ⟨f,g⟩:=iI h;have j:P.underlying t=some .string:=Und.q;simp only [execOp]; rw [f,g];have b:i.toNat<s.size:=ZJ;have e:s[i.toNat]?=some (s.data.getD i.toNat 0):=by
   have a:=b;rw [ByteArray.getElem?_lt' s i.toNat b];simp [ByteArray.getElem_eq_getElem_data,Array.getElem?_eq_getElem a]
  simp [Instr.index,run_underlying j,asIntOf,c.1,e]⟩
theorem QE {cs:Array Value} {v:Value} {t:TypeId} {fi:Nat} (a:sH P t fi cs=some v) (b:ρ x= .agg cs):(execOp ρ ⟨d,.field t x fi,ty,pos,af,gu⟩).run P w= .ok (.value (v)) w:=by simp only [execOp]; rw [b]; exact yR a
theorem QH {cs:Array Value} {v:Value} {t:TypeId} {fi:Nat}:Val P ⟨d,.field t x fi,ty,pos,af,gu⟩ [x] [.agg cs] (sH P t fi cs=some v) (v) :=
 ⟨rfl,ZQ,λa ρ w h=>by
  have b:=wS h;simp only [execOp]; rw [b]; exact yR a⟩
theorem Bh {t:TypeId} {ad:Addr} {v:Value} (h1:one P t=true) (a:ρ x= .pointer (some ad)) (b:w.cell? ad=some v):(execOp ρ ⟨d,.load t x,ty,pos,af,gu⟩).run P w= .ok (.value v) w:=by
 simp only [execOp]; rw [a]; simp [Instr.loadAt,Instr.sureAddr,nG h1 b]
theorem QK {t:TypeId} {ad:Addr} {v:Value} (c:gd ops E gu=some G) (e:aC N d=true) (h1:one P t=true) (f:ev E x=some (cx,.pointer (some ad))) (g:aF G->aF cx) (h:aF G->w.cell? ad=some v)
  (next:TW P r Q N ds ops rest (ins E d G v) w):TW P r Q N ds ops (⟨d,.load t x,ty,pos,af,gu⟩::rest) E w :=
 fZ c e rfl (λa _ b=>Bh h1 (b.eval f (g a)) (h a)) next
theorem QU {t:TypeId} {ad:Addr} {v:Value} (f:fD ops D gu=some G) (g:aC N d=true) (h1:one P t=true) (h:dev D x=some (cx,.ex (.pointer (some ad)))) (i:aF G->aF cx) (b:aF G->w.cell? ad=some v)
  (next:DW P N ds md ops w Fin rest (bE D d G (.ex v))):DW P N ds md ops w Fin (⟨d,.load t x,ty,pos,af,gu⟩::rest) D :=
 jw f g rfl (λa _ _ c e=>Bh h1 (e.eval h ZQ (i a)) ((c.cell (block_lt_of_cell (b a))).trans (b a))) next
theorem vQ {fs:Array Field} (a:P.underlying t=some (.struct fs)) (hs:(P.info? t).map (·.size)=some cs.length) (b:ρ x= .pointer (some ad)) (c: ∀j v,cs[j]?=some v->w.cell? (ad.add j)=some v) :
  (execOp ρ ⟨d,.load t x,ty,pos,af,gu⟩).run P w= .ok (.value (.agg cs.toArray)) w:=by
 simp only [execOp]; rw [b]; simp [Instr.loadAt,Instr.sureAddr,je a hs c]
theorem Ow {t:TypeId} {ad:Addr} {fs:Array Field} {n:Nat} (cs:List Value) (c:gd ops E gu=some G) (e:aC N d=true) (f:P.underlying t=some (.struct fs)) (hs:(P.info? t).map (·.size)=some n)
  (g:ev E x=some (cx,.pointer (some ad))) (h:aF G->aF cx) (i:aF G-> ∀j v,cs[j]?=some v->w.cell? (ad.add j)=some v) (hl:cs.length=n)
  (next:TW P r Q N ds ops rest (ins E d G (.agg cs.toArray)) w):TW P r Q N ds ops (⟨d,.load t x,ty,pos,af,gu⟩::rest) E w :=
 fZ c e rfl (λa _ b=>vQ f (hl ▸ hs) (b.eval g (h a)) (i a)) next
theorem OJ {t:TypeId} {ad:Addr} {fs:Array Field} {n:Nat} (cs:List Value) (g:fD ops D gu=some G) (h:aC N d=true) (i:P.underlying t=some (.struct fs)) (hs:(P.info? t).map (·.size)=some n)
  (k:dev D x=some (cx,.ex (.pointer (some ad)))) (l:aF G->aF cx) (c:aF G-> ∀j v,cs[j]?=some v->w.cell? (ad.add j)=some v) (hl:cs.length=n)
  (next:DW P N ds md ops w Fin rest (bE D d G (.ex (.agg cs.toArray)))):DW P N ds md ops w Fin (⟨d,.load t x,ty,pos,af,gu⟩::rest) D :=
 jw g h rfl (λa _ _ e f=>vQ i (hl ▸ hs) (f.eval k ZQ (l a)) (λj v b=>(e.cell (block_lt_of_cell (c a j v b))).trans (c a j v b))) next
theorem N8 {vy vz v:Value} {b:Bool} (a:ρ x= .bool b) (c:b=true->ρ y=vy/\vy=v) (f:b=false->ρ z=vz/\vz=v):(execOp ρ ⟨d,.pick x y z,ty,pos,af,gu⟩).run P w= .ok (.value v) w:=by
 simp only [execOp]; rw [a]
 cases b with
 | true=>obtain ⟨h,e⟩:=c rfl; rw [h,e]; simp [asBool]
 | false=>obtain ⟨h,e⟩:=f rfl; rw [h,e]; simp [asBool]
theorem ID {vy vz v:Value} {b:Bool} (g:gd ops E gu=some G) (h:aC N d=true) (i:ev E x=some (cx,.bool b)) (j:aF G->aF cx)
  (k:ev E y=some (cy,vy)) (l:ev E z=some (cz,vz)) (h1:aF G->b=true->aF cy/\vy=v) (f:aF G->b=false->aF cz/\vz=v)
  (next:TW P r Q N ds ops rest (ins E d G v) w):TW P r Q N ds ops (⟨d,.pick x y z,ty,pos,af,gu⟩::rest) E w :=
 fZ g h rfl (λa _ e=>N8 (e.eval i (j a)) (λc=>⟨e.eval k (h1 a c).1,(h1 a c).2⟩) (λc=>⟨e.eval l (f a c).1,(f a c).2⟩)) next
theorem IL {vy vz v:Value} {b:Bool} (g:fD ops D gu=some G) (h:aC N d=true) (i:dev D x=some (cx,.ex (.bool b))) (j:aF G->aF cx)
  (k:dev D y=some (cy,.ex vy)) (l:dev D z=some (cz,.ex vz)) (h1:aF G->b=true->aF cy/\vy=v) (f:aF G->b=false->aF cz/\vz=v)
  (next:DW P N ds md ops w Fin rest (bE D d G (.ex v))):DW P N ds md ops w Fin (⟨d,.pick x y z,ty,pos,af,gu⟩::rest) D :=
 jw g h rfl (λa _ _ _ e=>N8 (e.eval i ZQ (j a)) (λc=>⟨e.eval k ZQ (h1 a c).1,(h1 a c).2⟩)
  (λc=>⟨e.eval l ZQ (f a c).1,(f a c).2⟩)) next
theorem zK (e:gd ops E gu=some G) (f:aC N d=true) (g:ev E x=some (cx,.bool b)) (h:aF G->aF cx) (i:ev E z=some (cz,.bool b')) (j:aF G->b=false->aF cz)
  (next:TW P r Q N ds ops rest (ins E d G (.bool (b||b'))) w):TW P r Q N ds ops (⟨d,.pick x (.const (.bool true)) z,ty,pos,af,gu⟩::rest) E w :=
 ID e f g h rfl i (λ_ a=>⟨trivial,by rw [a]; rfl⟩) (λc a=>⟨j c a,by rw [a]; rfl⟩) next
theorem jS (e:gd ops E gu=some G) (f:aC N d=true) (g:ev E x=some (cx,.bool b)) (h:aF G->aF cx) (i:ev E y=some (cy,.bool b')) (j:aF G->b=true->aF cy)
  (next:TW P r Q N ds ops rest (ins E d G (.bool (b&&b'))) w):TW P r Q N ds ops (⟨d,.pick x y (.const (.bool false)),ty,pos,af,gu⟩::rest) E w :=
 ID e f g h i rfl (λc a=>⟨j c a,by rw [a]; rfl⟩) (λ_ a=>⟨trivial,by rw [a]; rfl⟩) next
theorem zT (e:fD ops D gu=some G) (f:aC N d=true) (g:dev D x=some (cx,.ex (.bool b))) (h:aF G->aF cx) (i:dev D z=some (cz,.ex (.bool b'))) (j:aF G->b=false->aF cz)
  (next:DW P N ds md ops w Fin rest (bE D d G (.ex (.bool (b||b'))))):DW P N ds md ops w Fin (⟨d,.pick x (.const (.bool true)) z,ty,pos,af,gu⟩::rest) D :=
 IL e f g h rfl i (λ_ a=>⟨trivial,by rw [a]; rfl⟩) (λc a=>⟨j c a,by rw [a]; rfl⟩) next
theorem xV (e:fD ops D gu=some G) (f:aC N d=true) (g:dev D x=some (cx,.ex (.bool b))) (h:aF G->aF cx) (i:dev D y=some (cy,.ex (.bool b'))) (j:aF G->b=true->aF cy)
  (next:DW P N ds md ops w Fin rest (bE D d G (.ex (.bool (b&&b'))))):DW P N ds md ops w Fin (⟨d,.pick x y (.const (.bool false)),ty,pos,af,gu⟩::rest) D :=
 IL e f g h i rfl (λc a=>⟨j c a,by rw [a]; rfl⟩) (λ_ a=>⟨trivial,by rw [a]; rfl⟩) next
def Args (N:Nat) (ds:List Deferred) (E:Env) (G:Option Bool) (xs:List Operand) (vs:List Value):Prop:= ∀a,Fit N ds E a->aF G->xs.map a.eval=vs
theorem aJ:Args N ds E G [] []:=λ_ _ _=>rfl
theorem aA {v:Value} (d:ev E x=some (cx,v)) (e:aF G->aF cx) (h:Args N ds E G xs vs):Args N ds E G (x::xs) (v::vs):=λa b c=>by
 rw [List.map_cons,b.eval d (e c),h a b c]
def DArgs (L:List Nat) (N:Nat) (ds:List Deferred) (D:DE) (G:Option Bool) (xs:List Operand) (vs:List Value):Prop:=(∀t,Operand.tmp t∈xs->t∈L)-> ∀a w,FitL N ds L D a w->aF G->xs.map a.eval=vs
theorem dR:DArgs L N ds D G [] []:=λ_ _ _ _ _=>rfl
theorem cO {v:Value} (f:dev D x=some (cx,.ex v)) (g:aF G->aF cx) (h:DArgs L N ds D G xs vs):DArgs L N ds D G (x::xs) (v::vs):=λc a w d e=>by
 rw [List.map_cons,h (λt b=>c t (by simp [b])) a w d e,d.evalL f (λt b=>c t (by simp [b])) (g e)]
theorem lK {f:Operand} {k:FuncId} {cap:List Value} {xs:List Operand} {vs:List Value} {ts:Array TypeId} (he:enters P k=true) (b:ρ f= .func (.func k) #[] cap.toArray) (c:xs.map ρ=vs) :
  (execOp ρ ⟨d,.call ⟨.value f,xs.toArray,ts⟩,ty,pos,af,gu⟩).run P w= .ok (.enter k (vs++cap).toArray) w:=by
 have a:=jF he;simp [execOp,resolve,b,c,Deferred.ofValue,invoke,a]
theorem QL {f:Operand} {k:FuncId} {cap:List Value} {cf:Option Bool} {xs:List Operand} {vs:List Value} {ts:Array TypeId} {R:Value->World->Prop} (g:gd ops E gu=some G) (h:aC N d=true) (he:enters P k=true)
  (i:ev E f=some (cf,.func (.func k) #[] cap.toArray)) (j:aF G->aF cf) (l:Args N ds E G xs vs) (m:aF G->Gives P k (vs++cap).toArray w R)
  (next: ∀v b,(aF G->R v b)->(¬aF G->b=w)->TW P r Q N ds ops rest (ins E d G v) b):TW P r Q N ds ops (⟨d,.call ⟨.value f,xs.toArray,ts⟩,ty,pos,af,gu⟩::rest) E w :=
 xN g h rfl (λc a e=>lK he (e.eval i (j c)) (l a e c)) m next
theorem fE {f:Operand} {k:FuncId} {cap:List Value} {ts:Array TypeId} (b:gu=none) (c:aC N d=true) (he:enters P k=true)
  (e:ev E f=some (none,.func (.func k) #[] cap.toArray)) (g:Args N ds E none xs vs) (i:Gives P k (vs++cap).toArray w R)
  (next: ∀v a,R v a->TW P r Q N ds ops rest (ins E d none v) a):TW P r Q N ds ops (⟨d,.call ⟨.value f,xs.toArray,ts⟩,ty,pos,af,gu⟩::rest) E w :=
 QL (by rw [b]; rfl) c he e ct g (λ_=>i) (λv a h _=>next v a (h trivial))
theorem vY {f:Operand} {k:FuncId} {cap:List Value} {cf:Option Bool} {xs:List Operand} {vs:List Value} {ts:Array TypeId} (e:Ent) (hm:e.mono) (l:fD ops D gu=some G) (m:aC N d=true) (he:enters P k=true)
  (n:dev D f=some (cf,.ex (.func (.func k) #[] cap.toArray))) (p:aF G->aF cf) (q:DArgs (Oper.looksAt ops.toArray ⟨d,.call ⟨.value f,xs.toArray,ts⟩,ty,pos,af,gu⟩) N ds D G xs vs)
  (r:aF G-> ∀b,ZT w b->Gives P k (vs++cap).toArray b λv c=>ZT b c/\e.sat v c)
  (next:DW P N ds .weak ops w Fin rest (bE D d G e)):DW P N ds .weak ops w Fin (⟨d,.call ⟨.value f,xs.toArray,ts⟩,ty,pos,af,gu⟩::rest) D :=
 tO l m rfl hm (λg a b i h=>⟨_,_,lK he (h.eval n ZP (p g))
  (q (λt j=>bB (by simp [Op.operands,Call.operands,j])) a b h g),r g b i⟩) next
theorem xJ {fn:Fn} {cap:List Operand} {vs:List Value} (a:cap.map ρ=vs):(execOp ρ ⟨d,.makeFunc fn #[] cap.toArray,ty,pos,af,gu⟩).run P w= .ok (.value (.func fn #[] vs.toArray)) w:=by
 simp [execOp,Instr.makeFunc,a]
theorem dN {fn:Fn} {cap:List Operand} {vs:List Value} (e:gd ops E gu=some G) (f:aC N d=true) (g:Args N ds E G cap vs)
  (next:TW P r Q N ds ops rest (ins E d G (.func fn #[] vs.toArray)) w):TW P r Q N ds ops (⟨d,.makeFunc fn #[] cap.toArray,ty,pos,af,gu⟩::rest) E w :=
 fZ e f rfl (λb a c=>xJ (g a c b)) next
theorem Ew {fn:Fn} {cap:List Operand} {vs:List Value} (g:fD ops D gu=some G) (h:aC N d=true) (i:DArgs (Oper.looksAt ops.toArray ⟨d,.makeFunc fn #[] cap.toArray,ty,pos,af,gu⟩) N ds D G cap vs)
  (next:DW P N ds md ops w Fin rest (bE D d G (.ex (.func fn #[] vs.toArray)))):DW P N ds md ops w Fin (⟨d,.makeFunc fn #[] cap.toArray,ty,pos,af,gu⟩::rest) D :=
 jw g h rfl (λb a c _ e=>xJ (i (λt f=>bB (by simp [Op.operands,f])) a c e b)) next
theorem bS {t:TypeId} {vx:Value} {cs:List Value} (e:gu=none) (f:aC N d=true) (h:ev E x=some (none,vx)) (i:vx.cells=cs.toArray)
  (next: ∀g b,Fresh w b g t cs->TW P r Q N ds ops rest (ins E d none (.pointer (some ⟨g,0,none⟩))) b):TW P r Q N ds ops (⟨d,.box t x,ty,pos,af,gu⟩::rest) E w :=
 ek e f rfl (λa c=>by
  simp only [execOp]; rw [c.eval h trivial,<-i]; rfl) (next _ _ (gD w t cs))
theorem gq {t:TypeId} {cs:List Value} (h:gu=none) (j:aC N d=true) (c:zeroCells P t=some cs)
  (next: ∀g f,Fresh w f g t cs->TW P r Q N ds ops rest (ins E d none (.pointer (some ⟨g,0,none⟩))) f):TW P r Q N ds ops (⟨d,.alloc t,ty,pos,af,gu⟩::rest) E w :=
 ek h j rfl (λa k=>by
  unfold zeroCells at c
  cases e:P.info? t with
  | none=>simp [e] at c
  | some i =>
   cases b:i.zero with
   | none=>simp [e,b] at c
   | some l =>
    simp [e,b] at c;subst c;simp [execOp,Instr.alloc,zeroValue,typeInfo,e,b,newVar,newRow]) (next _ _ (gD w t cs))
theorem fu {old vy:Value} (d:gu=none) (h1:(P.info? t).map (·.size)=some 1) (f:ev E x=some (none,.pointer (some ad))) (g:ev E y=some (none,vy)) (h:w.cell? ad=some old) (i:w.frozen? ad=false)
  (c:vy.oneCell'=true) (next:TW P r Q N ds ops rest E (w.setCell ad vy)):TW P r Q N ds ops (⟨none,.store t x y,ty,pos,af,gu⟩::rest) E w :=
 mr d rfl rfl (λa b=>by
  simp only [execOp]; rw [b.eval f trivial,b.eval g trivial];have e:vy.cells= #[vy]:=by cases vy<;>first|rfl|simp [Value.oneCell'] at c
  simp [Instr.storeAt,Instr.sureAddr,storeVar,run_sizeOf h1,e,storeCells,run_store P w ad vy .plain c,h,i,Addr.add]) next
theorem pz {t1:TypeId} {old:List Value} (c:gu=none) (d:ev E x=some (none,.pointer (some ⟨g,0,none⟩))) (e:ev E y=some (none,.agg cs.toArray)) (hb:Blk w g t1 old) (hs:(P.info? t).map (·.size)=some cs.length) (hl:old.length=cs.length)
  (h1:cs.all (·.oneCell')=true) (next:TW P r Q N ds ops rest E (w.setRow g cs.toArray)):TW P r Q N ds ops (⟨none,.store t x y,ty,pos,af,gu⟩::rest) E w :=
 mr c rfl rfl (λa b=>by
  simp only [execOp]; rw [b.eval d trivial,b.eval e trivial];have h:=run_storeVar_row (P:=P) w g t1 t old.toArray cs.toArray hb (by simpa using hs) (by simpa using hl) (by simpa using h1);simp [Instr.storeAt,Instr.sureAddr,h]) next
theorem fw {t:TypeId} {dd:Nat} {zs cs:List Value} {ty':TypeId} {pos':String} {af':Array Edge} (m:aC N (some dd)=true) (e:zeroCells P t=some zs) (n:ev ((dd,none,.pointer (some ⟨w.heap.size,0,none⟩))::E) y=some (none,.agg cs.toArray)) (hs:(P.info? t).map (·.size)=some cs.length) (hl:zs.length=cs.length)
  (h1:cs.all (·.oneCell')=true) (next: ∀g k,Fresh w k g t cs->TW P r Q N ds ops rest ((dd,none,.pointer (some ⟨g,0,none⟩))::E) k) :
  TW P r Q N ds ops (⟨some dd,.alloc t,ty,pos,af,none⟩::⟨none,.store t (.tmp dd) y,ty',pos',af',none⟩::rest) E w:=by
 intro a l;refine ⟨λ_ _=>trivial,?_⟩;have c:(execOp a.eval ⟨some dd,.alloc t,ty,pos,af,none⟩).run P w= .ok (.value (.pointer (some ⟨w.heap.size,0,none⟩))) (w.alloc (.cells zs.toArray t)):=by
  unfold zeroCells at e
  cases f:P.info? t with
  | none=>simp [f] at e
  | some i =>
   cases b:i.zero with
   | none=>simp [f,b] at e
   | some o =>
    simp [f,b] at e;subst e;simp [execOp,Instr.alloc,zeroValue,typeInfo,f,b,Go.newVar,newRow]
 rw [jc rfl,c];have j:TW P r Q N ds ops (⟨none,.store t (.tmp dd) y,ty',pos',af',none⟩::rest) ((dd,none,.pointer (some ⟨w.heap.size,0,none⟩))::E) (w.alloc (.cells zs.toArray t)):=by
  refine pz rfl (by simp [ev,look]) n (Blk.new w t zs) hs hl h1 ?_;rw [EW w zs.toArray cs.toArray t];exact next _ _ (gD w t cs)
 exact j _ (l.put m (λ_=>rfl) (λh=>absurd trivial h))
end
end
section
def Kept (F:Nat->Prop) (w w':World):Prop:= ∀(p:Addr) (v:Value),F p.block->w.cell? p=some v->w'.cell? p=some v
theorem Kept.of_below (h:ZT w w'):Kept F w w':=λp _ _ a=>(h.cell (block_lt_of_cell a)).trans a
theorem Kept.of_blocks (h: ∀b,F b->b<w.heap.size->w'.heap[b]?=w.heap[b]?):Kept F w w':=λp _ c a=>(World.cell?_of_block (h p.block c (block_lt_of_cell a))).trans a
theorem Kept.cell {F:Nat->Prop} {w w':World} (h:Kept F w w') {p:Addr} {v:Value} (hp:F p.block) (a:w.cell? p=some v):w'.cell? p=some v:=h p v hp a
theorem add_block (a:Addr) (n:Nat):(a.add n).block=a.block:=by unfold Addr.add; split<;>rfl
structure Ty (α:Type) where
 n:Nat
 rep:(Nat->Prop)->World->List Value->α->Prop
 len: ∀F w cs x,rep F w cs x->cs.length=n
 mono: ∀F w w' cs x,Kept F w w'->rep F w cs x->rep F w' cs x
 wider: ∀(F F':Nat->Prop) w cs x,(∀b,F b->F' b)->rep F w cs x->rep F' w cs x
def fF (x:Int):Prop:= -9223372036854775808<=x/\x<=9223372036854775807
def aS:Ty Int where
 n:=1
 rep:=λ_ _ cs x=>cs= [ZU x]/\fF x
 len:=λ_ _ _ _ h=>by rw [h.1]; rfl
 mono:=λ_ _ _ _ _ _ h=>h
 wider:=λ_ _ _ _ _ _ h=>h
def boolT:Ty Bool where
 n:=1
 rep:=λ_ _ cs x=>cs= [.bool x]
 len:=λ_ _ _ _ h=>by rw [h]; rfl
 mono:=λ_ _ _ _ _ _ h=>h
 wider:=λ_ _ _ _ _ _ h=>h
def eT:Ty ByteArray where
 n:=1
 rep:=λ_ _ cs x=>cs= [.string x]/\x.size<=9223372036854775807
 len:=λ_ _ _ _ h=>by rw [h.1]; rfl
 mono:=λ_ _ _ _ _ _ h=>h
 wider:=λ_ _ _ _ _ _ h=>h
variable {α:Type}
def SL (T:Ty α) (F:Nat->Prop) (w:World) (v:Value) (l:List α):Prop :=
 ∃ A cap,v= .slice A l.length cap/\l.length<=cap/\l.length<=9223372036854775807 /\
  ∀ i x,l[i]?=some x-> ∃ad cs,A=some ad/\F ad.block/\(∀j u,cs[j]?=some u->w.cell? ((ad.add (i*T.n)).add j)=some u)/\T.rep F w cs x
theorem SL.mono {T:Ty α} {F:Nat->Prop} {w w':World} {v:Value} {l:List α} (h:SL T F w v l) (c:Kept F w w'):SL T F w' v l:=by
 obtain ⟨A,a,d,e,f,g⟩:=h;refine ⟨A,a,d,e,f,λi x k=> ?_⟩;obtain ⟨m,n,o,b,p,q⟩:=g i x k;exact ⟨m,n,o,b,λj u r=>c.cell (by rw [add_block,add_block]; exact b) (p j u r),T.mono _ _ _ _ _ c q⟩
theorem SL.below {T:Ty α} {v:Value} {l:List α} (h:SL T F w v l) (hb:ZT w w'):SL T F w' v l:=h.mono (.of_below hb)
theorem SL.wider {T:Ty α} {F F':Nat->Prop} {w:World} {v:Value} {l:List α} (h:SL T F w v l) (c: ∀b,F b->F' b):SL T F' w v l:=by
 obtain ⟨A,a,d,e,f,g⟩:=h;refine ⟨A,a,d,e,f,λi x j=> ?_⟩;obtain ⟨k,m,n,o,p,q⟩:=g i x j;exact ⟨k,m,n,c _ o,p,T.wider _ _ _ _ _ c q⟩
theorem SL.nil (T:Ty α) (F:Nat->Prop) (w:World):SL T F w (.slice none 0 0) []:=⟨none,0,rfl,ZC,ZM,λi x h=>by simp at h⟩
def sliceT (T:Ty α):Ty (List α) where
 n:=1
 rep:=λF w cs l=> ∃v,cs= [v]/\SL T F w v l
 len:=λ_ _ _ _ h=>by obtain ⟨v,h,_⟩:=h; rw [h]; rfl
 mono:=λ_ _ _ _ _ hk h=>by obtain ⟨v,h,hs⟩:=h; exact ⟨v,h,hs.mono hk⟩
 wider:=λ_ _ _ _ _ hF h=>by obtain ⟨v,h,hs⟩:=h; exact ⟨v,h,hs.wider hF⟩
theorem SL.int {F:Nat->Prop} {w:World} {A:Option Addr} {n cap:Nat} {l:List Int} (h:SL aS F w (.slice A n cap) l) {i:Nat} {x:Int} (k:l[i]?=some x) :
  ∃ a,A=some a/\w.cell? (a.add (i*1))=some (ZU x)/\fF x:=by
 obtain ⟨m,b,c,_,_,d⟩:=h;obtain ⟨rfl,_,rfl⟩:=c;obtain ⟨a,o,e,_,f,g,j⟩:=d i x k;exact ⟨a,e,by have:=f 0 (ZU x) (by rw [g]; rfl); simpa [aS,Addr.add] using this,j⟩
theorem SL.len {T:Ty α} {n cap:Nat} {l:List α} (h:SL T F w (.slice A n cap) l):n=l.length/\l.length<=cap/\l.length<=9223372036854775807:=by
 obtain ⟨e,a,b,c,d,_⟩:=h;obtain ⟨rfl,rfl,rfl⟩:=b;exact ⟨rfl,c,d⟩
end
end Go.PF
