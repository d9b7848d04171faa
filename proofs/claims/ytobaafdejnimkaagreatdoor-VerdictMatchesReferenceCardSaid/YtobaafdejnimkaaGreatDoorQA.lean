/- Texts of this claim,joined. -/
import Derived.TacticsIn
import Derived.OrdersIn
import Derived.Below
import Derived.Laws.Slices
import Derived.Laws.Strings
import Derived.Laws.StructEq
import Derived.Laws.Small
import Derived.Laws.Build
import Derived.Laws.Tables
import Derived.Laws.Rows
import Derived.Great.BuildSlice
import Derived.RangeFuncLeaves
import Derived.Maps.AppendAt
import Derived.RangeFuncNested
import Derived.Lib.SliceRun
set_option linter.unusedSimpArgs false
set_option linter.unusedVariables false
set_option maxRecDepth 100000
set_option maxHeartbeats 4000000
namespace Go
open RowKit
theorem ZA {n : Nat} {w : World} : Below n w w := Below.refl _ _
theorem ZB {n : Nat} : 0 <= n := Nat.zero_le _
theorem ZC {n : Nat} : n <= n := Nat.le_refl _
theorem ZD {α : Type _} {l : List α} {i : Nat} (h : i < l.length) : l[i]? = some l[i] := List.getElem?_eq_getElem h
theorem ZE {α : Type _} {l : List α} {i : Nat} {a : α} (h : l[i]? = some a) : ∃ h : i < l.length, l[i] = a := List.getElem?_eq_some_iff.1 h
theorem ZF {α : Type _} {l : List α} {i : Nat} {a : α} (h : l[i]? = some a) : a ∈ l := List.mem_of_getElem? h
theorem ZG {α : Type _} {l : List α} {i : Nat} : l.take (i + 1) = l.take i ++ l[i]?.toList := List.take_add_one
theorem ZH {α : Type _} {a : α} {s t : List α} (h : a ∈ s ++ t) : a ∈ s ∨ a ∈ t := List.mem_append.1 h
theorem ZI (a b : Nat) : a < b ∨ a ≥ b := Nat.lt_or_ge a b
abbrev ZJ (w : World) (v : Value) : Value -> World -> Prop := fun u w' => Below w.heap.size w w' /\ u = v
end Go
namespace Go.PF
open Go.RowKit
abbrev FR (r:Option Nat):Fence:= {Fence.wide with round:=r}
def aV:Option Bool->Prop
 | none=>True
 | some b=>b=true
abbrev Env:=List (Nat×Option Bool×Value)
def look:Env->Nat->Option (Option Bool×Value)
 | [],_=>none
 | (j,c,v)::E,i=>match Nat.beq j i with
  | true=>some (c,v)
  | false=>look E i
structure Fit (N:Nat) (ds:List Deferred) (E:Env) (a:Act):Prop where
 size:a.tmps.size=N
 defers:a.defers=ds
 slots: ∀i c v,look E i=some (c,v)->(aV c->a.tmps.getD i undef=v)/\(¬aV c->a.tmps.getD i undef=undef)
def ev (E:Env):Operand->Option (Option Bool×Value)
 | .tmp t=>look E t
 | .const v=>some (none,v)
 | .global g=>some (none,.pointer (some ⟨g,0,none⟩))
 | .func f=>some (none,.func (.func f) #[] #[])
theorem kC {d i:Nat} (h:d≠i):Nat.beq d i=false:=by
 cases hb:Nat.beq d i with
 | false=>rfl
 | true=>exact absurd (Nat.eq_of_beq_eq_true hb) h
theorem eu (d:Nat):Nat.beq d d=true:=Nat.beq_refl d
theorem Fit.eval {N:Nat} {ds:List Deferred} {E:Env} {a:Act} (h:Fit N ds E a) {x:Operand} {c:Option Bool} {v:Value} (hx:ev E x=some (c,v)) (hc:aV c):a.eval x=v:=by
 cases x with
 | tmp t=>exact (h.slots t c v hx).1 hc
 | const u=>simp [ev] at hx; exact hx.2
 | global g=>simp [ev] at hx; exact hx.2
 | func f=>simp [ev] at hx; exact hx.2
def ins (E:Env) (d:Option Tmp) (c:Option Bool) (v:Value):Env :=
 match d with
 | none=>E
 | some d=>(d,c,v)::E
def be (N:Nat):Option Tmp->Bool
 | none=>true
 | some d=>Nat.blt d N
theorem Fit.put {N:Nat} {ds:List Deferred} {E:Env} {a:Act} (h:Fit N ds E a) {d:Option Tmp} {c:Option Bool} {v u:Value} (hd:be N d=true) (h1:aV c->u=v) (h2: ¬aV c->u=undef) :
  Fit N ds (ins E d c v) (a.put d u):=by
 cases d with
 | none=>exact h
 | some d =>
  have hd':d<N:=by simpa [be] using hd
  refine ⟨by simp [Act.put,h.size],by simp [Act.put,h.defers],fun i c' v' hl=> ?_⟩;simp only [ins,look] at hl;by_cases hi:d=i
  ·subst hi;have e:Nat.beq d d=true:=eu d;rw [e] at hl;simp only [Option.some.injEq,Prod.mk.injEq] at hl;obtain ⟨rfl,rfl⟩:=hl;have:(a.put (some d) u).tmps.getD d undef=u:=by
    simp [Act.put,h.size,hd']
   rw [this];exact ⟨h1,h2⟩
  ·have e:Nat.beq d i=false:=kC hi;rw [e] at hl;have:(a.put (some d) u).tmps.getD i undef=a.tmps.getD i undef:=by
    simp [Act.put,Array.getElem?_setIfInBounds_ne hi]
   rw [this];exact h.slots i c' v' hl
def gd (ops:List Oper) (E:Env):Option (Nat×Bool)->Option (Option Bool)
 | none=>some none
 | some (j,want)=>match (ops[j]?).bind (·.dst) with
  | none=>none
  | some d=>match look E d with
   | some (none,.bool b)=>match want with
    | true=>some (some b)
    | false=>some (some (!b))
   | some (some c,.bool b)=>match want with
    | true=>some (some (c&&b))
    | false=>some (some (c&& !b))
   | _=>none
theorem jl {a:Array Value} {d:Nat} {v:Value} (h:d<a.size) (e:a.getD d undef=v):a[d]?=some v:=by
 rw [<-e]; simp [h]
def ng:Option Value->Option Bool
 | some (.bool b)=>some b
 | _=>none
theorem lQ (ops:List Oper) (t:Array Value) (j:Nat):yielded ops.toArray t j=ng (((ops[j]?).bind (·.dst)).bind (t[·]?)):=by
 unfold yielded ng;simp only [List.getElem?_toArray]
 split<;>split<;>simp_all
theorem vY {x:Option Value} (h: ∀b,x≠some (.bool b)):ng x=none:=by
 unfold ng
 split
 ·rename_i b; exact absurd rfl (h b)
 ·rfl
theorem jM {N:Nat} {ds:List Deferred} {E:Env} {a:Act} {ops:List Oper} {o:Oper} {G:Option Bool} (h:Fit N ds E a) (hg:gd ops E o.guard=some G) :
  (aV G->Region.wanted o (yielded ops.toArray a.tmps)=true)/\(¬aV G->Region.wanted o (yielded ops.toArray a.tmps)=false):=by
 unfold Region.wanted
 cases hgu:o.guard with
 | none=>rw [hgu] at hg; simp [gd] at hg; subst hg; simp [aV]
 | some p =>
  obtain ⟨j,want⟩:=p;rw [hgu] at hg;simp only [gd] at hg
  cases hd:(ops[j]?).bind (·.dst) with
  | none=>rw [hd] at hg; simp at hg
  | some d =>
   rw [hd] at hg;simp only at hg;simp only [lQ,hd,Option.bind_some]
   split at hg
   ·rename_i b hl;have h1:=(h.slots d none (.bool b) hl).1 trivial;have h2:a.tmps[d]?=some (.bool b):=by
     rcases ZI d a.tmps.size with hlt|hge
     ·exact jl hlt h1
     ·simp [Array.getElem?_eq_none hge,undef] at h1
    rw [h2];cases want<;>simp at hg<;>subst hg<;>simp [aV,ng]
   ·rename_i c b hl;obtain ⟨h1,h1'⟩:=h.slots d (some c) (.bool b) hl
    cases c with
    | true =>
     have h1:=h1 rfl;have h2:a.tmps[d]?=some (.bool b):=by
      rcases ZI d a.tmps.size with hlt|hge
      ·exact jl hlt h1
      ·simp [Array.getElem?_eq_none hge,undef] at h1
     rw [h2]
     cases want<;>simp at hg<;>subst hg<;>simp [aV,ng]
    | false =>
     have h1':=h1' (by simp [aV]);have h2: ∀b,a.tmps[d]?≠some (.bool b):=by
      intro b hb;simp [hb,undef] at h1'
     rw [vY h2];cases want<;>simp at hg<;>subst hg<;>simp [aV]
   ·cases hg
def eD:Op->Bool
 | .defer _=>false
 | _=>true
theorem iH {r:Option Nat} {ρ:Operand->Value} {o:Oper} (h:eD o.op=true):Oper.semAt r ρ o=execOp ρ o :=
 Oper.semAt_eq r ρ o fun c hc=>by rw [hc] at h; cases h
section
variable {P:Program} {r:Option Nat} {Q:Exit->Act->World->Prop} {N:Nat} {ds:List Deferred}
def TW (P:Program) (r:Option Nat) (Q:Exit->Act->World->Prop) (N:Nat) (ds:List Deferred) (ops rest:List Oper) (E:Env) (w:World):Prop :=
 ∀ a,Fit N ds E a->wpListIn (FR r) 0 P ops.toArray Q rest a w
def CW (P:Program) (r:Option Nat) (Q:Exit->Act->World->Prop) (N:Nat) (ds:List Deferred) (c:Code) (E:Env) (w:World):Prop :=
 ∀ a,Fit N ds E a->c.wpIn (FR r) 0 P Q a w
def KW (N:Nat) (ds:List Deferred) (K:Act->World->Prop) (E:Env) (w:World):Prop:= ∀a,Fit N ds E a->K a w
theorem bG {ops:List Oper} {E:Env} {w:World} (h:KW N ds (Q .normal) E w):TW P r Q N ds ops [] E w:=fun a ha=>h a ha
theorem bE {id:Nat} {ops:List Oper} {E:Env} {w:World} (h:TW P r Q N ds ops ops E w):CW P r Q N ds (.region id ops.toArray false) E w :=
 fun a ha=>wpIn_region_lit (h a ha)
theorem cO {x y:Code} {E:Env} {w:World} (h:CW P r (Exit.then (y.wpIn (FR r) 0 P Q) Q) N ds x E w):CW P r Q N ds (.seq x y) E w :=
 fun a ha=>wpIn_seq (h a ha)
theorem fU {id:Nat} {c:Code} {E:Env} {w:World} (h:CW P r (Exit.inBlock id Q) N ds c E w):CW P r Q N ds (.block id c) E w :=
 fun a ha=>wpIn_block (h a ha)
theorem fQ {E:Env} {w:World} (h:KW N ds (Q .normal) E w):CW P r Q N ds .skip E w:=fun a ha=>wpIn_skip (h a ha)
theorem Kk {id:Nat} {E:Env} {w:World} (h:KW N ds (Q (.exit id)) E w):CW P r Q N ds (.exit id) E w:=fun a ha=>wpIn_exit (h a ha)
theorem pg {E:Env} {w:World} (h:KW N ds (Q .ret) E w):CW P r Q N ds .ret E w:=fun a ha=>wpIn_ret (h a ha)
theorem au {c:Operand} {x y:Code} {b:Bool} {E:Env} {w:World} (hc:ev E c=some (none,.bool b)) (ht:b=true->CW P r Q N ds x E w) (hf:b=false->CW P r Q N ds y E w) :
  CW P r Q N ds (.cond c x y) E w :=
 fun a ha=>wpIn_cond_split (ha.eval hc trivial) (fun h=>ht h a ha) (fun h=>hf h a ha)
def pick (E:Env):List Nat->Option Env
 | []=>some []
 | i::is=>match look E i with
  | none=>none
  | some (c,v)=>match pick E is with
   | none=>none
   | some E'=>some ((i,c,v)::E')
theorem vG {E:Env}: ∀ {is:List Nat} {E':Env},pick E is=some E'-> ∀i c v,look E' i=some (c,v)->look E i=some (c,v)
 | [],E',h,i,c,v,hl=>by simp [pick] at h; subst h; simp [look] at hl
 | j::is,E',h,i,c,v,hl=>by
  simp only [pick] at h
  split at h
  ·cases h
  ·rename_i c' v' hj
   split at h
   ·cases h
   ·rename_i E'' hE;simp only [Option.some.injEq] at h;subst h;simp only [look] at hl;by_cases hi:j=i
    ·subst hi;have e:Nat.beq j j=true:=eu j;rw [e] at hl;simp only [Option.some.injEq,Prod.mk.injEq] at hl;obtain ⟨rfl,rfl⟩:=hl;exact hj
    ·have e:Nat.beq j i=false:=kC hi;rw [e] at hl;exact vG hE i c v hl
theorem Fit.pick {E E':Env} {is:List Nat} {a:Act} (h:Fit N ds E a) (hp:PF.pick E is=some E'):Fit N ds E' a :=
 ⟨h.size,h.defers,fun i c v hl=>h.slots i c v (vG hp i c v hl)⟩
theorem aS {K:Act->World->Prop} {E:Env} {w:World} (is:List Nat) (E':Env) (hp:PF.pick E is=some E') (h:KW N ds K E' w):KW N ds K E w:=fun a ha=>h a (ha.pick hp)
theorem qx {c:Code} {E:Env} {w:World} (is:List Nat) (E':Env) (hp:PF.pick E is=some E') (h:CW P r Q N ds c E' w):CW P r Q N ds c E w:=fun a ha=>h a (ha.pick hp)
theorem Da {α:Type} {c:Code} {E0:Env} {w:World} (E:α->Env) (J:α->World->Prop) (m:α->Nat) (x0:α) (h0:J x0 w) (hE: ∀a,Fit N ds E0 a->Fit N ds (E x0) a)
  (round: ∀x w,J x w->CW P r (Exit.then (fun a' w'=> ∃x',Fit N ds (E x') a'/\J x' w'/\m x'<m x) Q) N ds c (E x) w):CW P r Q N ds (.loop c) E0 w:=by
 classical
 intro a ha
 let I:Act->World->Prop:=fun a w=> ∃x,Fit N ds (E x) a/\J x w
 let M:Act->World->Nat->Prop:=fun a w n=> ∃x,Fit N ds (E x) a/\J x w/\m x=n
 have hex: ∀a w,I a w-> ∃n,M a w n/\ ∀k,M a w k->n<=k:=by
  intro a w ⟨x,h1,h2⟩;have key: ∀k,(∃j,j<=k/\M a w j)-> ∃n,M a w n/\ ∀k,M a w k->n<=k:=by
   intro k
   induction k with
   | zero =>
    rintro ⟨j,hj,hm⟩;have:j=0:=by omega
    subst this
    exact ⟨0,hm,fun k _=>Nat.zero_le k⟩
   | succ k ih =>
    rintro ⟨j,hj,hm⟩;by_cases hk: ∃j,j<=k/\M a w j
    ·exact ih hk
    ·refine ⟨j,hm,fun i hi=> ?_⟩;rcases ZI i j with hlt|hge
     ·exact absurd ⟨i,by omega,hi⟩ hk
     ·exact hge
  exact key (m x) ⟨m x,ZC,x,h1,h2,rfl⟩
 let μ:Act->World->Nat:=fun a w=>if h:I a w then Classical.choose (hex a w h) else 0
 have hμ: ∀a w,I a w-> ∃x,Fit N ds (E x) a/\J x w/\m x=μ a w:=by
  intro a w h;have:=(Classical.choose_spec (hex a w h)).1;simpa [μ,h] using this
 have hμle: ∀a w x,Fit N ds (E x) a->J x w->μ a w<=m x:=by
  intro a w x h1 h2;have hI:I a w:=⟨x,h1,h2⟩;have:=(Classical.choose_spec (hex a w hI)).2 (m x) ⟨x,h1,h2,rfl⟩;simpa [μ,hI] using this
 refine wpIn_loop I μ ⟨x0,hE a ha,h0⟩ fun a1 w1 hI=> ?_;obtain ⟨x,h1,h2,h3⟩:=hμ a1 w1 hI;refine wpIn_mono (round x w1 h2 a1 h1) fun e a2 w2 hq=> ?_
 cases e with
 | normal =>
  obtain ⟨x',q1,q2,q3⟩:=hq
  exact ⟨⟨x',q1,q2⟩,by rw [<-h3]; exact Nat.lt_of_le_of_lt (hμle a2 w2 x' q1 q2) q3⟩
 | _=>exact hq
end
end Go.PF
namespace Go.PF
open Go.RowKit
theorem ct {G:Option Bool}:aV G->aV none:=fun _=>trivial
theorem kz {c b:Bool}:aV (some (c&&b))->aV (some c):=fun h=>by simp only [aV,Bool.and_eq_true] at h ⊢; exact h.1
theorem pT {G:Option Bool} {q:Prop}:aV G->q->aV none:=fun _ _=>trivial
theorem Jw {G:Option Bool} {b:Bool}:aV G->b=false->aV (some (!b)):=fun _ h=>by rw [h]; rfl
theorem Jv {c b:Bool}:aV (some c)->b=false->aV (some (c&& !b)):=fun hc h=>by rw [h]; simpa [aV] using hc
theorem Co {G:Option Bool} {b:Bool}:aV G->b=true->aV (some b):=fun _ h=>h
theorem Cn {c b:Bool}:aV (some c)->b=true->aV (some (c&&b)):=fun hc h=>by rw [h]; simpa [aV] using hc
def Blk (w:World) (g:Nat) (t:TypeId) (cs:List Value):Prop:=w.heap[g]?=some (.cells cs.toArray t (0,0))
theorem Blk.lt {w:World} {g:Nat} {t:TypeId} {cs:List Value} (h:Blk w g t cs):g<w.heap.size:=(Array.getElem?_eq_some_iff.1 h).1
theorem Blk.cell {w:World} {g:Nat} {t:TypeId} {cs:List Value} (h:Blk w g t cs) (i:Nat):w.cell? ⟨g,i,none⟩=cs[i]?:=by
 unfold Blk at h; simp [World.cell?,h]
theorem Blk.fld {w:World} {g:Nat} {t:TypeId} {cs:List Value} (h:Blk w g t cs) {j:Nat} {v:Value} (hj:cs[j]?=some v):w.cell? (Addr.add ⟨g,0,none⟩ j)=some v:=by
 have e:Addr.add ⟨g,0,none⟩ j=⟨g,j,none⟩:=by unfold Addr.add; split<;>simp_all
 rw [e,h.cell,hj]
theorem Blk.frozen {w:World} {g:Nat} {t:TypeId} {cs:List Value} (h:Blk w g t cs) (i:Nat):w.frozen? ⟨g,i,none⟩=false:=by
 unfold Blk at h; simp [World.frozen?,h]
theorem Blk.below {w w':World} {B g:Nat} {t:TypeId} {cs:List Value} (h:Blk w g t cs) (hb:Below B w w') (hg:g<B):Blk w' g t cs:=(hb.block g hg).trans h
theorem Blk.next {w w':World} {g:Nat} {t:TypeId} {cs:List Value} (h:Blk w g t cs) (hb:Below w.heap.size w w'):Blk w' g t cs:=h.below hb h.lt
theorem Blk.new (w:World) (t:TypeId) (cs:List Value):Blk (w.alloc (.cells cs.toArray t)) w.heap.size t cs:=heap_alloc_new w _
theorem Blk.set {w:World} {g:Nat} {t:TypeId} {cs:List Value} (h:Blk w g t cs) (i:Nat) (u:Value):Blk (w.setCell ⟨g,i,none⟩ u) g t (cs.set i u):=by
 unfold Blk at h ⊢;simp [World.setCell,Array.getElem?_modify,h]
theorem Blk.far {w:World} {g:Nat} {t:TypeId} {cs:List Value} (h:Blk w g t cs) {p:Addr} (hp:g≠p.block) (u:Value):Blk (w.setCell p u) g t cs:=(Below.heap_setCell w p u g hp).trans h
structure Fresh (w w':World) (g:Nat) (t:TypeId) (cs:List Value):Prop where
 at_:g=w.heap.size
 size:w'.heap.size=g+1
 below:Below w.heap.size w w'
 blk:Blk w' g t cs
theorem ji (w:World) (t:TypeId) (cs:List Value):Fresh w (w.alloc (.cells cs.toArray t)) w.heap.size t cs :=
 ⟨rfl,by simp,(ZA).alloc ZC _,Blk.new w t cs⟩
theorem ni (w:World) (o:Obj):Below w.heap.size w (w.alloc o):=(ZA).alloc ZC o
theorem _root_.Go.RowKit.Below.step {w0 w w':World} (h:Below w0.heap.size w0 w) (h':Below w.heap.size w w'):Below w0.heap.size w0 w':=h.trans (h'.mono h.size)
section
variable {P:Program} {r:Option Nat} {Q:Exit->Act->World->Prop} {N:Nat} {ds:List Deferred} {ops rest:List Oper} {E:Env} {w:World} {G:Option Bool}
variable {d:Option Tmp} {ty:TypeId} {pos:String} {af:Array Edge} {gu:Option (Nat×Bool)}
theorem iP {o:Oper} {v:Value} (hg:gd ops E o.guard=some G) (hd:be N o.dst=true) (hn:eD o.op=true)
  (hrun:aV G-> ∀a,Fit N ds E a->(execOp a.eval o).run P w= .ok (.value v) w) (next:TW P r Q N ds ops rest (ins E o.dst G v) w):TW P r Q N ds ops (o::rest) E w:=by
 intro a ha;obtain ⟨h1,h2⟩:=jM ha hg;unfold wpListIn;by_cases hc:aV G
 ·rw [if_pos (h1 hc)];refine ⟨fun _ _=>trivial,?_⟩;rw [iH hn,hrun hc a ha];exact next _ (ha.put hd (fun _=>rfl) (fun h=>absurd hc h))
 ·rw [if_neg (by rw [h2 hc]; simp)];exact ⟨fun _ _=>trivial,next _ (ha.put hd (fun h=>absurd h hc) (fun _=>rfl))⟩
theorem iq {o:Oper} {v:Value} {w':World} (hg:o.guard=none) (hd:be N o.dst=true) (hn:eD o.op=true)
  (hrun: ∀a,Fit N ds E a->(execOp a.eval o).run P w= .ok (.value v) w') (next:TW P r Q N ds ops rest (ins E o.dst none v) w'):TW P r Q N ds ops (o::rest) E w:=by
 intro a ha;unfold wpListIn;rw [if_pos (by simp [Region.wanted,hg])];refine ⟨fun _ _=>trivial,?_⟩;rw [iH hn,hrun a ha];exact next _ (ha.put hd (fun _=>rfl) (fun h=>absurd trivial h))
theorem nV {o:Oper} {w':World} (hg:o.guard=none) (hd:o.dst=none) (hn:eD o.op=true)
  (hrun: ∀a,Fit N ds E a->(execOp a.eval o).run P w= .ok .skip w') (next:TW P r Q N ds ops rest E w'):TW P r Q N ds ops (o::rest) E w:=by
 intro a ha;unfold wpListIn;rw [if_pos (by simp [Region.wanted,hg])];refine ⟨fun _ _=>trivial,?_⟩;rw [iH hn,hrun a ha];have:=next _ ha
 simpa [Oper.uponIn,hd,Act.put] using this
def Gives (P:Program) (f:FuncId) (args:Array Value) (w:World) (R:Value->World->Prop):Prop:=Calls P f args w fun e w'=> ∃v,e= .returned v/\R v w'
theorem Gives.mono {f:FuncId} {args:Array Value} {R R':Value->World->Prop} (h:Gives P f args w R) (hr: ∀v w',R v w'->R' v w'):Gives P f args w R' :=
 Calls.mono h fun _ _ ⟨v,he,hR⟩=>⟨v,he,hr v _ hR⟩
theorem jh {f:FuncId} {args:Array Value} {w:World} {R:Ending->World->Prop} (h:Calls P f args w R):CallsIn (FR r) 0 P f args w R:=by
 have h1:CallsIn Fence.wide 0 P f args w R:=callsIn_wide.2 h
 cases r with
 | none=>exact h1
 | some l=>exact h1
theorem uC {o:Oper} {f:FuncId} {vs:Array Value} {R:Value->World->Prop} (hg:gd ops E o.guard=some G) (hd:be N o.dst=true) (hn:eD o.op=true)
  (hrun:aV G-> ∀a,Fit N ds E a->(execOp a.eval o).run P w= .ok (.enter f vs) w) (hc:aV G->Gives P f vs w R)
  (next: ∀v w',(aV G->R v w')->(¬aV G->w'=w)->TW P r Q N ds ops rest (ins E o.dst G v) w'):TW P r Q N ds ops (o::rest) E w:=by
 intro a ha;obtain ⟨h1,h2⟩:=jM ha hg;unfold wpListIn;by_cases hcG:aV G
 ·rw [if_pos (h1 hcG)];refine ⟨fun _ _=>trivial,?_⟩;rw [iH hn,hrun hcG a ha];refine ⟨fun h=>by simp [Fence.wide] at h,?_⟩;refine CallsIn.mono (jh (hc hcG)) ?_;rintro e w' ⟨v,rfl,hR⟩;exact next v w' (fun _=>hR) (fun h=>absurd hcG h) _ (ha.put hd (fun _=>rfl) (fun h=>absurd hcG h))
 ·rw [if_neg (by rw [h2 hcG]; simp)];exact ⟨fun _ _=>trivial,next undef w (fun h=>absurd h hcG) (fun _=>rfl) _ (ha.put hd (fun h=>absurd h hcG) (fun _=>rfl))⟩
theorem EA {o:Oper} {f:FuncId} {vs:Array Value} {R:Value->World->Prop} (hg:o.guard=none) (hd:be N o.dst=true) (hn:eD o.op=true)
  (hrun: ∀a,Fit N ds E a->(execOp a.eval o).run P w= .ok (.enter f vs) w) (hc:Gives P f vs w R)
  (next: ∀v w',R v w'->TW P r Q N ds ops rest (ins E o.dst none v) w'):TW P r Q N ds ops (o::rest) E w :=
 uC (G:=none) (by rw [hg]; rfl) hd hn (fun _=>hrun) (fun _=>hc) (fun v w' h _=>next v w' (h trivial))
theorem run_sizeOf {e:TypeId} {sz:Nat} (hs:(P.info? e).map (·.size)=some sz) (w:World):(sizeOf e).run P w= .ok sz w:=by
 cases hi:P.info? e with
 | none=>simp [hi] at hs
 | some i=>simp [hi] at hs; simp [sizeOf,typeInfo,hi,hs]
def one (P:Program) (t:TypeId):Bool:=match P.underlying t with
 | none|some (.struct _)|some (.array _ _)=>false
 | _=>true
theorem wG {t:TypeId} (h1:one P t=true) {ad:Addr} {v:Value} (hc:w.cell? ad=some v):(loadVar t ad).run P w= .ok v w:=by
 unfold one at h1
 cases hu:P.underlying t with
 | none=>simp [hu] at h1
 | some dsc=>cases dsc<;>first|(simp [hu] at h1; done)|simp [loadVar,isAgg,run_underlying hu,hc]
theorem lV {t:TypeId} {fs:Array Field} (hu:P.underlying t=some (.struct fs)) {cs:List Value} (hs:(P.info? t).map (·.size)=some cs.length) {ad:Addr} (hc: ∀j v,cs[j]?=some v->w.cell? (ad.add j)=some v) :
  (loadVar t ad).run P w= .ok (.agg cs.toArray) w:=by
 simp [loadVar,isAgg,run_underlying hu,run_sizeOf hs,run_loadCells_list w ad cs hc]
def zeroCells (P:Program) (t:TypeId):Option (List Value):=((P.info? t).bind (·.zero)).map fun v=>v.cells.toList
def enters (P:Program) (f:FuncId):Bool:=match P.funcs[f]? with
 | some fn=> !(fn.name== "runtime.NumGoroutine")&&fn.body.isSome
 | none=>false
theorem jX {f:FuncId} (h:enters P f=true) (args:Array Value) (w:World):(callFunc f args).run P w= .ok (.enter f args) w:=by
 unfold enters at h
 cases hf:P.funcs[f]? with
 | none=>simp [hf] at h
 | some fn =>
  simp only [hf,Bool.and_eq_true,Bool.not_eq_true'] at h;obtain ⟨h1,h2⟩:=h;have h3: ¬fn.body=none:=by cases hb:fn.body<;>simp_all
  have h4: ¬fn.name= "runtime.NumGoroutine" := by simpa using h1
  simp [callFunc,hf,h4,h3]
end
end Go.PF
namespace Go.PF
open Go.RowKit
def l9:List Value->Nat->Env
 | [],_=> []
 | v::vs,i=>(i,none,v)::l9 vs (i+1)
theorem rE: ∀(vs:List Value) (k i:Nat) (c:Option Bool) (v:Value),look (l9 vs k) i=some (c,v)->c=none/\k<=i/\vs[i-k]?=some v
 | [],k,i,c,v,h=>by simp [l9,look] at h
 | u::vs,k,i,c,v,h=>by
  simp only [l9,look] at h;by_cases hi:k=i
  ·subst hi;rw [eu] at h;simp only [Option.some.injEq,Prod.mk.injEq] at h;obtain ⟨rfl,rfl⟩:=h;simp
  ·rw [kC hi] at h;obtain ⟨h1,h2,h3⟩:=rE vs (k+1) i c v h;refine ⟨h1,by omega,?_⟩;have:i-k=(i-(k+1))+1:=by omega
   rw [this]; simpa using h3
section
variable {P:Program} {r:Option Nat} {Q:Exit->Act->World->Prop} {N:Nat} {ds:List Deferred} {E:Env} {w:World}
theorem yY {vs:List Value} (hle:vs.length<=N):Fit N [] (l9 vs 0) {tmps:=vs.toArray++Array.replicate (N-vs.toArray.size) undef,defers:= []}:=by
 refine ⟨by simp; omega,rfl,fun i c v h=> ?_⟩;obtain ⟨rfl,_,h3⟩:=rE vs 0 i c v h;refine ⟨fun _=> ?_,fun h=>absurd trivial h⟩;have hlt:i<vs.length:=by
  rcases ZI i vs.length with h|h
  ·exact h
  ·simp [List.getElem?_eq_none h] at h3
 simp only [Nat.sub_zero] at h3;rw [ZD hlt] at h3;simp only [Option.some.injEq] at h3;simp [Array.getElem?_append,hlt,h3]
theorem Hm {f:FuncId} {fn:Func} {c:Code} {vs:List Value} {R:Value->World->Prop} (E0:Env) (hf:P.funcs[f]?=some fn) (hb:fn.body=some c) (hn:fn.ntmps=N) (hle:Nat.ble vs.length N=true) (hE:l9 vs 0=E0)
  (h:CW P none (bodyPost P fn fun e w'=> ∃v,e= .returned v/\R v w') N [] c E0 w):Gives P f vs.toArray w R:=by
 unfold Gives;have hle':vs.length<=N:=Nat.le_of_ble_eq_true hle;refine (callsIn_wide (n:=0)).1 (callsIn_of_wp hf hb trivial ?_);rw [hn];exact h _ (hE ▸ yY hle')
theorem Ec {f:FuncId} {fn:Func} {c:Code} {vs:List Value} {R:Value->World->Prop} (E0:Env) (hf:P.funcs[f]?=some fn) (hb:fn.body=some c) (hn:fn.ntmps=N) (hle:Nat.ble vs.length N=true) (hE:l9 vs 0=E0)
  (h:CW P none (bodyPostM (FR none) 0 P fn fun e w'=> ∃v,e= .returned v/\R v w') N [] c E0 w):Gives P f vs.toArray w R:=by
 unfold Gives;have hle':vs.length<=N:=Nat.le_of_ble_eq_true hle;refine (callsIn_wide (n:=0)).1 (callsIn_of_wp_marks hf hb trivial ?_);rw [hn];exact h _ (hE ▸ yY hle')
theorem aD {y:Code} (h:CW P r Q N ds y E w):KW N ds (Exit.then (y.wpIn (FR r) 0 P Q) Q .normal) E w:=h
theorem II {K:Act->World->Prop} {id:Nat} (h:KW N ds (Q (.exit id)) E w):KW N ds (Exit.then K Q (.exit id)) E w:=h
theorem IJ {K:Act->World->Prop} (h:KW N ds (Q .ret) E w):KW N ds (Exit.then K Q .ret) E w:=h
theorem bP {id:Nat} (h:KW N ds (Q .normal) E w):KW N ds (Exit.inBlock id Q .normal) E w:=h
theorem EI {id:Nat} (h:KW N ds (Q .ret) E w):KW N ds (Exit.inBlock id Q .ret) E w:=h
theorem EH {id:Nat} (h:KW N ds (Q .normal) E w):KW N ds (Exit.inBlock id Q (.exit id)) E w:=fun a ha=>by
 simp only [Exit.inBlock,if_true]; exact h a ha
theorem EG {id id':Nat} (hne:Nat.beq id' id=false) (h:KW N ds (Q (.exit id')) E w):KW N ds (Exit.inBlock id Q (.exit id')) E w:=fun a ha=>by
 have:id'≠id:=fun e=>by rw [e,eu] at hne; cases hne
 simp only [Exit.inBlock,if_neg this]; exact h a ha
theorem IK {α:Type} {F:α->Env} {J:α->World->Prop} {m:α->Nat} {x:α} (x':α) (is:List Nat) (hp:PF.pick E is=some (F x')) (hJ:J x' w) (hm:m x'<m x) :
  KW N ds (Exit.then (fun a' w'=> ∃x',Fit N ds (F x') a'/\J x' w'/\m x'<m x) Q .normal) E w :=
 fun _ ha=>⟨x',ha.pick hp,hJ,hm⟩
theorem lM {α:Type} {c:Code} (F:α->Env) (J:α->World->Prop) (m:α->Nat) (x0:α) (is:List Nat) (h0:J x0 w) (hE:PF.pick E is=some (F x0))
  (round: ∀x w,J x w->CW P r (Exit.then (fun a' w'=> ∃x',Fit N ds (F x') a'/\J x' w'/\m x'<m x) Q) N ds c (F x) w):CW P r Q N ds (.loop c) E w :=
 Da F J m x0 h0 (fun _ ha=>ha.pick hE) round
theorem ai {c:Operand} {x y:Code} {p:Prop} [Decidable p] (hc:ev E c=some (none,.bool (decide p))) (ht:p->CW P r Q N ds x E w) (hf: ¬p->CW P r Q N ds y E w):CW P r Q N ds (.cond c x y) E w :=
 au hc (fun h=>ht (of_decide_eq_true h)) (fun h=>hf (of_decide_eq_false h))
variable {fn:Func} {R:Value->World->Prop}
theorem Le (hres:fn.results= #[]) (hR:R (.tuple #[]) w):KW N [] (bodyPost P fn (fun e w'=> ∃v,e= .returned v/\R v w') .ret) E w:=fun _ ha =>
 bodyPost_ret (results_none hres _ _ _) ha.defers ⟨_,rfl,hR⟩
theorem ul (hres:fn.results= #[]) (hR:R (.tuple #[]) w):KW N [] (bodyPost P fn (fun e w'=> ∃v,e= .returned v/\R v w') .normal) E w:=fun a ha =>
 (bodyPost_ret (R:=fun e w'=> ∃v,e= .returned v/\R v w') (results_none hres a.tmps P w) ha.defers ⟨_,rfl,hR⟩:bodyPost P fn _ .ret a w)
theorem Ot {s:Nat} {v:Value} (hres:fn.results= #[.tmp s]) (hs:look E s=some (none,v)) (hR:R v w):KW N [] (bodyPost P fn (fun e w'=> ∃v,e= .returned v/\R v w') .ret) E w:=fun a ha =>
 bodyPost_ret (R:=fun e w'=> ∃v,e= .returned v/\R v w') (results_tmp hres a.tmps P w) ha.defers ⟨_,rfl,by rw [(ha.slots s none v hs).1 trivial]; exact hR⟩
theorem Oq {s t:Nat} {v u:Value} (hres:fn.results= #[.tmp s,.tmp t]) (hs:look E s=some (none,v)) (ht:look E t=some (none,u)) (hR:R (.tuple #[v,u]) w) :
  KW N [] (bodyPost P fn (fun e w'=> ∃v,e= .returned v/\R v w') .ret) E w:=fun a ha =>
 bodyPost_ret (R:=fun e w'=> ∃v,e= .returned v/\R v w') (results_tmp2 hres a.tmps P w) ha.defers ⟨_,rfl,by rw [(ha.slots s none v hs).1 trivial,(ha.slots t none u ht).1 trivial]; exact hR⟩
end
end Go.PF
namespace Go.PF
open Go.RowKit
inductive Ent where
 | ex (v:Value)
 | pr (φ:Value->World->Prop)
 | own (φ:Value->World->Prop) (S:Value->Nat->Prop)
def Ent.sat:Ent->Value->World->Prop
 | .ex v,u,_=>u=v
 | .pr φ,u,w=>φ u w
 | .own φ _,u,w=>φ u w
def Ent.mono:Ent->Prop
 | .ex _=>True
 | .pr φ=> ∀v w w',Below w.heap.size w w'->φ v w->φ v w'
 | .own φ _=> ∀v w w',Below w.heap.size w w'->φ v w->φ v w'
def Ent.foot:Ent->Value->Nat->Prop
 | .own _ S,v,g=>S v g
 | _,_,_=>False
def Ent.strong (w0:World):Ent->Prop
 | .ex _=>True
 | .pr φ=> ∀v w w',Below w0.heap.size w w'->φ v w->φ v w'
 | .own φ S=>(∀v w w',Below w0.heap.size w w'->(∀g,S v g->w'.heap[g]?=w.heap[g]?)->φ v w->φ v w')/\ ∀v w,φ v w-> ∀g,S v g->w0.heap.size<=g/\g<w.heap.size
inductive Mode where
 | weak
 | own
 | cnt
theorem qp {e:Ent} (hm:e.mono) {v:Value} {w w':World} (hb:Below w.heap.size w w') (h:e.sat v w):e.sat v w':=by
 cases e with
 | ex u=>exact h
 | pr φ=>exact hm v w w' hb h
 | own φ S=>exact hm v w w' hb h
abbrev DE:=List (Nat×Option Bool×Ent)
def eH:DE->Nat->Option (Option Bool×Ent)
 | [],_=>none
 | (j,c,e)::D,i=>match Nat.beq j i with
  | true=>some (c,e)
  | false=>eH D i
def dM (D:DE) (d:Option Tmp) (c:Option Bool) (e:Ent):DE :=
 match d with
 | none=>D
 | some d=>(d,c,e)::D
def qA (c:Option Bool) (e:Ent) (u:Value) (w:World):Prop:=(aV c->e.sat u w)/\(¬aV c->u=undef)
structure FitL (N:Nat) (ds:List Deferred) (L:List Nat) (D:DE) (a:Act) (w:World):Prop where
 size:a.tmps.size=N
 defers:a.defers=ds
 slots: ∀i∈L,∀c e,eH D i=some (c,e)->qA c e (a.tmps.getD i undef) w
structure FitD (N:Nat) (ds:List Deferred) (D:DE) (a:Act) (w:World):Prop where
 size:a.tmps.size=N
 defers:a.defers=ds
 slots: ∀i c e,eH D i=some (c,e)->qA c e (a.tmps.getD i undef) w
def iY (ops:List Oper) (D:DE):Option (Nat×Bool)->Option (Option Bool)
 | none=>some none
 | some (j,want)=>match (ops[j]?).bind (·.dst) with
  | none=>none
  | some d=>match eH D d with
   | some (none,.ex (.bool b))=>match want with
    | true=>some (some b)
    | false=>some (some (!b))
   | some (some c,.ex (.bool b))=>match want with
    | true=>some (some (c&&b))
    | false=>some (some (c&& !b))
   | _=>none
def pQ (ops:List Oper) (o:Oper):Option Nat:=match o.guard with
 | some (g,_)=>(ops[g]?).bind (·.dst)
 | none=>none
theorem Bo {N:Nat} {ds:List Deferred} {L:List Nat} {D:DE} {a:Act} {w:World} {ops:List Oper} {o:Oper} {G:Option Bool} (h:FitL N ds L D a w) (hL: ∀d,pQ ops o=some d->d∈L) (hg:iY ops D o.guard=some G) :
  (aV G->Region.wanted o (yielded ops.toArray a.tmps)=true)/\(¬aV G->Region.wanted o (yielded ops.toArray a.tmps)=false):=by
 unfold pQ at hL;unfold Region.wanted
 cases hgu:o.guard with
 | none=>rw [hgu] at hg; simp [iY] at hg; subst hg; simp [aV]
 | some p =>
  obtain ⟨j,want⟩:=p;rw [hgu] at hg hL;simp only [iY] at hg
  cases hd:(ops[j]?).bind (·.dst) with
  | none=>rw [hd] at hg; simp at hg
  | some d =>
   rw [hd] at hg;have hdL:d∈L:=hL d (by simpa using hd);simp only at hg;simp only [lQ,hd,Option.bind_some]
   split at hg
   ·rename_i b hl;have h1:a.tmps.getD d undef= .bool b:=(h.slots d hdL none (.ex (.bool b)) hl).1 trivial;have h2:a.tmps[d]?=some (.bool b):=by
     rcases ZI d a.tmps.size with hlt|hge
     ·exact jl hlt h1
     ·simp [Array.getElem?_eq_none hge,undef] at h1
    rw [h2];cases want<;>simp at hg<;>subst hg<;>simp [aV,ng]
   ·rename_i c b hl;obtain ⟨h1,h1'⟩:=h.slots d hdL (some c) (.ex (.bool b)) hl
    cases c with
    | true =>
     have h1:a.tmps.getD d undef= .bool b:=h1 rfl;have h2:a.tmps[d]?=some (.bool b):=by
      rcases ZI d a.tmps.size with hlt|hge
      ·exact jl hlt h1
      ·simp [Array.getElem?_eq_none hge,undef] at h1
     rw [h2]
     cases want<;>simp at hg<;>subst hg<;>simp [aV,ng]
    | false =>
     have h1':=h1' (by simp [aV]);have h2: ∀b,a.tmps[d]?≠some (.bool b):=by
      intro b hb;simp [hb,undef] at h1'
     rw [vY h2];cases want<;>simp at hg<;>subst hg<;>simp [aV]
   ·cases hg
def Kc (P:Program) (o:Oper) (a:Act) (w:World) (e:Ent):Prop :=
 (∃v w',(execOp a.eval o).run P w= .ok (.value v) w'/\Below w.heap.size w w'/\e.sat v w') ∨
 (∃f vs,(execOp a.eval o).run P w= .ok (.enter f vs) w/\Gives P f vs w fun v w'=>Below w.heap.size w w'/\e.sat v w')
def O9 (P:Program) (N:Nat) (ds:List Deferred) (ops:List Oper) (w0:World) (o:Oper) (D:DE) (G:Option Bool) (e:Ent):Prop :=
 iY ops D o.guard=some G/\be N o.dst=true/\eD o.op=true/\e.mono /\
 (aV G-> ∀a w,Below w0.heap.size w0 w->FitL N ds (o.looksAt ops.toArray) D a w->Kc P o a w e)
def oQ:List Nat->Nat->Bool
 | [],_=>false
 | j::s,i=>match Nat.beq j i with
  | true=>true
  | false=>oQ s i
def jr:DE->List Nat->DE
 | [],_=> []
 | (j,c,e)::D,s=>match oQ s j with
  | true=>jr D s
  | false=>(j,c,e)::jr D s
def IL (D:DE) (eats:List Nat) (a:Act) (g:Nat):Prop:= ∃s c e,oQ eats s=true/\eH D s=some (c,e)/\aV c/\e.foot (a.tmps.getD s undef) g
def wy (w0 w w':World) (E:Nat->Prop):Prop:=Below w0.heap.size w w'/\ ∀b,w0.heap.size<=b->b<w.heap.size-> ¬E b->w'.heap[b]?=w.heap[b]?
def ID (P:Program) (w0:World) (o:Oper) (a:Act) (w:World) (e:Ent) (E:Nat->Prop):Prop :=
 (∃v w',(execOp a.eval o).run P w= .ok (.value v) w'/\wy w0 w w' E/\e.sat v w'/\ ∀g,e.foot v g->E g∨w.heap.size<=g) ∨
 (∃f vs,(execOp a.eval o).run P w= .ok (.enter f vs) w/\Gives P f vs w fun v w'=>wy w0 w w' E/\e.sat v w'/\ ∀g,e.foot v g->E g∨w.heap.size<=g)
def uR (ops:List Oper) (o:Oper) (eats:List Nat):Bool:=eats.all fun s=>(o.looksAt ops.toArray).contains s&&Nat.ble (ops.filter fun p=>(p.looksAt ops.toArray).contains s).length 1
def NR (P:Program) (N:Nat) (ds:List Deferred) (ops:List Oper) (w0:World) (o:Oper) (D:DE) (G:Option Bool) (e:Ent) (eats:List Nat):Prop :=
 iY ops D o.guard=some G/\be N o.dst=true/\eD o.op=true/\e.strong w0/\uR ops o eats=true/\(∀s,s∈eats-> ∃c φ S,eH D s=some (c,.own φ S)) /\
 (aV G-> ∀a w,Below w0.heap.size w0 w->FitL N ds (o.looksAt ops.toArray) D a w->ID P w0 o a w e (IL D eats a))
def IE (P:Program) (o:Oper) (a:Act) (w:World) (e:Ent):Prop :=
 (∃v w',(execOp a.eval o).run P w= .ok (.value v) w'/\(Below w.heap.size w w'/\w.drawn<=w'.drawn)/\e.sat v w') ∨
 (∃f vs,(execOp a.eval o).run P w= .ok (.enter f vs) w/\Gives P f vs w fun v w'=>(Below w.heap.size w w'/\w.drawn<=w'.drawn)/\e.sat v w')
def NS (P:Program) (N:Nat) (ds:List Deferred) (ops:List Oper) (w0:World) (o:Oper) (D:DE) (G:Option Bool) (e:Ent):Prop :=
 iY ops D o.guard=some G/\be N o.dst=true/\eD o.op=true/\e.mono /\
 (aV G-> ∀a w,Below w0.heap.size w0 w->FitL N ds (o.looksAt ops.toArray) D a w->IE P o a w e)
def DW (P:Program) (N:Nat) (ds:List Deferred) (m:Mode) (ops:List Oper) (w0:World) (Fin:DE->Prop):List Oper->DE->Prop
 | [],D=>Fin D
 | o::rest,D=>match m with
  | .weak=> ∃G e,O9 P N ds ops w0 o D G e/\DW P N ds .weak ops w0 Fin rest (dM D o.dst G e)
  | .own=> ∃G e eats,NR P N ds ops w0 o D G e eats/\DW P N ds .own ops w0 Fin rest (dM (jr D eats) o.dst G e)
  | .cnt=> ∃G e,NS P N ds ops w0 o D G e/\DW P N ds .cnt ops w0 Fin rest (dM D o.dst G e)
theorem iC: ∀D:DE,jr D []=D
 | []=>rfl
 | (j,c,e)::D=>by simp [jr,oQ,iC D]
def mq (ops:List Oper):Bool :=
 ops.zipIdx.all fun (o,i) =>
  (o.after.all fun e=> !Region.binds .any e||Nat.blt e.on i) &&
  ops.zipIdx.all fun (p,k)=>match p.dst with
   | none=>true
   | some d=>(Nat.beq k i||o.dst !=some d) &&
    (!(o.looksAt ops.toArray).contains d ||
     (if Nat.blt k i then o.after.any (fun e=>Region.binds .any e&&Nat.beq e.on k) else (Nat.beq k i||p.after.any (fun e=>Region.binds .any e&&Nat.beq e.on i))))
theorem blt_iff {a b:Nat}:Nat.blt a b=true↔a<b:=by
 unfold Nat.blt;exact ⟨fun h=>Nat.le_of_ble_eq_true h,fun h=>Nat.ble_eq_true_of_le h⟩
section sound
variable {P:Program} {r:Option Nat} {Q:Exit->Act->World->Prop} {N:Nat} {ds:List Deferred} {ops:List Oper} {w0:World}
theorem dZ (h:mq ops=true) {i k:Nat} {o p:Oper} (ho:ops[i]?=some o) (hp:ops[k]?=some p) :
  (∀e∈o.after,Region.binds .any e=true->e.on<i)/\ ∀d,p.dst=some d->(k=i∨o.dst≠some d) /\
   (d∈o.looksAt ops.toArray->(k<i-> ∃e∈o.after,Region.binds .any e=true/\e.on=k)/\(i<=k->k=i∨ ∃e∈p.after,Region.binds .any e=true/\e.on=i)):=by
 unfold mq at h;rw [List.all_eq_true] at h;have h1:=h (o,i) (by rw [List.mem_zipIdx_iff_getElem?]; simpa using ho);simp only [Bool.and_eq_true,List.all_eq_true] at h1;obtain ⟨h1,h2⟩:=h1;refine ⟨fun e he hbi=> ?_,fun d hd=> ?_⟩
 ·rw [Array.all_eq_true'] at h1;have:=h1 e he;rw [hbi] at this;exact blt_iff.1 (by simpa using this)
 ·have h3:=h2 (p,k) (by rw [List.mem_zipIdx_iff_getElem?]; simpa using hp);simp only [hd,Bool.and_eq_true,Bool.or_eq_true] at h3;obtain ⟨h3,h4⟩:=h3;refine ⟨?_,fun hm=> ?_⟩
  ·rcases h3 with h3|h3
   ·exact .inl (Nat.eq_of_beq_eq_true h3)
   ·right; simpa using h3
  ·rcases h4 with h4|h4
   ·simp at h4; exact absurd hm h4
   ·refine ⟨fun hlt=> ?_,fun hge=> ?_⟩
    ·have hb:Nat.blt k i=true:=blt_iff.2 hlt;rw [hb,if_pos rfl] at h4;rw [Array.any_eq_true'] at h4;obtain ⟨e,he,h5⟩:=h4;simp only [Bool.and_eq_true] at h5;exact ⟨e,he,h5.1,Nat.eq_of_beq_eq_true h5.2⟩
    ·have hb:Nat.blt k i=false:=by
      cases hq:Nat.blt k i with
      | false=>rfl
      | true=>exact absurd (blt_iff.1 hq) (by omega)
     rw [hb] at h4;simp only [Bool.false_eq_true,if_false,Bool.or_eq_true] at h4;rcases h4 with h4|h4
     ·exact .inl (Nat.eq_of_beq_eq_true h4)
     ·rw [Array.any_eq_true'] at h4;obtain ⟨e,he,h5⟩:=h4;simp only [Bool.and_eq_true] at h5;exact .inr ⟨e,he,h5.1,Nat.eq_of_beq_eq_true h5.2⟩
theorem yH {o:Oper} {d:Nat} (h:pQ ops o=some d):d∈o.looksAt ops.toArray:=by
 unfold pQ at h;unfold Oper.looksAt
 cases hg:o.guard with
 | none=>rw [hg] at h; cases h
 | some p =>
  obtain ⟨g,b⟩:=p;rw [hg] at h;simp only [List.mem_append];right;simp only [List.getElem?_toArray];simp at h ⊢;exact h
def lift:Env->DE
 | []=> []
 | (i,c,v)::E=>(i,c,.ex v)::lift E
theorem oV: ∀(E:Env) (i:Nat),eH (lift E) i=(look E i).map fun p=>(p.1,Ent.ex p.2)
 | [],i=>rfl
 | (j,c,v)::E,i=>by
  simp only [lift,eH,look]
  cases Nat.beq j i with
  | true=>rfl
  | false=>exact oV E i
end sound
section steps
variable {P:Program} {N:Nat} {ds:List Deferred} {ops rest:List Oper} {w:World} {D:DE} {G:Option Bool} {Fin:DE->Prop}
def dev (D:DE):Operand->Option (Option Bool×Ent)
 | .tmp t=>eH D t
 | .const v=>some (none,.ex v)
 | .global g=>some (none,.ex (.pointer (some ⟨g,0,none⟩)))
 | .func f=>some (none,.ex (.func (.func f) #[] #[]))
theorem dP {o:Oper} {t:Nat} (h:Operand.tmp t∈o.op.operands.toList):t∈o.looksAt ops.toArray:=by
 unfold Oper.looksAt;rw [List.mem_append];left;rw [List.mem_filterMap];exact ⟨.tmp t,h,rfl⟩
theorem FitL.sat {L:List Nat} {a:Act} (h:FitL N ds L D a w) {x:Operand} {c:Option Bool} {e:Ent} (hx:dev D x=some (c,e)) (hL: ∀t,x= .tmp t->t∈L) (hc:aV c):e.sat (a.eval x) w:=by
 cases x with
 | tmp t=>exact (h.slots t (hL t rfl) c e hx).1 hc
 | const u=>simp [dev] at hx; rw [<-hx.2]; rfl
 | global g=>simp [dev] at hx; rw [<-hx.2]; rfl
 | func f=>simp [dev] at hx; rw [<-hx.2]; rfl
theorem FitL.evalL {L:List Nat} {a:Act} (h:FitL N ds L D a w) {x:Operand} {c:Option Bool} {v:Value} (hx:dev D x=some (c,.ex v)) (hL: ∀t,x= .tmp t->t∈L) (hc:aV c):a.eval x=v:=h.sat hx hL hc
theorem FitL.eval {o:Oper} {a:Act} (h:FitL N ds (o.looksAt ops.toArray) D a w) {x:Operand} {c:Option Bool} {v:Value} (hx:dev D x=some (c,.ex v)) (hm:x∈o.op.operands.toList) (hc:aV c):a.eval x=v :=
 h.evalL hx (fun _ ht=>dP (ht ▸ hm)) hc
theorem FitL.evalP {o:Oper} {a:Act} (h:FitL N ds (o.looksAt ops.toArray) D a w) {x:Operand} {c:Option Bool} {φ:Value->World->Prop} (hx:dev D x=some (c,.pr φ)) (hm:x∈o.op.operands.toList) (hc:aV c):φ (a.eval x) w :=
 h.sat hx (fun _ ht=>dP (ht ▸ hm)) hc
theorem dD {m:Mode} (h:Fin D):DW P N ds m ops w Fin [] D:=by cases m<;>exact h
theorem mi {m:Mode} {o:Oper} {v:Value} (hg:iY ops D o.guard=some G) (hd:be N o.dst=true) (hn:eD o.op=true)
  (hrun:aV G-> ∀a w',Below w.heap.size w w'->FitL N ds (o.looksAt ops.toArray) D a w'->(execOp a.eval o).run P w'= .ok (.value v) w') (next:DW P N ds m ops w Fin rest (dM D o.dst G (.ex v))):DW P N ds m ops w Fin (o::rest) D:=by
 cases m with
 | weak=>exact ⟨G,.ex v,⟨hg,hd,hn,trivial,fun hG a w' hb ha=> .inl ⟨v,w',hrun hG a w' hb ha,ZA,rfl⟩⟩,next⟩
 | own=>exact ⟨G,.ex v,[],⟨hg,hd,hn,trivial,rfl,fun s hs=>by simp at hs,fun hG a w' hb ha=> .inl ⟨v,w',hrun hG a w' hb ha,⟨ZA,fun _ _ _ _=>rfl⟩,rfl,fun _ h=>h.elim⟩⟩,by rw [iC]; exact next⟩
 | cnt=>exact ⟨G,.ex v,⟨hg,hd,hn,trivial,fun hG a w' hb ha=> .inl ⟨v,w',hrun hG a w' hb ha,⟨ZA,ZC⟩,rfl⟩⟩,next⟩
theorem qU {o:Oper} {e:Ent} (hg:iY ops D o.guard=some G) (hd:be N o.dst=true) (hn:eD o.op=true) (hm:e.mono)
  (hrun:aV G-> ∀a w',Below w.heap.size w w'->FitL N ds (o.looksAt ops.toArray) D a w'-> ∃v w'',(execOp a.eval o).run P w'= .ok (.value v) w''/\Below w'.heap.size w' w''/\e.sat v w'') (next:DW P N ds .weak ops w Fin rest (dM D o.dst G e)):DW P N ds .weak ops w Fin (o::rest) D :=
 ⟨G,e,⟨hg,hd,hn,hm,fun hG a w' hb ha=> .inl (hrun hG a w' hb ha)⟩,next⟩
theorem uM {o:Oper} {e:Ent} (hg:iY ops D o.guard=some G) (hd:be N o.dst=true) (hn:eD o.op=true) (hm:e.mono)
  (hrun:aV G-> ∀a w',Below w.heap.size w w'->FitL N ds (o.looksAt ops.toArray) D a w'-> ∃f vs,(execOp a.eval o).run P w'= .ok (.enter f vs) w'/\Gives P f vs w' fun v w''=>Below w'.heap.size w' w''/\e.sat v w'') (next:DW P N ds .weak ops w Fin rest (dM D o.dst G e)):DW P N ds .weak ops w Fin (o::rest) D :=
 ⟨G,e,⟨hg,hd,hn,hm,fun hG a w' hb ha=> .inr (hrun hG a w' hb ha)⟩,next⟩
def oG (D:DE):List Nat->Option Env
 | []=>some []
 | i::is=>match eH D i with
  | some (c,.ex v)=>match oG D is with
   | some E=>some ((i,c,v)::E)
   | none=>none
  | _=>none
theorem tO {D:DE}: ∀ {is:List Nat} {E:Env},oG D is=some E-> ∀i c v,look E i=some (c,v)->eH D i=some (c,.ex v)
 | [],E,h,i,c,v,hl=>by simp [oG] at h; subst h; simp [look] at hl
 | j::is,E,h,i,c,v,hl=>by
  simp only [oG] at h
  split at h
  ·rename_i c' v' hj
   split at h
   ·rename_i E' hE;simp only [Option.some.injEq] at h;subst h;simp only [look] at hl;by_cases hi:j=i
    ·subst hi;rw [eu] at hl;simp only [Option.some.injEq,Prod.mk.injEq] at hl;obtain ⟨rfl,rfl⟩:=hl;exact hj
    ·rw [kC hi] at hl;exact tO hE i c v hl
   ·cases h
  ·cases h
theorem FitD.pick {E:Env} {is:List Nat} {a:Act} (h:FitD N ds D a w) (hp:oG D is=some E):Fit N ds E a :=
 ⟨h.size,h.defers,fun i c v hl=>h.slots i c (.ex v) (tO hp i c v hl)⟩
theorem iv {K:Act->World->Prop} (is:List Nat) (E:Env) (hp:oG D is=some E) (h: ∀w',Below w.heap.size w w'->KW N ds K E w'): ∀a w',Below w.heap.size w w'->FitD N ds D a w'->K a w' :=
 fun a w' hb ha=>h w' hb a (ha.pick hp)
end steps
end Go.PF
namespace Go.PF
open Go.RowKit
theorem dO {z:Int} (h: -9223372036854775808<=z/\z<=9223372036854775807):IntKind.i64.wrap z=z:=by
 rw [IntKind.wrap_i64]; omega
theorem Ab (w:World) (zs cs:Array Value) (t:TypeId):(w.alloc (.cells zs t)).setRow w.heap.size cs=w.alloc (.cells cs t):=by
 have h3:((w.alloc (.cells zs t)).setRow w.heap.size cs).heap=w.heap.push (.cells cs t):=by
  unfold World.setRow;have e:(w.alloc (.cells zs t)).heap=w.heap.push (.cells zs t):=rfl;simp only [e];apply Array.ext
  ·simp
  ·intro i h1 h2;simp only [Array.getElem_modify];by_cases hi:w.heap.size=i
   ·subst hi; simp
   ·have:i<w.heap.size:=by simp at h1; omega
    simp [hi,Array.getElem_push_lt this]
 have h4:(w.alloc (.cells zs t)).setRow w.heap.size cs= {w with heap:=((w.alloc (.cells zs t)).setRow w.heap.size cs).heap}:=rfl;rw [h4,h3];rfl
section
variable {P:Program} {r:Option Nat} {Q:Exit->Act->World->Prop} {N:Nat} {ds:List Deferred} {ops rest:List Oper} {E:Env} {D:DE} {w:World} {G:Option Bool} {Fin:DE->Prop} {md:Mode}
variable {d:Option Tmp} {ty:TypeId} {pos:String} {af:Array Edge} {gu:Option (Nat×Bool)}
variable {x y z:Operand} {cx cy cz:Option Bool} {ρ:Operand->Value}
def ky (P:Program) (t:TypeId) (fi:Nat):Option Nat:=match P.underlying t with
 | some (.struct fs)=>match fs[fi]? with
  | some f=>match (P.info? f.type).map (·.size) with
   | some (_+1)=>some f.offset
   | _=>none
  | none=>none
 | _=>none
theorem ry {t:TypeId} {fi off:Nat} {ad:Addr} (hf:ky P t fi=some off):(do let v<-Instr.fieldAt t (.pointer (some ad)) fi; pure (Next.value v):Sem Next).run P w= .ok (.value (.pointer (some (ad.add off)))) w:=by
 unfold ky at hf
 split at hf
 ·rename_i fs hu
  split at hf
  ·rename_i f hfi
   split at hf
   ·rename_i sz hs;simp only [Option.some.injEq] at hf;subst hf;simp [Instr.fieldAt,run_underlying hu,hfi,Instr.sureAddr,fieldPlace,run_sizeOf hs]
   ·cases hf
  ·cases hf
 ·cases hf
def sH (P:Program) (t:TypeId) (fi:Nat) (cs:Array Value):Option Value:=match P.underlying t with
 | some (.struct fs)=>match fs[fi]? with
  | some f=>match one P f.type with
   | true=>cs[f.offset]?
   | false=>none
  | none=>none
 | _=>none
theorem uY {t:TypeId} {fi:Nat} {cs:Array Value} {v:Value} (hf:sH P t fi cs=some v):(do let v<-Instr.field t (.agg cs) fi; pure (Next.value v):Sem Next).run P w= .ok (.value v) w:=by
 unfold sH at hf
 split at hf
 ·rename_i fs hu
  split at hf
  ·rename_i f hfi
   split at hf
   ·rename_i h1;have h2:(isAgg f.type).run P w= .ok false w:=by
     unfold one at h1
     cases hu':P.underlying f.type with
     | none=>simp [hu'] at h1
     | some dsc=>cases dsc<;>first|(simp [hu'] at h1; done)|simp [isAgg,run_underlying hu']
    simp [Instr.field,run_underlying hu,hfi,asAgg,part,h2,hf]
   ·cases hf
  ·cases hf
 ·cases hf
class One (P:Program) (t:TypeId):Prop where
 q:one P t=true
class Und (P:Program) (t:TypeId) (u:outParam TypeDesc):Prop where
 q:P.underlying t=some u
class Sz (P:Program) (t:TypeId) (n:outParam Nat):Prop where
 q:(P.info? t).map (·.size)=some n
class FO (P:Program) (t i:Nat) (n:outParam Nat):Prop where
 q:ky P t i=some n
theorem tN {α β:Type} {f:α->β} {x:α} {a:β} (h: [x].map f= [a]):f x=a:=by simpa using h
theorem jc {α β:Type} {f:α->β} {x y:α} {a b:β} (h: [x,y].map f= [a,b]):f x=a/\f y=b:=by simpa using h
theorem OJ {α β:Type} {f:α->β} {x y z:α} {a b c:β} (h: [x,y,z].map f= [a,b,c]):f x=a/\f y=b/\f z=c:=by simpa using h
structure Val (P:Program) (o:Oper) (xs:List Operand) (vs:List Value) (C:Prop) (v:Value):Prop where
 nd:eD o.op=true
 mem: ∀x∈xs,x∈o.op.operands.toList
 run:C-> ∀(ρ:Operand->Value) (w:World),xs.map ρ=vs->(execOp ρ o).run P w= .ok (.value v) w
def Nv (E:Env):List Operand->Option (List (Option Bool)×List Value)
 | []=>some ([],[])
 | x::xs=>match ev E x with
  | some (c,v)=>match Nv E xs with
   | some (cs,vs)=>some (c::cs,v::vs)
   | none=>none
  | none=>none
def Ia (D:DE):List Operand->Option (List (Option Bool)×List Value)
 | []=>some ([],[])
 | x::xs=>match dev D x with
  | some (c,.ex v)=>match Ia D xs with
   | some (cs,vs)=>some (c::cs,v::vs)
   | none=>none
  | _=>none
def IX (G:Option Bool):List (Option Bool)->Prop
 | []=>True
 | c::cs=>(aV G->aV c)/\IX G cs
theorem CG {a:Act} (ha:Fit N ds E a) (hG:aV G): ∀ {xs:List Operand} {cs:List (Option Bool)} {vs:List Value},Nv E xs=some (cs,vs)->IX G cs->xs.map a.eval=vs
 | [],cs,vs,h,_=>by simp [Nv] at h; rw [h.2]; rfl
 | x::xs,cs,vs,h,hc=>by
  simp only [Nv] at h
  split at h
  ·rename_i c v hv
   split at h
   ·rename_i cs' vs' hr;simp only [Option.some.injEq,Prod.mk.injEq] at h;obtain ⟨rfl,rfl⟩:=h;rw [List.map_cons,ha.eval hv (hc.1 hG),CG ha hG hr hc.2]
   ·cases h
  ·cases h
theorem zi {L:List Nat} {a:Act} {w:World} (ha:FitL N ds L D a w) (hG:aV G): ∀ {xs:List Operand} {cs:List (Option Bool)} {vs:List Value},(∀t,Operand.tmp t∈xs->t∈L)->Ia D xs=some (cs,vs)->IX G cs->xs.map a.eval=vs
 | [],cs,vs,_,h,_=>by simp [Ia] at h; rw [h.2]; rfl
 | x::xs,cs,vs,hL,h,hc=>by
  simp only [Ia] at h
  split at h
  ·rename_i c v hv
   split at h
   ·rename_i cs' vs' hr;simp only [Option.some.injEq,Prod.mk.injEq] at h;obtain ⟨rfl,rfl⟩:=h;rw [List.map_cons,ha.evalL hv (fun t ht=>hL t (by simp [ht])) (hc.1 hG),zi ha hG (fun t ht=>hL t (by simp [ht])) hr hc.2]
   ·cases h
  ·cases h
theorem aT {op:Op} {xs:List Operand} {vs:List Value} {C:Prop} {v:Value} {cs:List (Option Bool)} (hv:Val P ⟨d,op,ty,pos,af,gu⟩ xs vs C v) (h:(gd ops E gu,be N d,Nv E xs)=(some G,true,some (cs,vs))) (hi:IX G cs) (hC:aV G->C)
  (next:TW P r Q N ds ops rest (ins E d G v) w):TW P r Q N ds ops (⟨d,op,ty,pos,af,gu⟩::rest) E w:=by
 simp only [Prod.mk.injEq] at h;exact iP h.1 h.2.1 hv.nd (fun hG a ha=>hv.run (hC hG) a.eval w (CG ha hG h.2.2 hi)) next
theorem bL {op:Op} {xs:List Operand} {vs:List Value} {C:Prop} {v:Value} {cs:List (Option Bool)} (hv:Val P ⟨d,op,ty,pos,af,gu⟩ xs vs C v) (h:(iY ops D gu,be N d,Ia D xs)=(some G,true,some (cs,vs))) (hi:IX G cs) (hC:aV G->C)
  (next:DW P N ds md ops w Fin rest (dM D d G (.ex v))):DW P N ds md ops w Fin (⟨d,op,ty,pos,af,gu⟩::rest) D:=by
 simp only [Prod.mk.injEq] at h;exact mi h.1 h.2.1 hv.nd (fun hG a w' _ ha=>hv.run (hC hG) a.eval w' (zi ha hG (fun t ht=>dP (o:=⟨d,op,ty,pos,af,gu⟩) (hv.mem _ ht)) h.2.2 hi)) next
theorem Po {k:IntKind} {m n:Int} {t t':TypeId}  (hx:ρ x= .int k m) (hy:ρ y= .int k n):(execOp ρ ⟨d,.binOp .lss t x y t',ty,pos,af,gu⟩).run P w= .ok (.value (.bool (decide (m<n)))) w:=by simp only [execOp]; rw [hx,hy,eqGuard_lss,binOp_lss]; rfl
theorem KM {k:IntKind} {m n:Int} {t t':TypeId}:Val P ⟨d,.binOp .lss t x y t',ty,pos,af,gu⟩ [x,y] [.int k m,.int k n] (True) (.bool (decide (m<n))) :=
 ⟨rfl,by simp [Op.operands,Call.operands],fun _ ρ w h=>by
  obtain ⟨hx,hy⟩:=jc h;simp only [execOp]; rw [hx,hy,eqGuard_lss,binOp_lss]; rfl⟩
theorem Pq {k:IntKind} {m n:Int} {t t':TypeId}  (hx:ρ x= .int k m) (hy:ρ y= .int k n):(execOp ρ ⟨d,.binOp .leq t x y t',ty,pos,af,gu⟩).run P w= .ok (.value (.bool (decide (m<=n)))) w:=by simp only [execOp]; rw [hx,hy,eqGuard_leq,binOp_leq]; rfl
theorem KN {k:IntKind} {m n:Int} {t t':TypeId}:Val P ⟨d,.binOp .leq t x y t',ty,pos,af,gu⟩ [x,y] [.int k m,.int k n] (True) (.bool (decide (m<=n))) :=
 ⟨rfl,by simp [Op.operands,Call.operands],fun _ ρ w h=>by
  obtain ⟨hx,hy⟩:=jc h;simp only [execOp]; rw [hx,hy,eqGuard_leq,binOp_leq]; rfl⟩
theorem Ps {k:IntKind} {m n:Int} {t t':TypeId}  (hx:ρ x= .int k m) (hy:ρ y= .int k n):(execOp ρ ⟨d,.binOp .gtr t x y t',ty,pos,af,gu⟩).run P w= .ok (.value (.bool (decide (n<m)))) w:=by simp only [execOp]; rw [hx,hy,eqGuard_gtr,binOp_gtr]; rfl
theorem KO {k:IntKind} {m n:Int} {t t':TypeId}:Val P ⟨d,.binOp .gtr t x y t',ty,pos,af,gu⟩ [x,y] [.int k m,.int k n] (True) (.bool (decide (n<m))) :=
 ⟨rfl,by simp [Op.operands,Call.operands],fun _ ρ w h=>by
  obtain ⟨hx,hy⟩:=jc h;simp only [execOp]; rw [hx,hy,eqGuard_gtr,binOp_gtr]; rfl⟩
theorem Pt {k:IntKind} {m n:Int} {t t':TypeId}  (hx:ρ x= .int k m) (hy:ρ y= .int k n):(execOp ρ ⟨d,.binOp .geq t x y t',ty,pos,af,gu⟩).run P w= .ok (.value (.bool (decide (n<=m)))) w:=by simp only [execOp]; rw [hx,hy,eqGuard_geq,binOp_geq]; rfl
theorem KP {k:IntKind} {m n:Int} {t t':TypeId}:Val P ⟨d,.binOp .geq t x y t',ty,pos,af,gu⟩ [x,y] [.int k m,.int k n] (True) (.bool (decide (n<=m))) :=
 ⟨rfl,by simp [Op.operands,Call.operands],fun _ ρ w h=>by
  obtain ⟨hx,hy⟩:=jc h;simp only [execOp]; rw [hx,hy,eqGuard_geq,binOp_geq]; rfl⟩
theorem Pv {k:IntKind} {m n:Int} {t t':TypeId}  (hx:ρ x= .int k m) (hy:ρ y= .int k n):(execOp ρ ⟨d,.binOp .eql t x y t',ty,pos,af,gu⟩).run P w= .ok (.value (.bool (decide (m=n)))) w:=by simp only [execOp]; rw [hx,hy,eqGuard_at_int,binOp_eql]; rfl
theorem uz {k:IntKind} {m n:Int} {t t':TypeId}:Val P ⟨d,.binOp .eql t x y t',ty,pos,af,gu⟩ [x,y] [.int k m,.int k n] (True) (.bool (decide (m=n))) :=
 ⟨rfl,by simp [Op.operands,Call.operands],fun _ ρ w h=>by
  obtain ⟨hx,hy⟩:=jc h;simp only [execOp]; rw [hx,hy,eqGuard_at_int,binOp_eql]; rfl⟩
theorem Pm {k:IntKind} {m n:Int} {t t':TypeId}  (hx:ρ x= .int k m) (hy:ρ y= .int k n):(execOp ρ ⟨d,.binOp .neq t x y t',ty,pos,af,gu⟩).run P w= .ok (.value (.bool (decide (m≠n)))) w:=by 
  simp only [execOp]; rw [hx,hy,eqGuard_at_int,binOp_neq]
  have e:(m !=n)=decide (m≠n):=by by_cases h:m=n<;>simp [h]
  rw [e]; rfl
theorem zH {k:IntKind} {m n:Int} {t t':TypeId}:Val P ⟨d,.binOp .neq t x y t',ty,pos,af,gu⟩ [x,y] [.int k m,.int k n] (True) (.bool (decide (m≠n))) :=
 ⟨rfl,by simp [Op.operands,Call.operands],fun _ ρ w h=>by
  obtain ⟨hx,hy⟩:=jc h;simp only [execOp]; rw [hx,hy,eqGuard_at_int,binOp_neq];have e:(m !=n)=decide (m≠n):=by by_cases h:m=n<;>simp [h]
  rw [e]; rfl⟩
theorem wm {m n:Int} {t t':TypeId}  (hx:ρ x= .int .i64 m) (hy:ρ y= .int .i64 n) (hb: -9223372036854775808<=m+n/\m+n<=9223372036854775807):(execOp ρ ⟨d,.binOp .add t x y t',ty,pos,af,gu⟩).run P w= .ok (.value (.int .i64 (m+n))) w:=by 
  simp only [execOp]; rw [hx,hy,eqGuard_add,binOp_add]
  show Result.ok (Next.value (Value.int .i64 (IntKind.i64.wrap (m+n)))) w=_
  rw [dO hb]
theorem nD {m n:Int} {t t':TypeId}:Val P ⟨d,.binOp .add t x y t',ty,pos,af,gu⟩ [x,y] [.int .i64 m,.int .i64 n] (-9223372036854775808<=m+n/\m+n<=9223372036854775807) (.int .i64 (m+n)) :=
 ⟨rfl,by simp [Op.operands,Call.operands],fun hb ρ w h=>by
  obtain ⟨hx,hy⟩:=jc h;simp only [execOp]; rw [hx,hy,eqGuard_add,binOp_add];show Result.ok (Next.value (Value.int .i64 (IntKind.i64.wrap (m+n)))) w=_;rw [dO hb]⟩
theorem Io {m n:Int} {t t':TypeId}  (hx:ρ x= .int .i64 m) (hy:ρ y= .int .i64 n) (hb: -9223372036854775808<=m-n/\m-n<=9223372036854775807):(execOp ρ ⟨d,.binOp .sub t x y t',ty,pos,af,gu⟩).run P w= .ok (.value (.int .i64 (m-n))) w:=by 
  simp only [execOp]; rw [hx,hy,eqGuard_sub,binOp_sub]
  show Result.ok (Next.value (Value.int .i64 (IntKind.i64.wrap (m-n)))) w=_
  rw [dO hb]
theorem CV {m n:Int} {t t':TypeId}:Val P ⟨d,.binOp .sub t x y t',ty,pos,af,gu⟩ [x,y] [.int .i64 m,.int .i64 n] (-9223372036854775808<=m-n/\m-n<=9223372036854775807) (.int .i64 (m-n)) :=
 ⟨rfl,by simp [Op.operands,Call.operands],fun hb ρ w h=>by
  obtain ⟨hx,hy⟩:=jc h;simp only [execOp]; rw [hx,hy,eqGuard_sub,binOp_sub];show Result.ok (Next.value (Value.int .i64 (IntKind.i64.wrap (m-n)))) w=_;rw [dO hb]⟩
theorem Pn {m n:Int} {t t':TypeId}  (hx:ρ x= .int .i64 m) (hy:ρ y= .int .i64 n) (hb: -9223372036854775808<=m*n/\m*n<=9223372036854775807):(execOp ρ ⟨d,.binOp .mul t x y t',ty,pos,af,gu⟩).run P w= .ok (.value (.int .i64 (m*n))) w:=by 
  simp only [execOp]; rw [hx,hy,eqGuard_mul,binOp_mul]
  show Result.ok (Next.value (Value.int .i64 (IntKind.i64.wrap (m*n)))) w=_
  rw [dO hb]
theorem KL {m n:Int} {t t':TypeId}:Val P ⟨d,.binOp .mul t x y t',ty,pos,af,gu⟩ [x,y] [.int .i64 m,.int .i64 n] (-9223372036854775808<=m*n/\m*n<=9223372036854775807) (.int .i64 (m*n)) :=
 ⟨rfl,by simp [Op.operands,Call.operands],fun hb ρ w h=>by
  obtain ⟨hx,hy⟩:=jc h;simp only [execOp]; rw [hx,hy,eqGuard_mul,binOp_mul];show Result.ok (Next.value (Value.int .i64 (IntKind.i64.wrap (m*n)))) w=_;rw [dO hb]⟩
theorem Pi {m n:Int} {t t':TypeId}  (hx:ρ x= .int .i64 m) (hy:ρ y= .int .i64 n) (hb:0<=m/\1<=n/\n<=9223372036854775807):(execOp ρ ⟨d,.binOp .rem t x y t',ty,pos,af,gu⟩).run P w= .ok (.value (.int .i64 (m%n))) w:=by 
  simp only [execOp]; rw [hx,hy,eqGuard_rem,binOp_rem]
  have e:m.tmod n=m%n:=Int.tmod_eq_emod_of_nonneg hb.1
  have h0:n≠0:=by omega
  have h1:=Int.emod_nonneg m h0
  have h2:=Int.emod_lt_of_pos m (show 0<n by omega)
  have h3:=hb.2.2
  simp [Op.intDiv,h0,e,dO (z:=m%n) (by omega)]
theorem zF {m n:Int} {t t':TypeId}:Val P ⟨d,.binOp .rem t x y t',ty,pos,af,gu⟩ [x,y] [.int .i64 m,.int .i64 n] (0<=m/\1<=n/\n<=9223372036854775807) (.int .i64 (m%n)) :=
 ⟨rfl,by simp [Op.operands,Call.operands],fun hb ρ w h=>by
  obtain ⟨hx,hy⟩:=jc h;simp only [execOp]; rw [hx,hy,eqGuard_rem,binOp_rem];have e:m.tmod n=m%n:=Int.tmod_eq_emod_of_nonneg hb.1;have h0:n≠0:=by omega
  have h1:=Int.emod_nonneg m h0;have h2:=Int.emod_lt_of_pos m (show 0<n by omega);have h3:=hb.2.2;simp [Op.intDiv,h0,e,dO (z:=m%n) (by omega)]⟩
theorem Pj {m n:Int} {t t':TypeId}  (hx:ρ x= .int .i64 m) (hy:ρ y= .int .i64 n) (hb:0<=m/\1<=n/\m<=9223372036854775807):(execOp ρ ⟨d,.binOp .quo t x y t',ty,pos,af,gu⟩).run P w= .ok (.value (.int .i64 (m / n))) w:=by 
  simp only [execOp]; rw [hx,hy,eqGuard_quo,binOp_quo]
  have e:m.tdiv n=m / n:=Int.tdiv_eq_ediv_of_nonneg hb.1
  have h0:n≠0:=by omega
  have h1:=Int.ediv_nonneg hb.1 (show 0<=n by omega)
  have h2:=Int.ediv_le_self n hb.1
  have h3:=hb.2.2
  simp [Op.intDiv,h0,e,dO (z:=m / n) (by omega)]
theorem zG {m n:Int} {t t':TypeId}:Val P ⟨d,.binOp .quo t x y t',ty,pos,af,gu⟩ [x,y] [.int .i64 m,.int .i64 n] (0<=m/\1<=n/\m<=9223372036854775807) (.int .i64 (m / n)) :=
 ⟨rfl,by simp [Op.operands,Call.operands],fun hb ρ w h=>by
  obtain ⟨hx,hy⟩:=jc h;simp only [execOp]; rw [hx,hy,eqGuard_quo,binOp_quo];have e:m.tdiv n=m / n:=Int.tdiv_eq_ediv_of_nonneg hb.1;have h0:n≠0:=by omega
  have h1:=Int.ediv_nonneg hb.1 (show 0<=n by omega);have h2:=Int.ediv_le_self n hb.1;have h3:=hb.2.2;simp [Op.intDiv,h0,e,dO (z:=m / n) (by omega)]⟩
theorem Pk {b:Bool} {t:TypeId}  (hx:ρ x= .bool b):(execOp ρ ⟨d,.unOp .not t x,ty,pos,af,gu⟩).run P w= .ok (.value (.bool (!b))) w:=by simp only [execOp]; rw [hx]; rfl
theorem wo {b:Bool} {t:TypeId}:Val P ⟨d,.unOp .not t x,ty,pos,af,gu⟩ [x] [.bool b] (True) (.bool (!b)) :=
 ⟨rfl,by simp [Op.operands,Call.operands],fun _ ρ w h=>by
  have hx:=tN h;simp only [execOp]; rw [hx]; rfl⟩
theorem O3 {b b':Bool} {t t':TypeId} (ht:P.underlying t=some .bool) (hx:ρ x= .bool b) (hy:ρ y= .bool b'):(execOp ρ ⟨d,.binOp .eql t x y t',ty,pos,af,gu⟩).run P w= .ok (.value (.bool (b==b'))) w:=by simp only [execOp]; rw [hx,hy,eqGuard_at_bool]; simp [run_eql_bool w t b b' ht]
theorem Iz {b b':Bool} {t t':TypeId} [Und P t .bool]:Val P ⟨d,.binOp .eql t x y t',ty,pos,af,gu⟩ [x,y] [.bool b,.bool b'] (True) (.bool (b==b')) :=
 ⟨rfl,by simp [Op.operands,Call.operands],fun _ ρ w h=>by
  obtain ⟨hx,hy⟩:=jc h;have ht:P.underlying t=some .bool:=Und.q;simp only [execOp]; rw [hx,hy,eqGuard_at_bool]; simp [run_eql_bool w t b b' ht]⟩
theorem O1 {s s':ByteArray} {t t':TypeId}  (hx:ρ x= .string s) (hy:ρ y= .string s'):(execOp ρ ⟨d,.binOp .eql t x y t',ty,pos,af,gu⟩).run P w= .ok (.value (.bool (s.toList==s'.toList))) w:=by simp only [execOp]; rw [hx,hy,eqGuard_at_string,binOp_string_eql]; rfl
theorem Iy {s s':ByteArray} {t t':TypeId}:Val P ⟨d,.binOp .eql t x y t',ty,pos,af,gu⟩ [x,y] [.string s,.string s'] (True) (.bool (s.toList==s'.toList)) :=
 ⟨rfl,by simp [Op.operands,Call.operands],fun _ ρ w h=>by
  obtain ⟨hx,hy⟩:=jc h;simp only [execOp]; rw [hx,hy,eqGuard_at_string,binOp_string_eql]; rfl⟩
theorem OY {s s':ByteArray} {t t':TypeId}  (hx:ρ x= .string s) (hy:ρ y= .string s'):(execOp ρ ⟨d,.binOp .neq t x y t',ty,pos,af,gu⟩).run P w= .ok (.value (.bool (!(s.toList==s'.toList)))) w:=by simp only [execOp]; rw [hx,hy,eqGuard_at_string,binOp_string_neq]; rfl
theorem Iw {s s':ByteArray} {t t':TypeId}:Val P ⟨d,.binOp .neq t x y t',ty,pos,af,gu⟩ [x,y] [.string s,.string s'] (True) (.bool (!(s.toList==s'.toList))) :=
 ⟨rfl,by simp [Op.operands,Call.operands],fun _ ρ w h=>by
  obtain ⟨hx,hy⟩:=jc h;simp only [execOp]; rw [hx,hy,eqGuard_at_string,binOp_string_neq]; rfl⟩
theorem O4 {k k':IntKind} {m:Int} {t t':TypeId} (hs:(P.underlying t).isSome=true) (hd':P.underlying t'=some (.int k')) (hx:ρ x= .int k m):(execOp ρ ⟨d,.convert t t' x,ty,pos,af,gu⟩).run P w= .ok (.value (.int k' (k'.wrap m))) w:=by 
  have hk:P.intKind t'=k':=by simp [Program.intKind,hd']
  have h:=run_convert_int (P:=P) w t t' k m hs (by rw [hk]; exact hd')
  rw [hk] at h
  simp only [execOp]; rw [hx]; simp [h]
theorem BL {k k':IntKind} {m:Int} {t t':TypeId} [Und P t' (.int k')] (hs:(P.underlying t).isSome=true):Val P ⟨d,.convert t t' x,ty,pos,af,gu⟩ [x] [.int k m] (True) (.int k' (k'.wrap m)) :=
 ⟨rfl,by simp [Op.operands,Call.operands],fun _ ρ w h=>by
  have hx:=tN h;have hd':P.underlying t'=some (.int k'):=Und.q;have hk:P.intKind t'=k':=by simp [Program.intKind,hd']
  have h:=run_convert_int (P:=P) w t t' k m hs (by rw [hk]; exact hd');rw [hk] at h;simp only [execOp]; rw [hx]; simp [h]⟩
theorem Mw {A:Option Addr} {l c:Nat} {t e:TypeId} (ht:P.underlying t=some (.slice e)) (hx:ρ x= .slice A l c):(execOp ρ ⟨d,.call ⟨.builtin .len,#[x],#[t]⟩,ty,pos,af,gu⟩).run P w= .ok (.value (.int .i64 (l:Int))) w:=by simp [execOp,resolve,invoke,builtin,hx,Builtin.len_,run_underlying ht,goInt]
theorem gI {A:Option Addr} {l c:Nat} {t e:TypeId} [Und P t (.slice e)]:Val P ⟨d,.call ⟨.builtin .len,#[x],#[t]⟩,ty,pos,af,gu⟩ [x] [.slice A l c] (True) (.int .i64 (l:Int)) :=
 ⟨rfl,by simp [Op.operands,Call.operands],fun _ ρ w h=>by
  have hx:=tN h;have ht:P.underlying t=some (.slice e):=Und.q;simp [execOp,resolve,invoke,builtin,hx,Builtin.len_,run_underlying ht,goInt]⟩
theorem KJ {s:ByteArray} {t:TypeId} (ht:P.underlying t=some .string) (hx:ρ x= .string s):(execOp ρ ⟨d,.call ⟨.builtin .len,#[x],#[t]⟩,ty,pos,af,gu⟩).run P w= .ok (.value (.int .i64 (s.size:Int))) w:=by simp [execOp,resolve,invoke,builtin,hx,Builtin.len_,run_underlying ht,goInt]
theorem rR {s:ByteArray} {t:TypeId} [Und P t .string]:Val P ⟨d,.call ⟨.builtin .len,#[x],#[t]⟩,ty,pos,af,gu⟩ [x] [.string s] (True) (.int .i64 (s.size:Int)) :=
 ⟨rfl,by simp [Op.operands,Call.operands],fun _ ρ w h=>by
  have hx:=tN h;have ht:P.underlying t=some .string:=Und.q;simp [execOp,resolve,invoke,builtin,hx,Builtin.len_,run_underlying ht,goInt]⟩
theorem nz {ad:Addr} {l c sz:Nat} {t e:TypeId} {k:IntKind} {i:Int} (ht:P.underlying t=some (.slice e)) (hs:(P.info? e).map (·.size)=some sz) (hx:ρ x= .slice (some ad) l c) (hy:ρ y= .int k i) (hi:0<=i/\i<(l:Int)):(execOp ρ ⟨d,.indexAddr t x y,ty,pos,af,gu⟩).run P w= .ok (.value (.pointer (some (ad.add (i.toNat*sz))))) w:=by simp only [execOp]; rw [hx,hy]; simp [Instr.indexAt,run_underlying ht,asIntOf,hi,run_sizeOf hs]
theorem dW {ad:Addr} {l c sz:Nat} {t e:TypeId} {k:IntKind} {i:Int} [Und P t (.slice e)] [Sz P e sz]:Val P ⟨d,.indexAddr t x y,ty,pos,af,gu⟩ [x,y] [.slice (some ad) l c,.int k i] (0<=i/\i<(l:Int)) (.pointer (some (ad.add (i.toNat*sz)))) :=
 ⟨rfl,by simp [Op.operands,Call.operands],fun hi ρ w h=>by
  obtain ⟨hx,hy⟩:=jc h;have ht:P.underlying t=some (.slice e):=Und.q;have hs:(P.info? e).map (·.size)=some sz:=Sz.q;simp only [execOp]; rw [hx,hy]; simp [Instr.indexAt,run_underlying ht,asIntOf,hi,run_sizeOf hs]⟩
theorem rQ {ad:Addr} {off fi:Nat} {t:TypeId} (hf:ky P t fi=some off) (hx:ρ x= .pointer (some ad)):(execOp ρ ⟨d,.fieldAddr t x fi,ty,pos,af,gu⟩).run P w= .ok (.value (.pointer (some (ad.add off)))) w:=by simp only [execOp]; rw [hx]; exact ry hf
theorem kQ {ad:Addr} {off fi:Nat} {t:TypeId} [FO P t fi off]:Val P ⟨d,.fieldAddr t x fi,ty,pos,af,gu⟩ [x] [.pointer (some ad)] (True) (.pointer (some (ad.add off))) :=
 ⟨rfl,by simp [Op.operands,Call.operands],fun _ ρ w h=>by
  have hx:=tN h;have hf:ky P t fi=some off:=FO.q;simp only [execOp]; rw [hx]; exact ry hf⟩
theorem ny {vx:Value}  (hx:ρ x=vx):(execOp ρ ⟨d,.move x,ty,pos,af,gu⟩).run P w= .ok (.value (vx)) w:=by simp only [execOp]; rw [hx]; rfl
theorem aX {vx:Value}:Val P ⟨d,.move x,ty,pos,af,gu⟩ [x] [vx] (True) (vx) :=
 ⟨rfl,by simp [Op.operands,Call.operands],fun _ ρ w h=>by
  have hx:=tN h;simp only [execOp]; rw [hx]; rfl⟩
theorem NG {vx:Value}  (hx:ρ x=vx):(execOp ρ ⟨d,.assign x,ty,pos,af,gu⟩).run P w= .ok (.value (vx)) w:=by simp only [execOp]; rw [hx]; rfl
theorem df {vx:Value}:Val P ⟨d,.assign x,ty,pos,af,gu⟩ [x] [vx] (True) (vx) :=
 ⟨rfl,by simp [Op.operands,Call.operands],fun _ ρ w h=>by
  have hx:=tN h;simp only [execOp]; rw [hx]; rfl⟩
theorem Ew {vs:Array Value} {v:Value} {i:Nat} (hv:vs[i]?=some v) (hx:ρ x= .tuple vs):(execOp ρ ⟨d,.extract x i,ty,pos,af,gu⟩).run P w= .ok (.value (v)) w:=by simp only [execOp]; rw [hx]; simp [Instr.extract,hv]
theorem jO {vs:Array Value} {v:Value} {i:Nat}:Val P ⟨d,.extract x i,ty,pos,af,gu⟩ [x] [.tuple vs] (vs[i]?=some v) (v) :=
 ⟨rfl,by simp [Op.operands,Call.operands],fun hv ρ w h=>by
  have hx:=tN h;simp only [execOp]; rw [hx]; simp [Instr.extract,hv]⟩
theorem N6 {s:ByteArray} {k:IntKind} {i:Int} {t:TypeId} (ht:P.underlying t=some .string) (hx:ρ x= .string s) (hy:ρ y= .int k i) (hi:0<=i/\i<(s.size:Int)):(execOp ρ ⟨d,.index t x y,ty,pos,af,gu⟩).run P w= .ok (.value (.int .u8 ((s.data.getD i.toNat 0).toNat:Int))) w:=by 
  simp only [execOp]; rw [hx,hy]
  have hlt:i.toNat<s.size:=by omega
  have e:s[i.toNat]?=some (s.data.getD i.toNat 0):=by
   have hlt':i.toNat<s.data.size:=hlt;rw [ByteArray.getElem?_lt' s i.toNat hlt];simp [hlt',ByteArray.getElem_eq_getElem_data,Array.getElem?_eq_getElem hlt']
  simp [Instr.index,run_underlying ht,asIntOf,hi.1,e]
theorem CX {s:ByteArray} {k:IntKind} {i:Int} {t:TypeId} [Und P t .string]:Val P ⟨d,.index t x y,ty,pos,af,gu⟩ [x,y] [.string s,.int k i] (0<=i/\i<(s.size:Int)) (.int .u8 ((s.data.getD i.toNat 0).toNat:Int)) :=
 ⟨rfl,by simp [Op.operands,Call.operands],fun hi ρ w h=>by
  obtain ⟨hx,hy⟩:=jc h;have ht:P.underlying t=some .string:=Und.q;simp only [execOp]; rw [hx,hy];have hlt:i.toNat<s.size:=by omega
  have e:s[i.toNat]?=some (s.data.getD i.toNat 0):=by
   have hlt':i.toNat<s.data.size:=hlt;rw [ByteArray.getElem?_lt' s i.toNat hlt];simp [hlt',ByteArray.getElem_eq_getElem_data,Array.getElem?_eq_getElem hlt']
  simp [Instr.index,run_underlying ht,asIntOf,hi.1,e]⟩
theorem N7 {cs:Array Value} {v:Value} {t:TypeId} {fi:Nat} (hf:sH P t fi cs=some v) (hx:ρ x= .agg cs):(execOp ρ ⟨d,.field t x fi,ty,pos,af,gu⟩).run P w= .ok (.value (v)) w:=by simp only [execOp]; rw [hx]; exact uY hf
theorem J6 {cs:Array Value} {v:Value} {t:TypeId} {fi:Nat}:Val P ⟨d,.field t x fi,ty,pos,af,gu⟩ [x] [.agg cs] (sH P t fi cs=some v) (v) :=
 ⟨rfl,by simp [Op.operands,Call.operands],fun hf ρ w h=>by
  have hx:=tN h;simp only [execOp]; rw [hx]; exact uY hf⟩
theorem xu {t:TypeId} {ad:Addr} {v:Value} (h1:one P t=true) (hx:ρ x= .pointer (some ad)) (hc:w.cell? ad=some v):(execOp ρ ⟨d,.load t x,ty,pos,af,gu⟩).run P w= .ok (.value v) w:=by
 simp only [execOp]; rw [hx]; simp [Instr.loadAt,Instr.sureAddr,wG h1 hc]
theorem J9 {t:TypeId} {ad:Addr} {v:Value} (hg:gd ops E gu=some G) (hd:be N d=true) (h1:one P t=true) (hx:ev E x=some (cx,.pointer (some ad))) (ix:aV G->aV cx) (hc:aV G->w.cell? ad=some v)
  (next:TW P r Q N ds ops rest (ins E d G v) w):TW P r Q N ds ops (⟨d,.load t x,ty,pos,af,gu⟩::rest) E w :=
 iP hg hd rfl (fun hG _ ha=>xu h1 (ha.eval hx (ix hG)) (hc hG)) next
theorem xz {t:TypeId} {ad:Addr} {v:Value} (hg:iY ops D gu=some G) (hd:be N d=true) (h1:one P t=true) (hx:dev D x=some (cx,.ex (.pointer (some ad)))) (ix:aV G->aV cx) (hc:aV G->w.cell? ad=some v)
  (next:DW P N ds md ops w Fin rest (dM D d G (.ex v))):DW P N ds md ops w Fin (⟨d,.load t x,ty,pos,af,gu⟩::rest) D :=
 mi hg hd rfl (fun hG _ _ hb ha=>xu h1 (ha.eval (o:=⟨d,.load t x,ty,pos,af,gu⟩) hx (by simp [Op.operands]) (ix hG)) ((hb.cell (block_lt_of_cell (hc hG))).trans (hc hG))) next
theorem CR {t:TypeId} {ad:Addr} {fs:Array Field} {cs:List Value} (hu:P.underlying t=some (.struct fs)) (hs:(P.info? t).map (·.size)=some cs.length) (hx:ρ x= .pointer (some ad)) (hc: ∀j v,cs[j]?=some v->w.cell? (ad.add j)=some v) :
  (execOp ρ ⟨d,.load t x,ty,pos,af,gu⟩).run P w= .ok (.value (.agg cs.toArray)) w:=by
 simp only [execOp]; rw [hx]; simp [Instr.loadAt,Instr.sureAddr,lV hu hs hc]
theorem IA {t:TypeId} {ad:Addr} {fs:Array Field} {n:Nat} (cs:List Value) (hg:gd ops E gu=some G) (hd:be N d=true) (hu:P.underlying t=some (.struct fs)) (hs:(P.info? t).map (·.size)=some n)
  (hx:ev E x=some (cx,.pointer (some ad))) (ix:aV G->aV cx) (hc:aV G-> ∀j v,cs[j]?=some v->w.cell? (ad.add j)=some v) (hl:cs.length=n)
  (next:TW P r Q N ds ops rest (ins E d G (.agg cs.toArray)) w):TW P r Q N ds ops (⟨d,.load t x,ty,pos,af,gu⟩::rest) E w :=
 iP hg hd rfl (fun hG _ ha=>CR hu (hl ▸ hs) (ha.eval hx (ix hG)) (hc hG)) next
theorem IP {t:TypeId} {ad:Addr} {fs:Array Field} {n:Nat} (cs:List Value) (hg:iY ops D gu=some G) (hd:be N d=true) (hu:P.underlying t=some (.struct fs)) (hs:(P.info? t).map (·.size)=some n)
  (hx:dev D x=some (cx,.ex (.pointer (some ad)))) (ix:aV G->aV cx) (hc:aV G-> ∀j v,cs[j]?=some v->w.cell? (ad.add j)=some v) (hl:cs.length=n)
  (next:DW P N ds md ops w Fin rest (dM D d G (.ex (.agg cs.toArray)))):DW P N ds md ops w Fin (⟨d,.load t x,ty,pos,af,gu⟩::rest) D :=
 mi hg hd rfl (fun hG _ _ hb ha=>CR hu (hl ▸ hs) (ha.eval (o:=⟨d,.load t x,ty,pos,af,gu⟩) hx (by simp [Op.operands]) (ix hG)) (fun j v hj=>(hb.cell (block_lt_of_cell (hc hG j v hj))).trans (hc hG j v hj))) next
theorem Ip {vy vz v:Value} {b:Bool} (hx:ρ x= .bool b) (hy:b=true->ρ y=vy/\vy=v) (hz:b=false->ρ z=vz/\vz=v):(execOp ρ ⟨d,.pick x y z,ty,pos,af,gu⟩).run P w= .ok (.value v) w:=by
 simp only [execOp]; rw [hx]
 cases b with
 | true=>obtain ⟨h,e⟩:=hy rfl; rw [h,e]; simp [asBool]
 | false=>obtain ⟨h,e⟩:=hz rfl; rw [h,e]; simp [asBool]
theorem CY {vy vz v:Value} {b:Bool} (hg:gd ops E gu=some G) (hd:be N d=true) (hx:ev E x=some (cx,.bool b)) (ix:aV G->aV cx)
  (hy:ev E y=some (cy,vy)) (hz:ev E z=some (cz,vz)) (h1:aV G->b=true->aV cy/\vy=v) (h2:aV G->b=false->aV cz/\vz=v)
  (next:TW P r Q N ds ops rest (ins E d G v) w):TW P r Q N ds ops (⟨d,.pick x y z,ty,pos,af,gu⟩::rest) E w :=
 iP hg hd rfl (fun hG _ ha=>Ip (ha.eval hx (ix hG)) (fun hb=>⟨ha.eval hy (h1 hG hb).1,(h1 hG hb).2⟩) (fun hb=>⟨ha.eval hz (h2 hG hb).1,(h2 hG hb).2⟩)) next
theorem C7 {vy vz v:Value} {b:Bool} (hg:iY ops D gu=some G) (hd:be N d=true) (hx:dev D x=some (cx,.ex (.bool b))) (ix:aV G->aV cx)
  (hy:dev D y=some (cy,.ex vy)) (hz:dev D z=some (cz,.ex vz)) (h1:aV G->b=true->aV cy/\vy=v) (h2:aV G->b=false->aV cz/\vz=v)
  (next:DW P N ds md ops w Fin rest (dM D d G (.ex v))):DW P N ds md ops w Fin (⟨d,.pick x y z,ty,pos,af,gu⟩::rest) D :=
 mi hg hd rfl (fun hG _ _ _ ha=>Ip (ha.eval (o:=⟨d,.pick x y z,ty,pos,af,gu⟩) hx (by simp [Op.operands]) (ix hG)) (fun hb=>⟨ha.eval (o:=⟨d,.pick x y z,ty,pos,af,gu⟩) hy (by simp [Op.operands]) (h1 hG hb).1,(h1 hG hb).2⟩)
  (fun hb=>⟨ha.eval (o:=⟨d,.pick x y z,ty,pos,af,gu⟩) hz (by simp [Op.operands]) (h2 hG hb).1,(h2 hG hb).2⟩)) next
theorem Ex {b b':Bool} (hg:gd ops E gu=some G) (hd:be N d=true) (hx:ev E x=some (cx,.bool b)) (ix:aV G->aV cx) (hz:ev E z=some (cz,.bool b')) (iz:aV G->b=false->aV cz)
  (next:TW P r Q N ds ops rest (ins E d G (.bool (b||b'))) w):TW P r Q N ds ops (⟨d,.pick x (.const (.bool true)) z,ty,pos,af,gu⟩::rest) E w :=
 CY hg hd hx ix rfl hz (fun _ hb=>⟨trivial,by rw [hb]; rfl⟩) (fun hG hb=>⟨iz hG hb,by rw [hb]; rfl⟩) next
theorem fO {b b':Bool} (hg:gd ops E gu=some G) (hd:be N d=true) (hx:ev E x=some (cx,.bool b)) (ix:aV G->aV cx) (hy:ev E y=some (cy,.bool b')) (iy:aV G->b=true->aV cy)
  (next:TW P r Q N ds ops rest (ins E d G (.bool (b&&b'))) w):TW P r Q N ds ops (⟨d,.pick x y (.const (.bool false)),ty,pos,af,gu⟩::rest) E w :=
 CY hg hd hx ix hy rfl (fun hG hb=>⟨iy hG hb,by rw [hb]; rfl⟩) (fun _ hb=>⟨trivial,by rw [hb]; rfl⟩) next
theorem EJ {b b':Bool} (hg:iY ops D gu=some G) (hd:be N d=true) (hx:dev D x=some (cx,.ex (.bool b))) (ix:aV G->aV cx) (hz:dev D z=some (cz,.ex (.bool b'))) (iz:aV G->b=false->aV cz)
  (next:DW P N ds md ops w Fin rest (dM D d G (.ex (.bool (b||b'))))):DW P N ds md ops w Fin (⟨d,.pick x (.const (.bool true)) z,ty,pos,af,gu⟩::rest) D :=
 C7 hg hd hx ix rfl hz (fun _ hb=>⟨trivial,by rw [hb]; rfl⟩) (fun hG hb=>⟨iz hG hb,by rw [hb]; rfl⟩) next
theorem BU {b b':Bool} (hg:iY ops D gu=some G) (hd:be N d=true) (hx:dev D x=some (cx,.ex (.bool b))) (ix:aV G->aV cx) (hy:dev D y=some (cy,.ex (.bool b'))) (iy:aV G->b=true->aV cy)
  (next:DW P N ds md ops w Fin rest (dM D d G (.ex (.bool (b&&b'))))):DW P N ds md ops w Fin (⟨d,.pick x y (.const (.bool false)),ty,pos,af,gu⟩::rest) D :=
 C7 hg hd hx ix hy rfl (fun hG hb=>⟨iy hG hb,by rw [hb]; rfl⟩) (fun _ hb=>⟨trivial,by rw [hb]; rfl⟩) next
def Args (N:Nat) (ds:List Deferred) (E:Env) (G:Option Bool) (xs:List Operand) (vs:List Value):Prop:= ∀a,Fit N ds E a->aV G->xs.map a.eval=vs
theorem ah:Args N ds E G [] []:=fun _ _ _=>rfl
theorem aa {xs:List Operand} {v:Value} {vs:List Value} (hx:ev E x=some (cx,v)) (ix:aV G->aV cx) (h:Args N ds E G xs vs):Args N ds E G (x::xs) (v::vs):=fun a ha hG=>by
 rw [List.map_cons,ha.eval hx (ix hG),h a ha hG]
def DArgs (L:List Nat) (N:Nat) (ds:List Deferred) (D:DE) (G:Option Bool) (xs:List Operand) (vs:List Value):Prop:=(∀t,Operand.tmp t∈xs->t∈L)-> ∀a w,FitL N ds L D a w->aV G->xs.map a.eval=vs
theorem aP {L:List Nat}:DArgs L N ds D G [] []:=fun _ _ _ _ _=>rfl
theorem ax {L:List Nat} {xs:List Operand} {v:Value} {vs:List Value} (hx:dev D x=some (cx,.ex v)) (ix:aV G->aV cx) (h:DArgs L N ds D G xs vs):DArgs L N ds D G (x::xs) (v::vs):=fun hL a w ha hG=>by
 rw [List.map_cons,h (fun t ht=>hL t (by simp [ht])) a w ha hG,ha.evalL hx (fun t ht=>hL t (by simp [ht])) (ix hG)]
theorem xw {f:Operand} {k:FuncId} {cap:List Value} {xs:List Operand} {vs:List Value} {ts:Array TypeId} (he:enters P k=true) (hf:ρ f= .func (.func k) #[] cap.toArray) (hv:xs.map ρ=vs) :
  (execOp ρ ⟨d,.call ⟨.value f,xs.toArray,ts⟩,ty,pos,af,gu⟩).run P w= .ok (.enter k (vs++cap).toArray) w:=by
 have h1:=jX (P:=P) he;simp [execOp,resolve,hf,hv,Deferred.ofValue,invoke,h1]
theorem Ka {f:Operand} {k:FuncId} {cap:List Value} {cf:Option Bool} {xs:List Operand} {vs:List Value} {ts:Array TypeId} {R:Value->World->Prop} (hg:gd ops E gu=some G) (hd:be N d=true) (he:enters P k=true)
  (hf:ev E f=some (cf,.func (.func k) #[] cap.toArray)) (jf:aV G->aV cf) (hv:Args N ds E G xs vs) (hc:aV G->Gives P k (vs++cap).toArray w R)
  (next: ∀v w',(aV G->R v w')->(¬aV G->w'=w)->TW P r Q N ds ops rest (ins E d G v) w'):TW P r Q N ds ops (⟨d,.call ⟨.value f,xs.toArray,ts⟩,ty,pos,af,gu⟩::rest) E w :=
 uC hg hd rfl (fun hG a ha=>xw he (ha.eval hf (jf hG)) (hv a ha hG)) hc next
theorem bK {f:Operand} {k:FuncId} {cap:List Value} {xs:List Operand} {vs:List Value} {ts:Array TypeId} {R:Value->World->Prop} (hg:gu=none) (hd:be N d=true) (he:enters P k=true)
  (hf:ev E f=some (none,.func (.func k) #[] cap.toArray)) (hv:Args N ds E none xs vs) (hc:Gives P k (vs++cap).toArray w R)
  (next: ∀v w',R v w'->TW P r Q N ds ops rest (ins E d none v) w'):TW P r Q N ds ops (⟨d,.call ⟨.value f,xs.toArray,ts⟩,ty,pos,af,gu⟩::rest) E w :=
 Ka (G:=none) (by rw [hg]; rfl) hd he hf ct hv (fun _=>hc) (fun v w' h _=>next v w' (h trivial))
theorem dw {f:Operand} {k:FuncId} {cap:List Value} {cf:Option Bool} {xs:List Operand} {vs:List Value} {ts:Array TypeId} (e:Ent) (hm:e.mono) (hg:iY ops D gu=some G) (hd:be N d=true) (he:enters P k=true)
  (hf:dev D f=some (cf,.ex (.func (.func k) #[] cap.toArray))) (jf:aV G->aV cf) (hv:DArgs (Oper.looksAt ops.toArray ⟨d,.call ⟨.value f,xs.toArray,ts⟩,ty,pos,af,gu⟩) N ds D G xs vs)
  (hc:aV G-> ∀w',Below w.heap.size w w'->Gives P k (vs++cap).toArray w' fun v w''=>Below w'.heap.size w' w''/\e.sat v w'')
  (next:DW P N ds .weak ops w Fin rest (dM D d G e)):DW P N ds .weak ops w Fin (⟨d,.call ⟨.value f,xs.toArray,ts⟩,ty,pos,af,gu⟩::rest) D :=
 uM (o:=⟨d,.call ⟨.value f,xs.toArray,ts⟩,ty,pos,af,gu⟩) hg hd rfl hm (fun hG a w' hb ha=>⟨_,_,xw he (ha.eval (o:=⟨d,.call ⟨.value f,xs.toArray,ts⟩,ty,pos,af,gu⟩) hf (by simp [Op.operands,Call.operands]) (jf hG))
  (hv (fun t ht=>dP (by simp [Op.operands,Call.operands,ht])) a w' ha hG),hc hG w' hb⟩) next
theorem uw {fn:Fn} {cap:List Operand} {vs:List Value} (hv:cap.map ρ=vs):(execOp ρ ⟨d,.makeFunc fn #[] cap.toArray,ty,pos,af,gu⟩).run P w= .ok (.value (.func fn #[] vs.toArray)) w:=by
 simp [execOp,Instr.makeFunc,hv]
theorem aN {fn:Fn} {cap:List Operand} {vs:List Value} (hg:gd ops E gu=some G) (hd:be N d=true) (hv:Args N ds E G cap vs)
  (next:TW P r Q N ds ops rest (ins E d G (.func fn #[] vs.toArray)) w):TW P r Q N ds ops (⟨d,.makeFunc fn #[] cap.toArray,ty,pos,af,gu⟩::rest) E w :=
 iP hg hd rfl (fun hG a ha=>uw (hv a ha hG)) next
theorem KQ {fn:Fn} {cap:List Operand} {vs:List Value} (hg:iY ops D gu=some G) (hd:be N d=true) (hv:DArgs (Oper.looksAt ops.toArray ⟨d,.makeFunc fn #[] cap.toArray,ty,pos,af,gu⟩) N ds D G cap vs)
  (next:DW P N ds md ops w Fin rest (dM D d G (.ex (.func fn #[] vs.toArray)))):DW P N ds md ops w Fin (⟨d,.makeFunc fn #[] cap.toArray,ty,pos,af,gu⟩::rest) D :=
 mi hg hd rfl (fun hG a w' _ ha=>uw (hv (fun t ht=>dP (by simp [Op.operands,ht])) a w' ha hG)) next
theorem aG {t:TypeId} {vx:Value} {cs:List Value} (hg:gu=none) (hd:be N d=true) (hx:ev E x=some (none,vx)) (hv:vx.cells=cs.toArray)
  (next: ∀g w',Fresh w w' g t cs->TW P r Q N ds ops rest (ins E d none (.pointer (some ⟨g,0,none⟩))) w'):TW P r Q N ds ops (⟨d,.box t x,ty,pos,af,gu⟩::rest) E w :=
 iq (w':=w.alloc (.cells cs.toArray t)) hg hd rfl (fun a ha=>by
  simp only [execOp]; rw [ha.eval hx trivial,<-hv]; rfl) (next _ _ (ji w t cs))
theorem dC {t:TypeId} {cs:List Value} (hg:gu=none) (hd:be N d=true) (hz:zeroCells P t=some cs)
  (next: ∀g w',Fresh w w' g t cs->TW P r Q N ds ops rest (ins E d none (.pointer (some ⟨g,0,none⟩))) w'):TW P r Q N ds ops (⟨d,.alloc t,ty,pos,af,gu⟩::rest) E w :=
 iq (w':=w.alloc (.cells cs.toArray t)) hg hd rfl (fun a ha=>by
  unfold zeroCells at hz
  cases hi:P.info? t with
  | none=>simp [hi] at hz
  | some i =>
   cases hzz:i.zero with
   | none=>simp [hi,hzz] at hz
   | some zv =>
    simp [hi,hzz] at hz;subst hz;simp [execOp,Instr.alloc,zeroValue,typeInfo,hi,hzz,newVar,newRow]) (next _ _ (ji w t cs))
theorem gU {t:TypeId} {ad:Addr} {old vy:Value} (hg:gu=none) (h1:(P.info? t).map (·.size)=some 1) (hx:ev E x=some (none,.pointer (some ad))) (hy:ev E y=some (none,vy)) (hc:w.cell? ad=some old) (hf:w.frozen? ad=false)
  (ho:vy.oneCell'=true) (next:TW P r Q N ds ops rest E (w.setCell ad vy)):TW P r Q N ds ops (⟨none,.store t x y,ty,pos,af,gu⟩::rest) E w :=
 nV hg rfl rfl (fun a ha=>by
  simp only [execOp]; rw [ha.eval hx trivial,ha.eval hy trivial];have e:vy.cells= #[vy]:=by cases vy<;>first|rfl|simp [Value.oneCell'] at ho
  simp [Instr.storeAt,Instr.sureAddr,storeVar,run_sizeOf h1,e,storeCells,run_store P w ad vy .plain ho,hc,hf,Addr.add]) next
theorem rT {t t1:TypeId} {g:Nat} {old cs:List Value} (hg:gu=none) (hx:ev E x=some (none,.pointer (some ⟨g,0,none⟩))) (hy:ev E y=some (none,.agg cs.toArray)) (hb:Blk w g t1 old) (hs:(P.info? t).map (·.size)=some cs.length) (hl:old.length=cs.length)
  (h1:cs.all (·.oneCell')=true) (next:TW P r Q N ds ops rest E (w.setRow g cs.toArray)):TW P r Q N ds ops (⟨none,.store t x y,ty,pos,af,gu⟩::rest) E w :=
 nV hg rfl rfl (fun a ha=>by
  simp only [execOp]; rw [ha.eval hx trivial,ha.eval hy trivial];have h:=run_storeVar_row (P:=P) w g t1 t old.toArray cs.toArray hb (by simpa using hs) (by simpa using hl) (by simpa using h1);simp [Instr.storeAt,Instr.sureAddr,h]) next
theorem aM {t:TypeId} {dd:Nat} {zs cs:List Value} {ty':TypeId} {pos':String} {af':Array Edge} (hd:be N (some dd)=true) (hz:zeroCells P t=some zs) (hy:ev ((dd,none,.pointer (some ⟨w.heap.size,0,none⟩))::E) y=some (none,.agg cs.toArray)) (hs:(P.info? t).map (·.size)=some cs.length) (hl:zs.length=cs.length)
  (h1:cs.all (·.oneCell')=true) (next: ∀g w',Fresh w w' g t cs->TW P r Q N ds ops rest ((dd,none,.pointer (some ⟨g,0,none⟩))::E) w') :
  TW P r Q N ds ops (⟨some dd,.alloc t,ty,pos,af,none⟩::⟨none,.store t (.tmp dd) y,ty',pos',af',none⟩::rest) E w:=by
 intro a ha;unfold wpListIn;rw [if_pos (by simp [Region.wanted])];refine ⟨fun _ _=>trivial,?_⟩;have hrun:(execOp a.eval ⟨some dd,.alloc t,ty,pos,af,none⟩).run P w= .ok (.value (.pointer (some ⟨w.heap.size,0,none⟩))) (w.alloc (.cells zs.toArray t)):=by
  unfold zeroCells at hz
  cases hi:P.info? t with
  | none=>simp [hi] at hz
  | some i =>
   cases hzz:i.zero with
   | none=>simp [hi,hzz] at hz
   | some zv =>
    simp [hi,hzz] at hz;subst hz;simp [execOp,Instr.alloc,zeroValue,typeInfo,hi,hzz,Go.newVar,newRow]
 rw [iH rfl,hrun];have key:TW P r Q N ds ops (⟨none,.store t (.tmp dd) y,ty',pos',af',none⟩::rest) ((dd,none,.pointer (some ⟨w.heap.size,0,none⟩))::E) (w.alloc (.cells zs.toArray t)):=by
  refine rT (old:=zs) rfl (by simp [ev,look]) hy (Blk.new w t zs) hs hl h1 ?_;rw [Ab w zs.toArray cs.toArray t];exact next _ _ (ji w t cs)
 exact key _ (ha.put (d:=some dd) hd (fun _=>rfl) (fun h=>absurd trivial h))
end
end Go.PF
namespace Go.PF
open Go.RowKit
def Kept (F:Nat->Prop) (w w':World):Prop:= ∀(p:Addr) (v:Value),F p.block->w.cell? p=some v->w'.cell? p=some v
theorem Kept.of_below {F:Nat->Prop} {w w':World} (h:Below w.heap.size w w'):Kept F w w':=fun p _ _ hc=>(h.cell (block_lt_of_cell hc)).trans hc
theorem bn {F:Nat->Prop} {w w':World} (h: ∀b,F b->b<w.heap.size->w'.heap[b]?=w.heap[b]?):Kept F w w':=fun p _ hp hc=>(World.cell?_of_block (w:=w) (h p.block hp (block_lt_of_cell hc))).trans hc
theorem Kept.cell {F:Nat->Prop} {w w':World} (h:Kept F w w') {p:Addr} {v:Value} (hp:F p.block) (hc:w.cell? p=some v):w'.cell? p=some v:=h p v hp hc
theorem add_block (a:Addr) (n:Nat):(a.add n).block=a.block:=by unfold Addr.add; split<;>rfl
structure Ty (α:Type) where
 n:Nat
 rep:(Nat->Prop)->World->List Value->α->Prop
 len: ∀F w cs x,rep F w cs x->cs.length=n
 mono: ∀F w w' cs x,Kept F w w'->rep F w cs x->rep F w' cs x
 wider: ∀(F F':Nat->Prop) w cs x,(∀b,F b->F' b)->rep F w cs x->rep F' w cs x
def eB (x:Int):Prop:= -9223372036854775808<=x/\x<=9223372036854775807
def bC:Ty Int where
 n:=1
 rep:=fun _ _ cs x=>cs= [.int .i64 x]/\eB x
 len:=fun _ _ _ _ h=>by rw [h.1]; rfl
 mono:=fun _ _ _ _ _ _ h=>h
 wider:=fun _ _ _ _ _ _ h=>h
def boolT:Ty Bool where
 n:=1
 rep:=fun _ _ cs x=>cs= [.bool x]
 len:=fun _ _ _ _ h=>by rw [h]; rfl
 mono:=fun _ _ _ _ _ _ h=>h
 wider:=fun _ _ _ _ _ _ h=>h
def strT:Ty ByteArray where
 n:=1
 rep:=fun _ _ cs x=>cs= [.string x]/\x.size<=9223372036854775807
 len:=fun _ _ _ _ h=>by rw [h.1]; rfl
 mono:=fun _ _ _ _ _ _ h=>h
 wider:=fun _ _ _ _ _ _ h=>h
variable {α:Type}
def SL (T:Ty α) (F:Nat->Prop) (w:World) (v:Value) (l:List α):Prop :=
 ∃ A cap,v= .slice A l.length cap/\l.length<=cap/\l.length<=9223372036854775807 /\
  ∀ i x,l[i]?=some x-> ∃ad cs,A=some ad/\F ad.block/\(∀j u,cs[j]?=some u->w.cell? ((ad.add (i*T.n)).add j)=some u)/\T.rep F w cs x
theorem SL.mono {T:Ty α} {F:Nat->Prop} {w w':World} {v:Value} {l:List α} (h:SL T F w v l) (hk:Kept F w w'):SL T F w' v l:=by
 obtain ⟨A,cap,hv,h1,h2,h3⟩:=h;refine ⟨A,cap,hv,h1,h2,fun i x hx=> ?_⟩;obtain ⟨ad,cs,ha,hF,hc,hr⟩:=h3 i x hx;exact ⟨ad,cs,ha,hF,fun j u hu=>hk.cell (by rw [add_block,add_block]; exact hF) (hc j u hu),T.mono _ _ _ _ _ hk hr⟩
theorem SL.below {T:Ty α} {F:Nat->Prop} {w w':World} {v:Value} {l:List α} (h:SL T F w v l) (hb:Below w.heap.size w w'):SL T F w' v l:=h.mono (.of_below hb)
theorem SL.wider {T:Ty α} {F F':Nat->Prop} {w:World} {v:Value} {l:List α} (h:SL T F w v l) (hF: ∀b,F b->F' b):SL T F' w v l:=by
 obtain ⟨A,cap,hv,h1,h2,h3⟩:=h;refine ⟨A,cap,hv,h1,h2,fun i x hx=> ?_⟩;obtain ⟨ad,cs,ha,hb,hc,hr⟩:=h3 i x hx;exact ⟨ad,cs,ha,hF _ hb,hc,T.wider _ _ _ _ _ hF hr⟩
theorem SL.nil (T:Ty α) (F:Nat->Prop) (w:World):SL T F w (.slice none 0 0) []:=⟨none,0,rfl,ZC,by simp,fun i x h=>by simp at h⟩
def sliceT (T:Ty α):Ty (List α) where
 n:=1
 rep:=fun F w cs l=> ∃v,cs= [v]/\SL T F w v l
 len:=fun _ _ _ _ h=>by obtain ⟨v,h,_⟩:=h; rw [h]; rfl
 mono:=fun _ _ _ _ _ hk h=>by obtain ⟨v,h,hs⟩:=h; exact ⟨v,h,hs.mono hk⟩
 wider:=fun _ _ _ _ _ hF h=>by obtain ⟨v,h,hs⟩:=h; exact ⟨v,h,hs.wider hF⟩
theorem SL.int {F:Nat->Prop} {w:World} {A:Option Addr} {n cap:Nat} {l:List Int} (h:SL bC F w (.slice A n cap) l) {i:Nat} {x:Int} (hx:l[i]?=some x) :
  ∃ ad,A=some ad/\w.cell? (ad.add (i*1))=some (.int .i64 x)/\eB x:=by
 obtain ⟨A',cap',hv,_,_,h3⟩:=h;simp only [Value.slice.injEq] at hv;obtain ⟨rfl,_,rfl⟩:=hv;obtain ⟨ad,cs,ha,_,hc,hr,hi⟩:=h3 i x hx;exact ⟨ad,ha,by have:=hc 0 (.int .i64 x) (by rw [hr]; rfl); simpa [bC,Addr.add] using this,hi⟩
theorem SL.len {T:Ty α} {F:Nat->Prop} {w:World} {A:Option Addr} {n cap:Nat} {l:List α} (h:SL T F w (.slice A n cap) l):n=l.length/\l.length<=cap/\l.length<=9223372036854775807:=by
 obtain ⟨A',cap',hv,h1,h2,_⟩:=h;simp only [Value.slice.injEq] at hv;obtain ⟨rfl,rfl,rfl⟩:=hv;exact ⟨rfl,h1,h2⟩
end Go.PF
namespace Go.PF
open Go.RowKit
section
variable {P:Program} {r:Option Nat} {Q:Exit->Act->World->Prop} {N:Nat} {ds:List Deferred} {ops rest:List Oper} {E:Env} {D:DE} {w:World} {G:Option Bool} {Fin:DE->Prop} {md:Mode}
variable {d:Option Tmp} {ty:TypeId} {pos:String} {af:Array Edge} {gu:Option (Nat×Bool)}
variable {x y z:Operand} {cx cy cz:Option Bool} {ρ:Operand->Value}
def number {α:Type} (l:List α):List (Nat×α):=(l.zipIdx 0).map fun p=>(p.2,p.1)
theorem AU {α β:Type} (f:α->β) (l:List α):(number l).map (fun p=>(p.1,f p.2))=number (l.map f):=by
 simp [number,List.zipIdx_map,Function.comp_def]
def dA (P:Program) (t e:TypeId) (sz:Nat):Bool:=match P.underlying t,P.info? e with
 | some (.slice e'),some i=>match i.zero with
  | some zv=>Nat.beq e' e&&Nat.beq i.size sz&&Nat.beq zv.cells.size sz&&Nat.blt 0 sz
  | none=>false
 | _,_=>false
theorem kP {t e:TypeId} {sz:Nat} (h:dA P t e sz=true): ∃i zv,P.underlying t=some (.slice e)/\P.info? e=some i/\i.zero=some zv/\i.size=sz/\zv.cells.size=sz/\0<sz:=by
 unfold dA at h
 split at h
 ·rename_i e' i hu hi
  split at h
  ·rename_i zv hz;simp only [Bool.and_eq_true] at h;obtain ⟨⟨⟨h1,h2⟩,h3⟩,h4⟩:=h;have:=Nat.eq_of_beq_eq_true h1;subst this;exact ⟨i,zv,hu,hi,hz,Nat.eq_of_beq_eq_true h2,Nat.eq_of_beq_eq_true h3,blt_iff.1 h4⟩
  ·cases h
 ·cases h
theorem mK {t e:TypeId} {sz:Nat} (he:dA P t e sz=true) {vs:List Value} (hv: ∀v∈vs,v.cells.size=sz) (hsm:vs.length*sz<=16777216) (hpos:0<vs.length) (w:World) :
  (Instr.buildSlice t vs.length (number vs).toArray).run P w= .ok (.slice (some ⟨w.heap.size,0,none⟩) vs.length vs.length) (w.alloc (.cells (vs.flatMap fun v=>v.cells.toList).toArray e)):=by
 obtain ⟨i,zv,hu,hi,hz,rfl,hzs,hs⟩:=kP he;have hp:0<vs.length*i.size:=Nat.mul_pos hpos hs;refine run_buildSlice w t e vs.length _ _ i zv hu hi hz (by simp only [Nat.reducePow]; omega) (by omega) ?_;simp only [number];exact Great.fill_whole hs vs _ hv (by simp)
theorem iO {t e:TypeId} {sz len:Nat} {parts:Array (Nat×Operand)} {xs:List Operand} {vs:List Value} (hp:parts.toList=number xs) (hl:len=vs.length) (he:dA P t e sz=true) (hx:xs.map ρ=vs) (hv: ∀v∈vs,v.cells.size=sz) (hsm:vs.length*sz<=16777216) (hpos:0<vs.length) :
  (execOp ρ ⟨d,.buildSlice t len parts,ty,pos,af,gu⟩).run P w= .ok (.value (.slice (some ⟨w.heap.size,0,none⟩) vs.length vs.length)) (w.alloc (.cells (vs.flatMap fun v=>v.cells.toList).toArray e)):=by
 subst hl;have e1:parts.map (fun (i,x)=>(i,ρ x))=(number vs).toArray:=by
  apply Array.toList_inj.1;rw [Array.toList_map,hp,<-hx,<-AU]
 simp only [execOp];rw [e1];simp [mK he hv hsm hpos w]
theorem ak {t:TypeId} (e:TypeId) {sz len:Nat} {parts:Array (Nat×Operand)} (xs:List Operand) {vs cs:List Value} (hg:gu=none) (hd:be N d=true) (hp:parts.toList=number xs) (he:dA P t e sz=true) (hx:Args N ds E none xs vs) (hl:len=vs.length)
  (hv:vs.all (fun v=>Nat.beq v.cells.size sz)=true) (hsm:Nat.ble (vs.length*sz) 16777216=true) (hpos:Nat.blt 0 vs.length=true) (hcs:vs.flatMap (fun v=>v.cells.toList)=cs)
  (next: ∀g w',Fresh w w' g e cs->TW P r Q N ds ops rest (ins E d none (.slice (some ⟨g,0,none⟩) len len)) w'):TW P r Q N ds ops (⟨d,.buildSlice t len parts,ty,pos,af,gu⟩::rest) E w:=by
 subst hl;have hv': ∀v∈vs,v.cells.size=sz:=fun v hm=>Nat.eq_of_beq_eq_true (List.all_eq_true.1 hv v hm);refine iq hg hd rfl (fun a ha=>iO hp rfl he (hx a ha trivial) hv' (Nat.le_of_ble_eq_true hsm) (blt_iff.1 hpos)) ?_;rw [hcs];exact next _ _ (ji w e cs)
theorem gJ {t:TypeId} (e:TypeId) {sz:Nat} (hg:gu=none) (hd:be N d=true) (he:dA P t e sz=true)
  (next: ∀g w',Fresh w w' g e []->TW P r Q N ds ops rest (ins E d none (.slice (some ⟨g,0,none⟩) 0 0)) w'):TW P r Q N ds ops (⟨d,.buildSlice t 0 #[],ty,pos,af,gu⟩::rest) E w:=by
 obtain ⟨i,zv,hu,hi,hz,rfl,hzs,hs⟩:=kP he;refine iq (v:= .slice (some ⟨w.heap.size,0,none⟩) 0 0) (w':=w.alloc (.cells [].toArray e)) hg hd rfl (fun a ha=> ?_) (next _ _ (ji w e []));simp [execOp,Instr.buildSlice,run_underlying hu,sizeOf,typeInfo,hi,Instr.fill,newRow,Array.range_zero']
def Lies (e:TypeId) (len:Nat) (cs:List Value) (v:Value) (w:World):Prop:= ∃g,v= .slice (some ⟨g,0,none⟩) len len/\Blk w g e cs
theorem Lies.mono (e:TypeId) (len:Nat) (cs:List Value):Ent.mono (.pr (Lies e len cs)):=fun _ _ _ hb ⟨g,hv,hB⟩=>⟨g,hv,hB.next hb⟩
theorem cK {t:TypeId} (e:TypeId) {sz len:Nat} {parts:Array (Nat×Operand)} (xs:List Operand) {vs cs:List Value} (hg:iY ops D gu=some G) (hd:be N d=true) (hp:parts.toList=number xs) (he:dA P t e sz=true)
  (hx:DArgs (Oper.looksAt ops.toArray ⟨d,.buildSlice t len parts,ty,pos,af,gu⟩) N ds D G xs vs) (hl:len=vs.length)
  (hv:vs.all (fun v=>Nat.beq v.cells.size sz)=true) (hsm:Nat.ble (vs.length*sz) 16777216=true) (hpos:Nat.blt 0 vs.length=true) (hcs:vs.flatMap (fun v=>v.cells.toList)=cs)
  (next:DW P N ds .weak ops w Fin rest (dM D d G (.pr (Lies e len cs)))):DW P N ds .weak ops w Fin (⟨d,.buildSlice t len parts,ty,pos,af,gu⟩::rest) D:=by
 subst hl;have hv': ∀v∈vs,v.cells.size=sz:=fun v hm=>Nat.eq_of_beq_eq_true (List.all_eq_true.1 hv v hm);refine qU hg hd rfl (Lies.mono e _ cs) (fun hG a w' hb ha=> ?_) next
 refine ⟨_,_,iO hp rfl he (hx (fun t ht=>dP ?_) a w' ha hG) hv' (Nat.le_of_ble_eq_true hsm) (blt_iff.1 hpos),(ZA).alloc ZC _,w'.heap.size,rfl,?_⟩
 ·have:(t,Operand.tmp t)=(t,Operand.tmp t):=rfl;simp only [Op.operands];rw [hp];simp only [number,List.map_map];rw [List.mem_map];obtain ⟨j,hj,he⟩:=List.getElem_of_mem ht;exact ⟨(Operand.tmp t,j),by rw [List.mem_zipIdx_iff_getElem?]; simp [he.symm],rfl⟩
 ·rw [hcs]; exact Blk.new w' e cs
theorem CU {t:TypeId} {parts:Array (Nat×Operand)} {is:List Nat} {xs:List Operand} {vs:List Value} {cs:List Value} (hp:parts.toList=is.zip xs) (hx:xs.map ρ=vs) (hb:P.built t (is.zip vs)=some cs.toArray) :
  (execOp ρ ⟨d,.build t parts,ty,pos,af,gu⟩).run P w= .ok (.value (.agg cs.toArray)) w:=by
 have e1:(parts.map fun (i,x)=>(i,ρ x)).toList=is.zip vs:=by
  rw [Array.toList_map,hp,<-hx];clear hp hb hx
  induction is generalizing xs with
  | nil=>simp
  | cons i is ih=>cases xs with
   | nil=>simp
   | cons x xs=>simp [ih]
 simp only [execOp];simp [run_build w t _ cs.toArray (by rw [e1]; exact hb)]
theorem aH {t:TypeId} {parts:Array (Nat×Operand)} (is:List Nat) (xs:List Operand) {vs:List Value} (cs:List Value) (hg:gd ops E gu=some G) (hd:be N d=true) (hp:parts.toList=is.zip xs) (hx:Args N ds E G xs vs) (hb:P.built t (is.zip vs)=some cs.toArray)
  (next:TW P r Q N ds ops rest (ins E d G (.agg cs.toArray)) w):TW P r Q N ds ops (⟨d,.build t parts,ty,pos,af,gu⟩::rest) E w :=
 iP hg hd rfl (fun hG a ha=>CU hp (hx a ha hG) hb) next
theorem DY {parts:Array (Nat×Operand)} {is:List Nat} {xs:List Operand} (hp:parts.toList=is.zip xs) (hle:Nat.ble xs.length is.length=true) {t:Nat} (h:Operand.tmp t∈xs):Operand.tmp t∈((parts.toList.map (·.2)).toArray).toList:=by
 have hle':=Nat.le_of_ble_eq_true hle;rw [hp];simp only [List.map_snd_zip hle'];exact h
theorem jA {t:TypeId} {parts:Array (Nat×Operand)} (is:List Nat) (xs:List Operand) {vs:List Value} (cs:List Value) (hg:iY ops D gu=some G) (hd:be N d=true) (hp:parts.toList=is.zip xs) (hle:Nat.ble xs.length is.length=true)
  (hx:DArgs (Oper.looksAt ops.toArray ⟨d,.build t parts,ty,pos,af,gu⟩) N ds D G xs vs) (hb:P.built t (is.zip vs)=some cs.toArray)
  (next:DW P N ds md ops w Fin rest (dM D d G (.ex (.agg cs.toArray)))):DW P N ds md ops w Fin (⟨d,.build t parts,ty,pos,af,gu⟩::rest) D :=
 mi hg hd rfl (fun hG a w' _ ha=>CU hp (hx (fun t ht=>dP (DY hp hle ht)) a w' ha hG) hb) next
def eZ (P:Program) (t e:TypeId) (sz bytes:Nat):Bool:=match P.underlying t,P.info? e with
 | some (.slice e'),some i=>match i.zero with
  | some zv=>Nat.beq e' e&&Nat.beq i.size sz&&Nat.beq i.bytes bytes&&Nat.beq zv.cells.size sz&&Nat.blt 0 sz
  | none=>false
 | _,_=>false
theorem mX {t e:TypeId} {sz bytes:Nat} (h:eZ P t e sz bytes=true): ∃i zv,P.underlying t=some (.slice e)/\P.info? e=some i/\i.zero=some zv/\i.size=sz/\i.bytes=bytes/\zv.cells.size=sz/\0<sz:=by
 unfold eZ at h
 split at h
 ·rename_i e' i hu hi
  split at h
  ·rename_i zv hz;simp only [Bool.and_eq_true] at h;obtain ⟨⟨⟨⟨h1,h2⟩,h5⟩,h3⟩,h4⟩:=h;have:=Nat.eq_of_beq_eq_true h1;subst this;exact ⟨i,zv,hu,hi,hz,Nat.eq_of_beq_eq_true h2,Nat.eq_of_beq_eq_true h5,Nat.eq_of_beq_eq_true h3,blt_iff.1 h4⟩
  ·cases h
 ·cases h
def OwnS (w:World) (e:TypeId) (sz:Nat) (v:Value) (n:Nat) (xs:List Value):Prop:=w.ownsRow 0 e sz v n xs
theorem OwnS.nil (w:World) (e:TypeId) (sz:Nat):OwnS w e sz (.slice none 0 0) 0 []:=⟨by simp,.inl ⟨rfl,rfl⟩⟩
theorem OwnS.kept {w w':World} {e:TypeId} {sz n:Nat} {v:Value} {xs:List Value} (h:OwnS w e sz v n xs) (hk: ∀g,v.ownBlock=some g->w'.heap[g]?=w.heap[g]?):OwnS w' e sz v n xs:=by
 refine ⟨h.1,?_⟩;rcases h.2 with h2|⟨g,cap,cur,hv,hg,hh,hr⟩
 ·exact .inl h2
 ·exact .inr ⟨g,cap,cur,hv,hg,by rw [hk g (by rw [hv]; rfl)]; exact hh,hr⟩
theorem OwnS.lt {w:World} {e:TypeId} {sz n:Nat} {v:Value} {xs:List Value} (h:OwnS w e sz v n xs) {g:Nat} (hg:v.ownBlock=some g):g<w.heap.size:=by
 rcases h.2 with ⟨rfl,_⟩|⟨g',cap,cur,hv,_,hh,_⟩
 ·simp [Value.ownBlock] at hg
 ·rw [hv] at hg;simp [Value.ownBlock] at hg;subst hg;exact (Array.getElem?_eq_some_iff.1 hh).1
theorem OwnS.below {w w':World} {e:TypeId} {sz n:Nat} {v:Value} {xs:List Value} (h:OwnS w e sz v n xs) (hb:Below w.heap.size w w'):OwnS w' e sz v n xs:=h.kept fun _ hg=>hb.block _ (h.lt hg)
theorem OwnS.form {w:World} {e:TypeId} {sz n:Nat} {v:Value} {xs:List Value} (h:OwnS w e sz v n xs): ∃A cap,v= .slice A n cap/\n<=cap/\xs.length=n*sz /\
  (∀j u,xs[j]?=some u-> ∃g,A=some ⟨g,0,none⟩/\v.ownBlock=some g/\w.cell? ⟨g,j,none⟩=some u/\w.frozen? ⟨g,j,none⟩=false):=by
 rcases h.2 with ⟨rfl,rfl⟩|⟨g,cap,cur,hv,hg,hh,h1,h2,h3,h4⟩
 ·refine ⟨none,0,rfl,ZC,h.1,fun j u hj=> ?_⟩;have:xs= []:=List.eq_nil_of_length_eq_zero (by simpa using h.1);rw [this] at hj;simp at hj
 ·refine ⟨some ⟨g,0,none⟩,cap,hv,h1,h.1,fun j u hj=>⟨g,rfl,by rw [hv]; rfl,?_,?_⟩⟩
  ·rw [<-h4] at hj;rw [List.getElem?_take] at hj
   split at hj
   ·simp [World.cell?,hh]; simpa using hj
   ·cases hj
  ·simp [World.frozen?,hh]
theorem o9 {t e:TypeId} {sz bytes n m c:Nat} {v:Value} {xs:List Value} {A:Option Addr} {news:List Value} (ho:eZ P t e sz bytes=true) (hown:OwnS w e sz v n xs) (hl:news.length=m*sz) (hn: ∀j u,news[j]?=some u-> ∃ad,A=some ad/\w.cell? (ad.add j)=some u) (h1: ∀u∈news,u.oneCell'=true)
  (hb:(n+m)*bytes<=140737488355328) (hb0:1<=bytes): ∃v' w',(Builtin.append_ #[t,t] ty #[v,.slice A m c]).run P w= .ok v' w'/\OwnS w' e sz v' (n+m) (xs++news)/\w.grownBy w' v.ownBlock/\(v'.ownBlock=v.ownBlock∨v'.ownBlock=some w.heap.size):=by
 obtain ⟨i,zv,hu,hi,hz,h2,h3,h4,h5⟩:=mX ho;have h63:n+m<=maxLen:=by
  have:n+m<=(n+m)*bytes:=Nat.le_mul_of_pos_right _ hb0;simp only [maxLen]; omega
 rcases A with _|ad
 ·have hnil:news= []:=by
   cases news with
   | nil=>rfl
   | cons u us=>obtain ⟨ad,h,_⟩:=hn 0 u rfl; cases h
  subst hnil;have hm:m=0:=by
   rcases Nat.eq_zero_or_pos m with h|h
   ·exact h
   ·have:=Nat.mul_pos h h5; simp at hl; omega
  subst hm;refine ⟨v,w,?_,by simpa [OwnS] using hown,⟨rfl,rfl,rfl,ZC,fun _ _ _=>rfl⟩,.inl rfl⟩;rcases hown.2 with ⟨rfl,rfl⟩|⟨g,cap,cur,rfl,_,_,hnc,_⟩
  ·simp [Builtin.append_,run_underlying hu,sizeOf,typeInfo,hi,Builtin.lenOf,Builtin.firstCells]
  ·simp [Builtin.append_,run_underlying hu,sizeOf,typeInfo,hi,Builtin.lenOf,Builtin.firstCells,hnc,storeCells]
 ·obtain ⟨v',w',a1,a2,a3,_,a5⟩:=run_append_own_at (P:=P) w 0 t ty e i zv sz bytes hu hi hz h2 h3 h4 h5 v n xs hown ad m c news hl (fun j u hj=>by
   obtain ⟨ad',e1,e2⟩:=hn j u hj;simp only [Option.some.injEq] at e1;subst e1; exact e2) h1 h63 hb ZB
  exact ⟨v',w',a1,a2,a3,a5⟩
theorem aK {t e:TypeId} {sz bytes n m c:Nat} {s:Operand} {v:Value} {xs:List Value} {A:Option Addr} (news:List Value) (hg:gu=none) (hd:be N d=true) (ho:eZ P t e sz bytes=true)
  (hs:ev E s=some (none,v)) (hown:OwnS w e sz v n xs) (hx:ev E x=some (none,.slice A m c)) (hl:news.length=m*sz) (hn: ∀j u,news[j]?=some u-> ∃ad,A=some ad/\w.cell? (ad.add j)=some u) (h1: ∀u∈news,u.oneCell'=true)
  (hb:(n+m)*bytes<=140737488355328) (hb0:1<=bytes)
  (next: ∀v' w',OwnS w' e sz v' (n+m) (xs++news)->w.grownBy w' v.ownBlock->(v'.ownBlock=v.ownBlock∨v'.ownBlock=some w.heap.size)->TW P r Q N ds ops rest (ins E d none v') w') :
  TW P r Q N ds ops (⟨d,.call ⟨.builtin .append,#[s,x],#[t,t]⟩,ty,pos,af,gu⟩::rest) E w:=by
 obtain ⟨v',w',a1,a2,a3,a5⟩:=o9 (ty:=ty) (c:=c) ho hown hl hn h1 hb hb0;refine iq (v:=v') (w':=w') hg hd rfl (fun a ha=> ?_) (next v' w' a2 a3 a5);simp only [execOp,resolve,invoke,builtin,Sem.run_bind,Sem.run_pure,Result.andThen_ok,List.map_toArray,List.map_cons,List.map_nil,ha.eval hs trivial,ha.eval hx trivial,a1]
theorem nZ {kt:TypeId} (h:P.underlying kt=some .string) (e:Bool) (n:Nat) (a:ByteArray) (w:World):(Instr.checkKey e (n+1) kt (.string a)).run P w= .ok () w:=by
 simp [Instr.checkKey,run_underlying h]
theorem jb {kt:TypeId} {k:IntKind} (h:P.underlying kt=some (.int k)) (e:Bool) (n:Nat) (a:Int) (w:World):(Instr.checkKey e (n+1) kt (.int k a)).run P w= .ok () w:=by
 simp [Instr.checkKey,run_underlying h]
structure Key (P:Program) (kt:TypeId) (κ:Type) where
 enc:κ->Value
 eqb:κ->κ->Bool
 kd:TypeDesc
 und:P.underlying kt=some kd
 same: ∀a b,Instr.sameNow kd (enc a) (enc b)=some (eqb a b)
 bits: ∀a b,eqb a b=true->Instr.sameBits 10000 (enc b) (enc a)=true
 ok: ∀(e:Bool) (a:κ) (w:World),(Instr.checkKey e 10000 kt (enc a)).run P w= .ok () w
def Om (P:Program) (kt:TypeId) (h:P.underlying kt=some .string):Key P kt ByteArray where
 enc:= .string
 eqb:=fun a b=>a.toList==b.toList
 kd:= .string
 und:=h
 same:=fun a b=>by show some (a==b)=_; rw [beq_toListBytes]
 bits:=fun a b h=>by show (b==a)=true; rw [beq_toListBytes,beq_iff_eq] at *; exact h.symm
 ok:=fun e a w=>nZ h e 9999 a w
def G8 (P:Program) (kt:TypeId) (k:IntKind) (h:P.underlying kt=some (.int k)):Key P kt Int where
 enc:= .int k
 eqb:=fun a b=>a==b
 kd:= .int k
 und:=h
 same:=fun a b=>by simp [Instr.sameNow]
 bits:=fun a b h=>by
  have:a=b:=by simpa using h
  subst this; simp [Instr.sameBits]
 ok:=fun e a w=>jb h e 9999 a w
variable {κ:Type} {kt:TypeId}
def MapIs (K:Key P kt κ) (w:World) (b:Nat) (m:List (κ×Value)):Prop:= ∃es clock,w.heap[b]?=some (.map es clock)/\es.toList.map (fun e=>(e.key,e.val))=m.map fun p=>(K.enc p.1,p.2)
def AB (K:Key P kt κ) (m:List (κ×Value)) (k:κ):Option Value:=match m with
 | []=>none
 | (k',v)::m=>if K.eqb k k' then some v else AB K m k
def yC (K:Key P kt κ) (m:List (κ×Value)) (k:κ) (v:Value):List (κ×Value):=match m with
 | []=> [(k,v)]
 | (k',v')::m=>if K.eqb k k' then (k,v)::m else (k',v')::yC K m k v
theorem MapIs.lt {K:Key P kt κ} {b:Nat} {m:List (κ×Value)} (h:MapIs K w b m):b<w.heap.size:=by
 obtain ⟨es,cl,hh,_⟩:=h; exact (Array.getElem?_eq_some_iff.1 hh).1
theorem MapIs.kept {K:Key P kt κ} {b:Nat} {m:List (κ×Value)} {w':World} (h:MapIs K w b m) (hk:w'.heap[b]?=w.heap[b]?):MapIs K w' b m:=by
 obtain ⟨es,cl,hh,hm⟩:=h; exact ⟨es,cl,hk.trans hh,hm⟩
theorem MapIs.below {K:Key P kt κ} {b:Nat} {m:List (κ×Value)} {w':World} (h:MapIs K w b m) (hb:Below w.heap.size w w'):MapIs K w' b m:=h.kept (hb.block b h.lt)
theorem kN (K:Key P kt κ) (k:κ): ∀(m:List (κ×Value)) (es:List MapEntry) (i:Nat),es.map (fun e=>(e.key,e.val))=m.map (fun p=>(K.enc p.1,p.2)) ->
  ∃ r,Instr.findNow K.kd (K.enc k) es i=some r/\r.map (·.2)=AB K m k/\(r=none-> ∀p∈m,K.eqb k p.1=false) /\
   ∀ j u,r=some (j,u)-> ∃j',j=i+j'/\j'<m.length/\(∀h:j'<m.length,K.eqb k (m[j'].1)=true)/\ ∀v:Value,yC K m k v=(m.take j')++(k,v)::m.drop (j'+1)
 | [],es,i,h=>by
  have:es= []:=by simpa using h
  subst this
  exact ⟨none,rfl,rfl,(fun _ p hp=>by simp at hp),(fun j u h=>by cases h)⟩
 | (k',v')::m,[],i,h=>by simp at h
 | (k',v')::m,e::es,i,h=>by
  simp only [List.map_cons,List.cons.injEq,Prod.mk.injEq] at h;obtain ⟨⟨h1,h2⟩,h3⟩:=h;simp only [Instr.findNow];rw [h1,K.same k k']
  cases hb:K.eqb k k' with
  | true =>
   refine ⟨some (i,e.val),rfl,by simp [AB,hb,h2],(fun h=>by cases h),fun j u hj=> ?_⟩;simp only [Option.some.injEq,Prod.mk.injEq] at hj;obtain ⟨rfl,rfl⟩:=hj
   exact ⟨0,rfl,by simp,fun _=>by simpa using hb,fun v=>by simp [yC,hb]⟩
  | false =>
   obtain ⟨r,hr,hg,hn,hs⟩:=kN K k m es (i+1) h3;refine ⟨r,hr,by simp [AB,hb,hg],fun h p hp=> ?_,fun j u hj=> ?_⟩
   ·simp at hp;rcases hp with rfl|hp
    ·exact hb
    ·exact hn h p hp
   ·obtain ⟨j',h1,h2,h3,h4⟩:=hs j u hj;exact ⟨j'+1,by omega,by simp; omega,fun hlt=>by simpa using h3 h2,fun v=>by simp [yC,hb,h4 v]⟩
theorem GN (K:Key P kt κ) {m:List (κ×Value)} {k:κ} (v:Value) (h: ∀p∈m,K.eqb k p.1=false):yC K m k v=m++ [(k,v)]:=by
 induction m with
 | nil=>rfl
 | cons p m ih=>obtain ⟨k',v'⟩:=p; simp [yC,h (k',v') (by simp),ih (fun q hq=>h q (by simp [hq]))]
theorem MB {t:TypeId} (K:Key P kt κ) (hg:gu=none) (hd:be N d=true)
  (next: ∀b w',b=w.heap.size->w'.heap.size=b+1->Below w.heap.size w w'->MapIs K w' b []->TW P r Q N ds ops rest (ins E d none (.map (some b))) w'):TW P r Q N ds ops (⟨d,.makeMap t none,ty,pos,af,gu⟩::rest) E w :=
 iq (v:= .map (some w.heap.size)) (w':=w.alloc (.map #[] 0)) hg hd rfl (fun a ha=>by simp [execOp,Instr.makeMap])
  (next _ _ rfl (by simp) ((ZA).alloc ZC _) ⟨#[],0,heap_alloc_new w _,rfl⟩)
theorem Ac (K:Key P kt κ) {t et:TypeId} (ht:P.underlying t=some (.map kt et)) {zv:Value} (hz:(P.info? et).bind (·.zero)=some zv) {b:Nat} {m:List (κ×Value)} (hm:MapIs K w b m) (k:κ) :
  (Instr.lookup t (.map (some b)) (K.enc k) false).run P w= .ok ((AB K m k).getD zv) w:=by
 obtain ⟨es,cl,hh,he⟩:=hm;obtain ⟨rr,hr,hg,_⟩:=kN K k m es.toList 0 he
 cases hi:P.info? et with
 | none=>simp [hi] at hz
 | some i =>
  simp [hi] at hz;have hobj:(getObj b).run P w= .ok (.map es cl) w:=by simp [getObj,Sem.run,hh]
  cases rr with
  | none =>
   simp at hg
   simp [Instr.lookup,run_underlying ht,hobj,K.ok,Instr.findKey,run_underlying K.und,hr,zeroValue,typeInfo,hi,hz,<-hg]
  | some p =>
   obtain ⟨j,u⟩:=p;simp at hg;simp [Instr.lookup,run_underlying ht,hobj,K.ok,Instr.findKey,run_underlying K.und,hr,<-hg]
theorem Iq (K:Key P kt κ) {t et:TypeId} {zv:Value} {b:Nat} {m:List (κ×Value)} {k:κ} (ht:P.underlying t=some (.map kt et)) (hz:(P.info? et).bind (·.zero)=some zv) (hx:ρ x= .map (some b)) (hy:ρ y=K.enc k) (hm:MapIs K w b m) :
  (execOp ρ ⟨d,.lookup t x y false,ty,pos,af,gu⟩).run P w= .ok (.value ((AB K m k).getD zv)) w:=by
 simp only [execOp]; rw [hx,hy]; simp [Ac K ht hz hm k]
theorem MK (K:Key P kt κ) {t et:TypeId} {zv v:Value} {b:Nat} {m:List (κ×Value)} (k:κ) (hg:gd ops E gu=some G) (hd:be N d=true) (ht:P.underlying t=some (.map kt et)) (hz:(P.info? et).bind (·.zero)=some zv)
  (hx:ev E x=some (cx,.map (some b))) (ix:aV G->aV cx) (hy:ev E y=some (cy,K.enc k)) (iy:aV G->aV cy) (hm:MapIs K w b m) (hv:(AB K m k).getD zv=v)
  (next:TW P r Q N ds ops rest (ins E d G v) w):TW P r Q N ds ops (⟨d,.lookup t x y false,ty,pos,af,gu⟩::rest) E w :=
 iP hg hd rfl (fun hG _ ha=>by rw [<-hv]; exact Iq K ht hz (ha.eval hx (ix hG)) (ha.eval hy (iy hG)) hm) next
theorem J8 (K:Key P kt κ) {t et:TypeId} {b:Nat} {m:List (κ×Value)} (k:κ) {vz:Value} (hg:gu=none) (ht:P.underlying t=some (.map kt et))
  (hx:ev E x=some (none,.map (some b))) (hy:ev E y=some (none,K.enc k)) (hz:ev E z=some (none,vz)) (hm:MapIs K w b m)
  (next: ∀w',w'.heap.size=w.heap.size->w.grownBy w' (some b)->MapIs K w' b (yC K m k vz)->TW P r Q N ds ops rest E w'):TW P r Q N ds ops (⟨none,.mapUpdate t x y z,ty,pos,af,gu⟩::rest) E w:=by
 obtain ⟨es,cl,hh,he⟩:=id hm;obtain ⟨rr,hr,hgt,hnone,hsome⟩:=kN K k m es.toList 0 he;have hlt:b<w.heap.size:=hm.lt;have hobj:(getObj b).run P w= .ok (.map es cl) w:=by simp [getObj,Sem.run,hh]
 have hset: ∀o,(setObj b o).run P w= .ok () {w with heap:=w.heap.setIfInBounds b o}:=fun o=>by simp [setObj,Sem.run,hh]
 have fin: ∀(es':Array MapEntry) (cl':Nat),(Instr.mapUpdate t (.map (some b)) (K.enc k) vz).run P w= .ok () {w with heap:=w.heap.setIfInBounds b (.map es' cl')} ->
   es'.toList.map (fun e=>(e.key,e.val))=(yC K m k vz).map (fun p=>(K.enc p.1,p.2))->TW P r Q N ds ops (⟨none,.mapUpdate t x y z,ty,pos,af,gu⟩::rest) E w:=by
  intro es' cl' hrun hes;refine nV (w':= {w with heap:=w.heap.setIfInBounds b (.map es' cl')}) hg rfl rfl (fun a ha=> ?_) (next _ (by simp) ⟨rfl,rfl,rfl,by simp,fun i hi hne=> ?_⟩ ⟨es',cl',by simp [hlt],hes⟩)
  ·simp only [execOp]; rw [ha.eval hx trivial,ha.eval hy trivial,ha.eval hz trivial]; simp [hrun]
  ·have:b≠i:=fun e=>hne (by rw [e]);simp [Array.getElem?_setIfInBounds_ne this]
 cases rr with
 | none =>
  refine fin (es.push {key:=K.enc k,val:=vz,born:=cl}) (cl+1) ?_ ?_
  ·simp [Instr.mapUpdate,run_underlying ht,hobj,K.ok,Instr.findKey,run_underlying K.und,hr,hset]
  ·rw [GN K vz (hnone rfl)]; simp [he]
 | some p =>
  obtain ⟨j,u⟩:=p;obtain ⟨j',h1,h2,h3,h4⟩:=hsome j u rfl;simp only [Nat.zero_add] at h1;subst h1;have hlen:es.toList.length=m.length:=by have:=congrArg List.length he; simpa using this
  have hje:j<es.size:=by simpa using (show j<es.toList.length by omega)
  have hkey:es[j].key=K.enc (m[j].1):=by
   have:=congrArg (fun l=>l[j]?) he;simp [hje,h2] at this;exact this.1
  have hbits:=K.bits k (m[j].1) (h3 h2);refine fin (es.modify j fun e=> {e with key:=K.enc k,val:=vz}) cl ?_ ?_
  ·have hb2:Instr.sameBits 10000 (((es[j]?).map (·.key)).getD (K.enc k)) (K.enc k)=true:=by
    simp [hje,hkey,hbits]
   simp only [Instr.mapUpdate];simp [run_underlying ht,hobj,K.ok,Instr.findKey,run_underlying K.und,hr,Instr.keyThatStays,hje,hkey,hbits,hset]
  ·rw [h4 vz];apply List.ext_getElem?;intro i;have hi:=congrArg (fun l=>l[i]?) he;simp only [List.getElem?_map] at hi;simp only [List.getElem?_map,Array.getElem?_toList,Array.getElem?_modify];by_cases hij:j=i
   ·subst hij;simp [hje,List.getElem?_append,Nat.min_eq_left (Nat.le_of_lt h2)]
   ·rw [if_neg hij];rcases ZI i j with hlt'|hge
    ·rw [List.getElem?_append_left (by simp; omega)];rw [List.getElem?_take_of_lt hlt'];simpa using hi
    ·rw [List.getElem?_append_right (by simp; omega)];have e1:i-(m.take j).length=(i-j-1)+1:=by simp [Nat.min_eq_left (Nat.le_of_lt h2)]; omega
     rw [e1,List.getElem?_cons_succ,List.getElem?_drop];have e2:j+1+(i-j-1)=i:=by omega
     rw [e2];simpa using hi
def Nw:Value->Value->Bool
 | .int _ a,.int _ b=>a==b
 | .bool a,.bool b=>a==b
 | .string a,.string b=>a.toList==b.toList
 | _,_=>false
def Hy:TypeDesc->Value->Bool
 | .int k,.int k' _=>decide (k=k')
 | .bool,.bool _=>true
 | .string,.string _=>true
 | _,_=>false
def rY:List Value->List Value->Bool
 | [],[]=>true
 | x::xs,y::ys=>Nw x y&&rY xs ys
 | _,_=>false
def oU (P:Program):List Field->Nat->List Value->List Value->Bool
 | [],_,[],[]=>true
 | f::fs,i,x::xs,y::ys=>match P.underlying f.type with
  | some dsc=>Nat.beq f.offset i&&(f.name != "_") && Hy dsc x && Hy dsc y && oU P fs (i + 1) xs ys
  | none=>false
 | _,_,_,_=>false
theorem kI (n:Nat) (X Y:Array Value): ∀(fs:List Field) (i:Nat) (xs ys:List Value),oU P fs i xs ys=true->(∀j v,xs[j]?=some v->X[i+j]?=some v)->(∀j v,ys[j]?=some v->Y[i+j]?=some v) ->
  (Op.eqFields (n+1) X Y fs).run P w= .ok (rY xs ys) w
 | [],i,xs,ys,h,_,_=>by
  cases xs<;>cases ys<;>simp [oU] at h
  simp [Op.eqFields,rY]
 | f::fs,i,[],ys,h,_,_=>by simp [oU] at h
 | f::fs,i,x::xs,[],h,_,_=>by simp [oU] at h
 | f::fs,i,x::xs,y::ys,h,hX,hY=>by
  simp only [oU] at h
  split at h
  ·rename_i dsc hu;simp only [Bool.and_eq_true] at h;obtain ⟨⟨⟨⟨h1,h2⟩,h3⟩,h4⟩,h5⟩:=h;have ho:f.offset=i:=Nat.eq_of_beq_eq_true h1;have hname:f.name≠ "_" := by simpa using h2
   have ih:=kI n X Y fs (i+1) xs ys h5 (fun j v hj=>by have:=hX (j+1) v (by simpa using hj); rwa [show i+(j+1)=i+1+j by omega] at this)
    (fun j v hj=>by have:=hY (j+1) v (by simpa using hj); rwa [show i+(j+1)=i+1+j by omega] at this)
   have hx0:X[f.offset]?=some x:=by rw [ho]; exact hX 0 x rfl
   have hy0:Y[f.offset]?=some y:=by rw [ho]; exact hY 0 y rfl
   have hagg:(isAgg f.type).run P w= .ok false w:=by
    cases dsc<;>first|(simp [Hy] at h3; done)|simp [isAgg,run_underlying hu]
   have hp1:(part f.type X f.offset).run P w= .ok x w:=by simp [part,hagg,hx0]
   have hp2:(part f.type Y f.offset).run P w= .ok y w:=by simp [part,hagg,hy0]
   have heq:(Op.equalIn (n+1) f.type x y).run P w= .ok (Nw x y) w:=by
    cases dsc<;>cases x<;>first|(simp [Hy] at h3; done)|skip
    all_goals cases y<;>first|(simp [Hy] at h4; done)|skip
    ·exact run_equalIn_bool w n _ _ _ hu
    ·rename_i k k1 a1 k2 a2;have e1:k=k1:=of_decide_eq_true h3;have e2:k=k2:=of_decide_eq_true h4;subst e1; subst e2;exact run_equalIn_int w n _ _ _ _ _ hu
    ·exact run_equalIn_string w n _ _ _ hu
   simp only [Op.eqFields,Sem.run_bind,Sem.run_ite,if_pos hname,hp1,hp2,heq,Result.andThen_ok]
   cases hb:Nw x y with
   | false=>simp [rY,hb]
   | true=>simp [rY,hb,ih]
  ·cases h
def yU (P:Program) (t:TypeId) (xs ys:List Value):Bool:=match P.underlying t with
 | some (.struct fs)=> !P.stoodInHeld t&& !P.eqGuardType P.depth t&&oU P fs.toList 0 xs ys
 | _=>false
theorem lm {t:TypeId} {xs ys:List Value} (h:yU P t xs ys=true):(Op.equalIn 10000 t (.agg xs.toArray) (.agg ys.toArray)).run P w= .ok (rY xs ys) w/\P.eqGuardType P.depth t=false:=by
 unfold yU at h
 split at h
 ·rename_i fs hu;simp only [Bool.and_eq_true,Bool.not_eq_true'] at h;obtain ⟨⟨h1,h2⟩,h3⟩:=h;have hfo:P.fieldsOf t=fs:=by simp [Program.fieldsOf,hu]
  refine ⟨?_,h2⟩;rw [show (10000:Nat)=9999+1 from rfl,run_equalIn_struct w 9999 t _ _ (by rw [hfo]; exact hu) h1,hfo];exact kI 9998 _ _ fs.toList 0 xs ys h3 (fun j v hj=>by simpa using hj) (fun j v hj=>by simpa using hj)
 ·cases h
theorem Is {t t':TypeId} {xs ys:List Value} (h:yU P t xs ys=true) (hx:ρ x= .agg xs.toArray) (hy:ρ y= .agg ys.toArray):(execOp ρ ⟨d,.binOp .eql t x y t',ty,pos,af,gu⟩).run P w= .ok (.value (.bool (rY xs ys))) w:=by
 obtain ⟨h1,h2⟩:=lm (w:=w) h;simp only [execOp]; rw [hx,hy];simp only [Sem.run_bind,run_eqGuard_agg w .eql t x y _ _ h2,Result.andThen_ok,run_eql_struct,h1,Sem.run_pure]
theorem qi {t t':TypeId} {xs ys:List Value} (hg:gd ops E gu=some G) (hd:be N d=true) (hx:ev E x=some (cx,.agg xs.toArray)) (ix:aV G->aV cx) (hy:ev E y=some (cy,.agg ys.toArray)) (iy:aV G->aV cy) (h:yU P t xs ys=true)
  (next:TW P r Q N ds ops rest (ins E d G (.bool (rY xs ys))) w):TW P r Q N ds ops (⟨d,.binOp .eql t x y t',ty,pos,af,gu⟩::rest) E w :=
 iP hg hd rfl (fun hG _ ha=>Is h (ha.eval hx (ix hG)) (ha.eval hy (iy hG))) next
theorem Kh {t t':TypeId} {xs ys:List Value} (hg:iY ops D gu=some G) (hd:be N d=true) (hx:dev D x=some (cx,.ex (.agg xs.toArray))) (ix:aV G->aV cx) (hy:dev D y=some (cy,.ex (.agg ys.toArray))) (iy:aV G->aV cy) (h:yU P t xs ys=true)
  (next:DW P N ds md ops w Fin rest (dM D d G (.ex (.bool (rY xs ys))))):DW P N ds md ops w Fin (⟨d,.binOp .eql t x y t',ty,pos,af,gu⟩::rest) D :=
 mi hg hd rfl (fun hG _ _ _ ha=>Is h (ha.eval (o:=⟨d,.binOp .eql t x y t',ty,pos,af,gu⟩) hx (by simp [Op.operands]) (ix hG)) (ha.eval (o:=⟨d,.binOp .eql t x y t',ty,pos,af,gu⟩) hy (by simp [Op.operands]) (iy hG))) next
theorem aO {f:Operand} {k:FuncId} {cap:List Value} {cf:Option Bool} {xs:List Operand} {vs:List Value} {ts:Array TypeId} {u:Value} (hg:gd ops E gu=some G) (hd:be N d=true) (he:enters P k=true)
  (hf:ev E f=some (cf,.func (.func k) #[] cap.toArray)) (jf:aV G->aV cf) (hv:Args N ds E G xs vs) (hc:aV G->Gives P k (vs++cap).toArray w fun v w'=>Below w.heap.size w w'/\v=u)
  (next: ∀w',Below w.heap.size w w'->TW P r Q N ds ops rest (ins E d G u) w'):TW P r Q N ds ops (⟨d,.call ⟨.value f,xs.toArray,ts⟩,ty,pos,af,gu⟩::rest) E w:=by
 intro a ha;obtain ⟨h1,h2⟩:=jM (o:=⟨d,.call ⟨.value f,xs.toArray,ts⟩,ty,pos,af,gu⟩) ha hg;unfold wpListIn;by_cases hcG:aV G
 ·rw [if_pos (h1 hcG)];refine ⟨fun _ _=>trivial,?_⟩;rw [iH rfl,xw he (ha.eval hf (jf hcG)) (hv a ha hcG)];refine ⟨fun h=>by simp [Fence.wide] at h,?_⟩;refine CallsIn.mono (jh (hc hcG)) ?_;rintro e w' ⟨v,rfl,hb,rfl⟩;exact next w' hb _ (ha.put hd (fun _=>rfl) (fun h=>absurd hcG h))
 ·rw [if_neg (by rw [h2 hcG]; simp)];exact ⟨fun _ _=>trivial,next w ZA _ (ha.put hd (fun h=>absurd h hcG) (fun _=>rfl))⟩
end
end Go.PF
namespace Go.PF
open Go.RowKit
def ctl:Obj->Bool
 | .loop _| .deferred _| .mapIter .. | .stringIter .. =>true
 | _=>false
structure ExtF (n:Nat) (w w':World):Prop where
 os:w'.os=w.os
 tape:w'.tape=w.tape
 output:w'.output=w.output
 size:w.heap.size<=w'.heap.size
 block: ∀(k:Nat) (o:Obj),w.heap[k]?=some o->(k<n∨ctl o=false)->w'.heap[k]?=some o
theorem ExtF.refl (n:Nat) (w:World):ExtF n w w:=⟨rfl,rfl,rfl,ZC,fun _ _ h _=>h⟩
theorem ExtF.trans {n:Nat} {a b c:World} (h:ExtF n a b) (k:ExtF n b c):ExtF n a c :=
 ⟨k.os.trans h.os,k.tape.trans h.tape,k.output.trans h.output,Nat.le_trans h.size k.size,fun i o ho hc=>k.block i o (h.block i o ho hc) hc⟩
theorem ExtF.less {n n':Nat} {a b:World} (h:ExtF n' a b) (hn:n<=n'):ExtF n a b :=
 ⟨h.os,h.tape,h.output,h.size,fun i o ho hc=>h.block i o ho (hc.imp (fun h=>by omega) id)⟩
theorem ExtF.of_below {n:Nat} {a b:World} (h:Below a.heap.size a b):ExtF n a b :=
 ⟨h.os,h.tape,h.output,h.size,fun i o ho _=>(h.block i (Array.getElem?_eq_some_iff.1 ho).1).trans ho⟩
theorem ExtF.putObj {n l:Nat} {w:World} {o o':Obj} (h:w.heap[l]?=some o) (hc:ctl o=true) (hn:n<=l):ExtF n w (w.putObj l o'):=by
 refine ⟨rfl,rfl,rfl,by simp [World.putObj],fun k p hp hk=> ?_⟩;by_cases e:l=k
 ·subst e;rw [h] at hp;simp only [Option.some.injEq] at hp;subst hp;rcases hk with hk|hk
  ·omega
  ·rw [hc] at hk; cases hk
 ·exact (World.putObj_heap_other (by omega)).trans hp
theorem ExtF.below {n:Nat} {w0 w w':World} (h:Below n w0 w) (k:ExtF n w w') (hn:n<=w0.heap.size):Below n w0 w' :=
 ⟨k.os.trans h.os,k.tape.trans h.tape,k.output.trans h.output,Nat.le_trans h.size k.size,fun i hi=>by
  have hb:=h.block i hi;have hlt:i<w0.heap.size:=by omega
  have e:w0.heap[i]?=some w0.heap[i]:=Array.getElem?_eq_getElem hlt;rw [e] at hb ⊢;exact k.block i _ hb (.inl hi)⟩
theorem ExtF.kept {n:Nat} {F:Nat->Prop} {w w':World} (k:ExtF n w w'):Kept F w w':=fun p v _ hc=>by
 unfold World.cell? at hc ⊢
 split at hc
 ·rename_i c e fr hb;rw [k.block _ _ hb (.inr rfl)];exact hc
 ·cases hc
theorem Blk.ext {n:Nat} {w w':World} {g:Nat} {t:TypeId} {cs:List Value} (h:Blk w g t cs) (k:ExtF n w w'):Blk w' g t cs:=k.block g _ h (.inr rfl)
theorem SL.ext {α:Type} {T:Ty α} {n:Nat} {F:Nat->Prop} {w w':World} {v:Value} {l:List α} (h:SL T F w v l) (k:ExtF n w w'):SL T F w' v l:=h.mono k.kept
theorem OwnS.ext {m:Nat} {w w':World} {e:TypeId} {sz n:Nat} {v:Value} {xs:List Value} (h:OwnS w e sz v n xs) (k:ExtF m w w'):OwnS w' e sz v n xs:=by
 refine ⟨h.1,?_⟩;rcases h.2 with h2|⟨g,cap,cur,hv,hg,hh,hr⟩
 ·exact .inl h2
 ·exact .inr ⟨g,cap,cur,hv,hg,k.block g _ hh (.inr rfl),hr⟩
theorem MapIs.ext {P:Program} {kt:TypeId} {κ:Type} {K:Key P kt κ} {n:Nat} {w w':World} {b:Nat} {m:List (κ×Value)} (h:MapIs K w b m) (k:ExtF n w w'):MapIs K w' b m:=by
 obtain ⟨es,cl,hh,he⟩:=h;exact ⟨es,cl,k.block b _ hh (.inr rfl),he⟩
def Yields (P:Program) (l:Nat) (args:Array Value) (W:World) (R:Bool->World->Prop):Prop :=
 ∃ fn tmps assign body,(Instr.yield l args).run P W= .ok (.round l fn tmps assign body) W/\RoundIn (FR none) 0 P l fn tmps assign body W (fun e W'=> ∃b,e= .returned (.bool b)/\R b W')
theorem Yields.mono {P:Program} {l:Nat} {args:Array Value} {W:World} {R R':Bool->World->Prop} (h:Yields P l args W R) (hr: ∀b W',R b W'->R' b W'):Yields P l args W R':=by
 obtain ⟨fn,tmps,assign,body,h1,h2⟩:=h;exact ⟨fn,tmps,assign,body,h1,h2.mono fun e W' ⟨b,he,hR⟩=>⟨b,he,hr b W' hR⟩⟩
structure Rnd {α:Type} (l:Nat) (J Jx:List α->(Nat->Prop)->World->Prop) (pre:List α) (M:Nat->Prop) (W:World) (b:Bool) (W':World):Prop where
 size:W.heap.size<=W'.heap.size
 kept: ∀k,k<W.heap.size-> ¬M k->k≠l->W'.heap[k]?=W.heap[k]?
 yes:b=true-> ∃M',J pre M' W'/\ ∀k,M' k->(M k∨W.heap.size<=k)/\k<W'.heap.size
 no:b=false-> ∃M',Jx pre M' W'
def IterOK {α:Type} (P:Program) (gf:FuncId) (cap:List Value) (enc:α->List Value) (Pos:List α->α->Prop) (Done:List α->Prop) (own:Nat->Prop) (w0:World):Prop :=
 ∀ (l:Nat) (J Jx:List α->(Nat->Prop)->World->Prop) (W:World) (M:Nat->Prop),
  (∀k,own k->k<w0.heap.size->W.heap[k]?=w0.heap[k]?)->w0.heap.size<=W.heap.size->l<W.heap.size->(∀k,own k-> ¬M k/\k≠l)->(∀k,M k->k<W.heap.size) ->
  (∀pre M W1 W2,J pre M W1->ExtF W.heap.size W1 W2->J pre M W2)->(∀pre M W1 W2,Jx pre M W1->ExtF W.heap.size W1 W2->Jx pre M W2) ->
  (∀pre x M W1,J pre M W1->Pos pre x->(∀k,M k->k<W1.heap.size)->l<W1.heap.size->Yields P l (enc x).toArray W1 (Rnd l J Jx (pre++ [x]) M W1)) ->
  J [] M W ->
  Gives P gf (.func (.yield l) #[] #[]::cap).toArray W fun _ W'=>(∃xs M',Done xs/\J xs M' W')∨(∃pre M',Jx pre M' W')
section
variable {P:Program} {r:Option Nat} {Q:Exit->Act->World->Prop} {N:Nat} {ds:List Deferred} {ops rest:List Oper} {E:Env} {w:World} {G:Option Bool}
variable {d:Option Tmp} {ty:TypeId} {pos:String} {af:Array Edge} {gu:Option (Nat×Bool)}
theorem lI {f:Operand} {l:Nat} {xs:List Operand} {vs:List Value} {ts:Array TypeId} {R:Bool->World->Prop} (hg:gu=none) (hd:be N d=true) (hf:ev E f=some (none,.func (.yield l) #[] #[])) (hv:Args N ds E none xs vs)
  (hy:Yields P l vs.toArray w R) (next: ∀b w',R b w'->TW P r Q N ds ops rest (ins E d none (.bool b)) w'):TW P r Q N ds ops (⟨d,.call ⟨.value f,xs.toArray,ts⟩,ty,pos,af,gu⟩::rest) E w:=by
 intro a ha;obtain ⟨fn,tmps,assign,body,h1,h2⟩:=hy;unfold wpListIn;rw [if_pos (by simp [Region.wanted,hg])];refine ⟨fun _ _=>trivial,?_⟩;have hrun:(execOp a.eval ⟨d,.call ⟨.value f,xs.toArray,ts⟩,ty,pos,af,gu⟩).run P w= .ok (.round l fn tmps assign body) w:=by
  simp [execOp,resolve,ha.eval hf trivial,hv a ha trivial,Deferred.ofValue,invoke,h1]
 rw [iH rfl,hrun];refine ⟨fun h=>by simp [Fence.wide] at h,?_⟩;have h3:RoundIn (FR r) (0-1) P l fn tmps assign body w (fun e W'=> ∃b,e= .returned (.bool b)/\R b W'):=h2;refine h3.mono ?_;rintro e W' ⟨b,rfl,hR⟩;exact next b W' hR _ (ha.put hd (fun _=>rfl) (fun h=>absurd trivial h))
def yN (E:Env):List Tmp->List Value->Env
 | t::ts,v::vs=>yN ((t,none,v)::E) ts vs
 | _,_=>E
theorem yV: ∀(ts:List Tmp) (vs:List Value) (E:Env) (tmps:Array Value),Fit N [] E {tmps:=tmps,defers:= []}->ts.all (fun t=>Nat.blt t N)=true ->
  Fit N [] (yN E ts vs) {tmps:=(ts.zip vs).foldl (fun t (p,v)=>t.setIfInBounds p v) tmps,defers:= []}
 | [],vs,E,tmps,h,_=>by simpa [yN] using h
 | t::ts,[],E,tmps,h,_=>by simpa [yN] using h
 | t::ts,v::vs,E,tmps,h,ht=>by
  simp only [List.all_cons,Bool.and_eq_true] at ht;simp only [yN,List.zip_cons_cons,List.foldl_cons];exact yV ts vs _ _ (h.put (d:=some t) (c:=none) (v:=v) (u:=v) ht.1 (fun _=>rfl) (fun h=>absurd trivial h)) ht.2
def RecIs (N:Nat) (E:Env) (ps:List Tmp) (assign body:Code) (D:Nat) (W:World) (L:Nat) (st:LoopState) (pe:Option Code):Prop :=
 ∃ fn tmps,Fit N [] E {tmps:=tmps,defers:= []}/\W.heap[L]?=some (.loop {state:=st,pending:=pe,fn:=fn,tmps:=tmps,params:=ps.toArray,assign:=assign,body:=body,defers:=D})
def lW (P:Program) (L:Nat) (R:Bool->World->Prop):Exit->Act->World->Prop:=roundPost P L (fun e W'=> ∃b,e= .returned (.bool b)/\R b W')
theorem my {ps:List Tmp} {assign body:Code} {D L:Nat} {W:World} {vs:List Value} {R:Bool->World->Prop} (hr:RecIs N E ps assign body D W L .ready none) (hl:vs.length=ps.length) (hps:ps.all (fun t=>Nat.blt t N)=true)
  (h:CW P (some L) (Exit.then (fun a1 W1=> ∃W2,(Instr.beginRound L).run P W1= .ok () W2/\body.wpIn (FR (some L)) 0 P (lW P L R) a1 W2) (fun _ _ _=>False)) N [] assign (yN E ps vs) W):Yields P L vs.toArray W R:=by
 obtain ⟨fn,tmps,hf,hh⟩:=hr;refine ⟨fn,_,assign,body,run_yield hh (by simpa using hl),?_⟩;refine roundIn_of_wpIn trivial ?_;have:=h _ (yV ps vs E tmps hf hps);have e:(ps.toArray.zip vs.toArray).foldl (fun tmps (t,a)=>tmps.setIfInBounds t a) tmps=(ps.zip vs).foldl (fun t (p,v)=>t.setIfInBounds p v) tmps:=by simp
 rw [e];exact this
theorem lJ {ps:List Tmp} {assign body:Code} {D L:Nat} {W:World} {E':Env} {R:Bool->World->Prop} (hr:RecIs N E ps assign body D W L .ready none)
  (h: ∀W2,ExtF L W W2->W2.heap.size=W.heap.size->(∀k,k≠L->W2.heap[k]?=W.heap[k]?)->RecIs N E ps assign body D W2 L .busy none->CW P (some L) (lW P L R) N [] body E' W2) :
  KW N [] (Exit.then (fun a1 W1=> ∃W2,(Instr.beginRound L).run P W1= .ok () W2/\body.wpIn (FR (some L)) 0 P (lW P L R) a1 W2) (fun _ _ _=>False) .normal) E' W:=by
 intro a ha;obtain ⟨fn,tmps,hf,hh⟩:=hr;refine ⟨_,run_beginRound hh rfl,?_⟩;have hlt:L<W.heap.size:=(Array.getElem?_eq_some_iff.1 hh).1;exact h _ (ExtF.putObj hh rfl ZC) (by simp [World.putObj]) (fun k hk=>World.putObj_heap_other hk) ⟨fn,tmps,hf,World.putObj_heap_same hlt⟩ a ha
theorem jL {ps:List Tmp} {assign body:Code} {D L:Nat} {W:World} {E':Env} {R:Bool->World->Prop} {st:LoopState} {pe:Option Code} (hr:RecIs N E ps assign body D W L st pe)
  (h: ∀W2,ExtF L W W2->W2.heap.size=W.heap.size->(∀k,k≠L->W2.heap[k]?=W.heap[k]?)->RecIs N E ps assign body D W2 L .ready none->R true W2):KW N [] (lW P L R .normal) E' W:=by
 intro a _;obtain ⟨fn,tmps,hf,hh⟩:=hr;have hlt:L<W.heap.size:=(Array.getElem?_eq_some_iff.1 hh).1;exact ⟨_,_,run_endRound none hh,true,rfl,h _ (ExtF.putObj hh rfl ZC) (by simp [World.putObj]) (fun k hk=>World.putObj_heap_other hk) ⟨fn,tmps,hf,World.putObj_heap_same hlt⟩⟩
theorem Kg {ps:List Tmp} {assign body:Code} {D L:Nat} {W:World} {E':Env} {R:Bool->World->Prop} {st:LoopState} {pe:Option Code} (hr:RecIs N E ps assign body D W L st pe)
  (h: ∀W2,ExtF L W W2->W2.heap.size=W.heap.size->(∀k,k≠L->W2.heap[k]?=W.heap[k]?)->RecIs N E ps assign body D W2 L .done (some .ret)->R false W2):KW N [] (lW P L R .ret) E' W:=by
 intro a _;obtain ⟨fn,tmps,hf,hh⟩:=hr;have hlt:L<W.heap.size:=(Array.getElem?_eq_some_iff.1 hh).1;exact ⟨_,_,run_endRound (some .ret) hh,false,rfl,h _ (ExtF.putObj hh rfl ZC) (by simp [World.putObj]) (fun k hk=>World.putObj_heap_other hk) ⟨fn,tmps,hf,World.putObj_heap_same hlt⟩⟩
theorem RecIs.ext {ps:List Tmp} {assign body:Code} {D L:Nat} {W W':World} {st:LoopState} {pe:Option Code} {n:Nat} (hr:RecIs N E ps assign body D W L st pe) (h:ExtF n W W') (hn:L<n):RecIs N E ps assign body D W' L st pe:=by
 obtain ⟨fn,tmps,hf,hh⟩:=hr;exact ⟨fn,tmps,hf,h.block L _ hh (.inl hn)⟩
theorem RecIs.kept {ps:List Tmp} {assign body:Code} {D L:Nat} {W W':World} {st:LoopState} {pe:Option Code} (hr:RecIs N E ps assign body D W L st pe) (h:W'.heap[L]?=W.heap[L]?):RecIs N E ps assign body D W' L st pe:=by
 obtain ⟨fn,tmps,hf,hh⟩:=hr;exact ⟨fn,tmps,hf,h.trans hh⟩
theorem RecIs.lt {ps:List Tmp} {assign body:Code} {D L:Nat} {W:World} {st:LoopState} {pe:Option Code} (hr:RecIs N E ps assign body D W L st pe):L<W.heap.size:=by
 obtain ⟨fn,tmps,hf,hh⟩:=hr;exact (Array.getElem?_eq_some_iff.1 hh).1
theorem IR {α:Type} {g:Operand} {ps:List Tmp} {assign body:Code} {gf:FuncId} {cap:List Value} {enc:α->List Value} {Pos:List α->α->Prop} {Done:List α->Prop} {own:Nat->Prop}
  (hg:ev E g=some (none,.func (.func gf) #[] cap.toArray)) (he:enters P gf=true) (hit:IterOK P gf cap enc Pos Done own w) (hps:ps.all (fun t=>Nat.blt t N)=true) (hlen: ∀x,(enc x).length=ps.length)
  (J:List α->(Nat->Prop)->World->Prop) (Jx:Code->List α->(Nat->Prop)->World->Prop) (M:Nat->Prop) (hM: ∀k,M k->k<w.heap.size/\ ¬own k) (hown: ∀k,own k->k<w.heap.size)
  (hJ: ∀pre M W1 W2,J pre M W1->ExtF w.heap.size W1 W2->J pre M W2) (hJx: ∀c pre M W1 W2,Jx c pre M W1->ExtF w.heap.size W1 W2->Jx c pre M W2) (h0:J [] M w)
  (round: ∀D L pre x M W,w.heap.size<=D->D<L->J pre M W->Pos pre x->(∀k,M k->k<W.heap.size)-> ¬M L-> ¬M D->RecIs N E ps assign body D W L .ready none ->
   CW P (some L) (Exit.then (fun a1 W1=> ∃W2,(Instr.beginRound L).run P W1= .ok () W2 /\
    body.wpIn (FR (some L)) 0 P (lW P L (Rnd L (fun pre M' W'=>J pre M' W'/\ ¬M' L/\ ¬M' D/\RecIs N E ps assign body D W' L .ready none) (fun pre M' W'=> ∃c,Jx c pre M' W'/\RecIs N E ps assign body D W' L .done (some c)) (pre++ [x]) M W)) a1 W2) (fun _ _ _=>False)) N [] assign (yN E ps (enc x)) W)
  (done: ∀D xs M W,w.heap.size<=D->Done xs->J xs M W->W.heap[D]?=some (.deferred (some []))->KW N ({target:= .collected D,args:= #[]}::ds) (Q .normal) E W)
  (stop: ∀D c pre M W,w.heap.size<=D->Jx c pre M W->W.heap[D]?=some (.deferred (some []))->CW P none Q N ({target:= .collected D,args:= #[]}::ds) c E W) :
  CW P none Q N ds (.rangeFunc g ps.toArray assign body) E w:=by
 intro a ha;refine wpIn_rangeFunc fun fn _=> ?_;obtain ⟨W1,hW1⟩: ∃W1,(w.alloc (.deferred (some []))).alloc (.loop {state:= .ready,pending:=none,fn:=fn,tmps:=a.tmps,params:=ps.toArray,assign:=assign,body:=body,defers:=w.heap.size})=W1:=⟨_,rfl⟩;have hsz:W1.heap.size=w.heap.size+2:=by rw [<-hW1]; simp
 have hL1:W1.heap[w.heap.size+1]?=some (.loop {state:= .ready,pending:=none,fn:=fn,tmps:=a.tmps,params:=ps.toArray,assign:=assign,body:=body,defers:=w.heap.size}):=by
  rw [<-hW1]; have:=World.alloc_heap_new (w.alloc (.deferred (some []))) (.loop {state:= .ready,pending:=none,fn:=fn,tmps:=a.tmps,params:=ps.toArray,assign:=assign,body:=body,defers:=w.heap.size}); rwa [World.size_alloc] at this
 have hD1:W1.heap[w.heap.size]?=some (.deferred (some [])):=by
  rw [<-hW1]; exact (Below.heap_alloc _ _ _ (by simp)).trans (World.alloc_heap_new w _)
 have hb1:Below w.heap.size w W1:=by
  rw [<-hW1]; exact ((Below.refl _ w).alloc ZC _).alloc (by simp) _
 have hrec:RecIs N E ps assign body w.heap.size W1 (w.heap.size+1) .ready none:=⟨fn,a.tmps,⟨ha.size,rfl,ha.slots⟩,hL1⟩
 let J':List α->(Nat->Prop)->World->Prop:=fun pre M W=>(J pre M W/\ ¬M (w.heap.size+1)/\ ¬M w.heap.size/\RecIs N E ps assign body w.heap.size W (w.heap.size+1) .ready none)/\W.heap[w.heap.size]?=some (.deferred (some []))
 let Jx':List α->(Nat->Prop)->World->Prop:=fun pre M W=>(∃c,Jx c pre M W/\RecIs N E ps assign body w.heap.size W (w.heap.size+1) .done (some c))/\W.heap[w.heap.size]?=some (.deferred (some []))
 have hM': ∀k,M k->k<w.heap.size:=fun k hk=>(hM k hk).1
 have hgives:=hit (w.heap.size+1) J' Jx' W1 M (fun k hk hlt=>hb1.block k hlt) (by omega) (by omega)
  (fun k hk=>⟨fun hm=>(hM k hm).2 hk,by have:=hown k hk; omega⟩) (fun k hk=>by have:=hM' k hk; omega)
  (fun pre M Wa Wb ⟨⟨h1,h2,h3,h4⟩,h5⟩ hx=>⟨⟨hJ _ _ _ _ h1 (hx.less (by omega)),h2,h3,h4.ext hx (by omega)⟩,hx.block _ _ h5 (.inl (by omega))⟩)
  (fun pre M Wa Wb ⟨⟨c,h1,h2⟩,h5⟩ hx=>⟨⟨c,hJx _ _ _ _ _ h1 (hx.less (by omega)),h2.ext hx (by omega)⟩,hx.block _ _ h5 (.inl (by omega))⟩)
  (fun pre x M2 Wa ⟨⟨h1,h2,h3,h4⟩,h5⟩ hpos hMlt hlt=>by
   have hy:=my (P:=P) (R:=Rnd (w.heap.size+1) (fun pre M' W'=>J pre M' W'/\ ¬M' (w.heap.size+1)/\ ¬M' w.heap.size/\RecIs N E ps assign body w.heap.size W' (w.heap.size+1) .ready none) (fun pre M' W'=> ∃c,Jx c pre M' W'/\RecIs N E ps assign body w.heap.size W' (w.heap.size+1) .done (some c)) (pre++ [x]) M2 Wa) (vs:=enc x) h4 (hlen x) hps
    (round w.heap.size (w.heap.size+1) pre x M2 Wa ZC (by omega) h1 hpos hMlt h2 h3 h4)
   refine hy.mono fun b W' hR=>⟨hR.size,hR.kept,fun hb=> ?_,fun hb=> ?_⟩
   ·obtain ⟨M',hj,hm⟩:=hR.yes hb;exact ⟨M',⟨hj,(hR.kept _ (by omega) h3 (by omega)).trans h5⟩,hm⟩
   ·obtain ⟨M',hj⟩:=hR.no hb;exact ⟨M',hj,(hR.kept _ (by omega) h3 (by omega)).trans h5⟩)
  ⟨⟨hJ _ _ _ _ h0 (.of_below hb1),fun hm=>by have:=hM' _ hm; omega,fun hm=>by have:=hM' _ hm; omega,hrec⟩,hD1⟩
 refine ⟨w.heap.size+1,[{target:= .collected w.heap.size,args:= #[]}],W1,{target:= .fn (.func gf) cap.toArray,args:= #[.func (.yield (w.heap.size+1)) #[] #[]]},W1,gf,
  (.func (.yield (w.heap.size+1)) #[] #[]::cap).toArray,W1,?_,?_,fun _ _=>trivial,?_,fun h=>by simp [Fence.wide] at h,?_⟩
 ·rw [<-hW1]; exact run_enterLoop_outer _ _ _ _ _
 ·simp only [resolve,ha.eval hg trivial];simp [Deferred.ofValue,Act.eval]
 ·simp [invoke,jX he]
 ·refine CallsIn.mono (jh hgives) ?_;rintro e W2 ⟨v,rfl,hR⟩;rcases hR with ⟨xs,M',hdone,⟨h1,h2,h3,fn',tmps',hf',hh'⟩,h5⟩|⟨pre,M',⟨c,h1,fn',tmps',hf',hh'⟩,h5⟩
  ·have hlt:w.heap.size+1<W2.heap.size:=(Array.getElem?_eq_some_iff.1 hh').1;refine ⟨_,_,run_endLoop hh' (by simp),?_⟩;refine done w.heap.size xs M' _ ZC hdone (hJ _ _ _ _ h1 (ExtF.putObj hh' rfl (by omega))) ((World.putObj_heap_other (by omega)).trans h5) _ ⟨ha.size,by simp [ha.defers],ha.slots⟩
  ·have hlt:w.heap.size+1<W2.heap.size:=(Array.getElem?_eq_some_iff.1 hh').1;refine ⟨_,_,run_endLoop hh' (by simp),?_⟩;exact stop w.heap.size c pre M' _ ZC (hJx _ _ _ _ _ h1 (ExtF.putObj hh' rfl (by omega))) ((World.putObj_heap_other (by omega)).trans h5) _ ⟨ha.size,by simp [ha.defers],ha.slots⟩
variable {fn:Func} {R:Value->World->Prop}
theorem Nc {D:Nat} {v:Value} (hres: ∀(a:Act) (W:World),Fit N ({target:= .collected D,args:= #[]}:: []) E a->W=w.putObj D (.deferred none)->(results fn a.tmps).run P W= .ok v W) (hD:w.heap[D]?=some (.deferred (some [])))
  (hR:R v (w.putObj D (.deferred none))) (e:Exit) (he:e= .ret∨e= .normal):KW N ({target:= .collected D,args:= #[]}:: []) (bodyPostM (FR none) 0 P fn (fun e w'=> ∃v,e= .returned v/\R v w') e) E w:=by
 intro a ha;have key:LeavesInM (FR none) 0 P fn a.tmps (fun e w'=> ∃v,e= .returned v/\R v w') a.defers .returning w:=by
  rw [ha.defers];refine ⟨by simp,.inl ⟨D,_,rfl,run_takeDeferred hD,?_⟩⟩;exact ⟨v,hres a _ ha rfl,v,rfl,hR⟩
 rcases he with rfl|rfl
 ·exact key
 ·exact key
theorem F6 {s:Nat} {v:Value} (hres:fn.results= #[.tmp s]) (hs:look E s=some (none,v)) (hR:R v w):KW N [] (bodyPostM (FR none) 0 P fn (fun e w'=> ∃v,e= .returned v/\R v w') .ret) E w:=by
 intro a ha;have key:LeavesInM (FR none) 0 P fn a.tmps (fun e w'=> ∃v,e= .returned v/\R v w') a.defers .returning w:=by
  rw [ha.defers];exact ⟨v,by rw [results_tmp hres a.tmps P w,(ha.slots s none v hs).1 trivial],v,rfl,hR⟩
 exact key
theorem Cf {D s:Nat} {v:Value} (hres:fn.results= #[.tmp s]) (hs:look E s=some (none,v)) (hD:w.heap[D]?=some (.deferred (some []))) (hR:R v (w.putObj D (.deferred none))) :
  KW N ({target:= .collected D,args:= #[]}:: []) (bodyPostM (FR none) 0 P fn (fun e w'=> ∃v,e= .returned v/\R v w') .ret) E w :=
 Nc (fun a W ha _=>by rw [results_tmp hres a.tmps P W,(ha.slots s none v hs).1 trivial]) hD hR .ret (.inl rfl)
end
end Go.PF
namespace Go.PF
open Go.RowKit
variable {α:Type}
theorem add_add (a:Addr) (i j:Nat):(a.add i).add j=a.add (i+j):=by
 unfold Addr.add;by_cases hi:i=0<;>by_cases hj:j=0<;>simp [hi,hj,Nat.add_assoc]
theorem nN (f:α->List Value) (n:Nat): ∀(l:List α),(∀x∈l,(f x).length=n)-> ∀(i j:Nat) (x:α),l[i]?=some x->j<n->(l.flatMap f)[i*n+j]?=(f x)[j]?
 | [],_,i,j,x,hx,_=>by simp at hx
 | y::l,h,0,j,x,hx,hj=>by
  simp at hx;subst hx;rw [List.flatMap_cons,List.getElem?_append_left (by rw [h y (by simp)]; omega)]
  simp
 | y::l,h,i+1,j,x,hx,hj=>by
  simp at hx;rw [List.flatMap_cons,List.getElem?_append_right (by rw [h y (by simp),Nat.succ_mul]; omega),h y (by simp)];have:(i+1)*n+j-n=i*n+j:=by rw [Nat.succ_mul]; omega
  rw [this];exact nN f n l (fun z hz=>h z (by simp [hz])) i j x hx hj
theorem pU (f:α->List Value) (n:Nat): ∀(l:List α),(∀x∈l,(f x).length=n)->(l.flatMap f).length=l.length*n
 | [],_=>by simp
 | y::l,h=>by
  rw [List.flatMap_cons,List.length_append,h y (by simp),pU f n l (fun z hz=>h z (by simp [hz])),List.length_cons,Nat.succ_mul];omega
theorem Hu (f:α->List Value) (n:Nat) (hn:0<n) (l:List α) (h: ∀x∈l,(f x).length=n) (j:Nat) (u:Value) (hj:(l.flatMap f)[j]?=some u): ∃x,l[j / n]?=some x/\(f x)[j%n]?=some u:=by
 have hlt:j<l.length*n:=by rw [<-pU f n l h]; exact (ZE hj).1
 have hd:j / n<l.length:=(Nat.div_lt_iff_lt_mul hn).2 hlt;refine ⟨l[j / n],ZD hd,?_⟩;rw [<-nN f n l h (j / n) (j%n) l[j / n] (ZD hd) (Nat.mod_lt _ hn)];rw [<-hj]
 congr 1
 rw [Nat.mul_comm];exact Nat.div_add_mod j n
theorem nX {T:Ty α} {F:Nat->Prop} {w:World} {e:TypeId} {v:Value} {l:List α} (f:α->List Value) (hf: ∀x∈l,T.rep F w (f x) x) (h:OwnS w e T.n v l.length (l.flatMap f)) (hF: ∀g,v.ownBlock=some g->F g) (hn:l.length<=9223372036854775807):SL T F w v l:=by
 obtain ⟨A,cap,hv,h1,h2,h3⟩:=h.form;refine ⟨A,cap,hv,h1,hn,fun i x hx=> ?_⟩;have hmem:x∈l:=ZF hx;have hlen: ∀y∈l,(f y).length=T.n:=fun y hy=>T.len _ _ _ _ (hf y hy);have hrep:=hf x hmem;rcases Nat.eq_zero_or_pos T.n with h0|h0
 ·-- no cells at all
  have hil:i<l.length:=(ZE hx).1;rcases h.2 with ⟨rfl,hl⟩|⟨g,cap',cur,hv',_,_,_⟩
  ·omega
  ·rw [hv'] at hv;simp only [Value.slice.injEq] at hv;obtain ⟨rfl,_,_⟩:=hv;refine ⟨⟨g,0,none⟩,f x,rfl,hF g (by rw [hv']; rfl),fun j u hj=> ?_,hrep⟩;have:(f x).length=0:=by rw [hlen x hmem,h0]
   rw [List.eq_nil_of_length_eq_zero this] at hj;simp at hj
 ·obtain ⟨u0,hu0⟩: ∃u,(f x)[0]?=some u:=⟨_,ZD (by rw [hlen x hmem]; exact h0)⟩;have h00:=nN f T.n l hlen i 0 x hx h0;rw [hu0] at h00;obtain ⟨g,hA,hown,_⟩:=h3 _ _ h00;refine ⟨⟨g,0,none⟩,f x,hA,hF g hown,fun j u hj=> ?_,hrep⟩;have hjn:j<T.n:=by rw [<-hlen x hmem]; exact (ZE hj).1
  obtain ⟨g',hA',_,hc,_⟩:=h3 (i*T.n+j) u (by rw [nN f T.n l hlen i j x hx hjn]; exact hj);rw [hA] at hA';simp only [Option.some.injEq,Addr.mk.injEq] at hA';obtain ⟨rfl,_,_⟩:=hA';rw [add_add];have e1:Addr.add ⟨g,0,none⟩ (i*T.n+j)=⟨g,i*T.n+j,none⟩:=by unfold Addr.add; split<;>simp_all
  rw [e1];exact hc
theorem SL.cells {T:Ty α} {F:Nat->Prop} {w:World} {A:Option Addr} {n cap:Nat} {l:List α} (f:α->List Value) (hf: ∀F w cs x,T.rep F w cs x->cs=f x) (h0:0<T.n) (h:SL T F w (.slice A n cap) l) (hlen: ∀x∈l,(f x).length=T.n) :
  ∀ j u,(l.flatMap f)[j]?=some u-> ∃ad,A=some ad/\w.cell? (ad.add j)=some u:=by
 intro j u hj;obtain ⟨A',cap',hv,_,_,h3⟩:=h;simp only [Value.slice.injEq] at hv;obtain ⟨rfl,_,rfl⟩:=hv;obtain ⟨x,hx,hu⟩:=Hu f T.n h0 l hlen j u hj;obtain ⟨ad,cs,ha,_,hc,hr⟩:=h3 _ x hx;rw [hf _ _ _ _ hr] at hc;refine ⟨ad,ha,?_⟩;have:=hc (j%T.n) u hu;rw [add_add,Nat.mul_comm,Nat.div_add_mod] at this;exact this
theorem yT (l:List Int):l.flatMap (fun x=> [Value.int .i64 x])=l.map (Value.int .i64):=by
 induction l with
 | nil=>rfl
 | cons x l ih=>simp [ih]
theorem dz {F:Nat->Prop} {w:World} {e:TypeId} {v:Value} {l:List Int} (h:OwnS w e 1 v l.length (l.map (Value.int .i64))) (hi: ∀x∈l,eB x) (hF: ∀g,v.ownBlock=some g->F g) (hn:l.length<=9223372036854775807):SL bC F w v l :=
 nX (T:=bC) (fun x=> [Value.int .i64 x]) (fun x hx=>⟨rfl,hi x hx⟩) (by rw [yT]; exact h) hF hn
theorem bu {w:World} {g:Nat} {e:TypeId} {cs:List Value} {n sz:Nat} (h:Blk w g e cs) (hl:cs.length=n*sz) (hn:n<=9223372036854775807):OwnS w e sz (.slice (some ⟨g,0,none⟩) n n) n cs :=
 ⟨hl,.inr ⟨g,n,cs.toArray,rfl,ZB,h,ZC,by simp only [maxLen]; omega,by simp [hl],by simp [<-hl]⟩⟩
theorem pN {w:World} {v v':Value} {n0:Nat} (h:v'.ownBlock=v.ownBlock∨v'.ownBlock=some w.heap.size) (hv: ∀g,v.ownBlock=some g->n0<=g) (hn:n0<=w.heap.size): ∀g,v'.ownBlock=some g->n0<=g:=by
 intro g hg;rcases h with h|h
 ·exact hv g (h ▸ hg)
 ·rw [h] at hg; simp only [Option.some.injEq] at hg; omega
theorem ja (g j:Nat):Addr.add ⟨g,0,none⟩ j=⟨g,j,none⟩:=by unfold Addr.add; split<;>simp_all
theorem OwnS.set {w:World} {e:TypeId} {sz n:Nat} {v:Value} {xs:List Value} {g:Nat} (h:OwnS w e sz v n xs) (hg:v.ownBlock=some g) {j:Nat} (hj:j<xs.length) (u:Value):OwnS (w.setCell ⟨g,j,none⟩ u) e sz v n (xs.set j u):=by
 refine ⟨by simp [h.1],?_⟩;rcases h.2 with ⟨rfl,_⟩|⟨g',cap,cur,hv,hb,hh,h1,h2,h3,h4⟩
 ·simp [Value.ownBlock] at hg
 ·rw [hv] at hg;simp [Value.ownBlock] at hg;subst hg;refine .inr ⟨g',cap,cur.setIfInBounds j u,hv,hb,?_,h1,h2,by simp [h3],?_⟩
  ·simp [World.setCell,Array.getElem?_modify,hh]
  ·rw [<-h4];simp [List.take_set]
theorem oC (w:World) (g j:Nat) (u:Value):w.grownBy (w.setCell ⟨g,j,none⟩ u) (some g) :=
 ⟨rfl,rfl,rfl,by simp [World.setCell],fun k hk hne=>Below.heap_setCell w ⟨g,j,none⟩ u k (fun e=>hne (by rw [e]))⟩
theorem gG {a b c:World} {row:Option Nat} (h:a.grownBy b row) (k:b.grownBy c row):a.grownBy c row :=
 ⟨k.os.trans h.os,k.tape.trans h.tape,k.output.trans h.output,Nat.le_trans h.size k.size,fun i hi hne=>(k.block i (Nat.lt_of_lt_of_le hi h.size) hne).trans (h.block i hi hne)⟩
def splice (xs:List Value) (o:Nat) (cs:List Value):List Value:=xs.take o++cs++xs.drop (o+cs.length)
theorem xK (xs:List Value) (o:Nat) (c:Value) (cs:List Value) (h:o<xs.length):splice (xs.set o c) (o+1) cs=splice xs o (c::cs):=by
 unfold splice;have e1:(xs.set o c).take (o+1)=xs.take o++ [c]:=by
  rw [ZG,List.take_set_of_le ZC];simp [h]
 have e2:(xs.set o c).drop (o+1+cs.length)=xs.drop (o+(c::cs).length):=by
  rw [List.drop_set_of_lt (by omega)]
  congr 1
  simp; omega
 rw [e1,e2];simp
theorem jW {P:Program} {e:TypeId} {sz n:Nat} {v:Value} {g:Nat} (hg:v.ownBlock=some g): ∀(cs:List Value) (w:World) (xs:List Value) (o k:Nat),OwnS w e sz v n xs->o+k+cs.length<=xs.length->(∀c∈cs,c.oneCell'=true) ->
  ∃ w',(storeCells ⟨g,o,none⟩ cs k).run P w= .ok () w'/\OwnS w' e sz v n (splice xs (o+k) cs)/\w.grownBy w' (some g)/\w'.heap.size=w.heap.size
 | [],w,xs,o,k,h,hl,_=>⟨w,by simp [storeCells],by simpa [splice] using h,⟨rfl,rfl,rfl,ZC,fun _ _ _=>rfl⟩,rfl⟩
 | c::cs,w,xs,o,k,h,hl,h1=>by
  simp only [List.length_cons] at hl;have hlt:o+k<xs.length:=by omega
  have hlx:=h.1;obtain ⟨A,cap,hv,_,_,hc⟩:=h.form;obtain ⟨g',hA,hown,hcell,hfr⟩:=hc (o+k) xs[o+k] (ZD hlt);rw [hg] at hown;simp only [Option.some.injEq] at hown;subst hown;have e1:Addr.add ⟨g,o,none⟩ k=⟨g,o+k,none⟩:=by unfold Addr.add; split<;>simp_all
  have hst:(store (Addr.add ⟨g,o,none⟩ k) c).run P w= .ok () (w.setCell ⟨g,o+k,none⟩ c):=by
   rw [e1,run_store P w _ c .plain (h1 c (by simp))];simp [hcell,hfr]
  obtain ⟨w',hr,ho,hgw,hsz⟩:=jW (P:=P) hg cs (w.setCell ⟨g,o+k,none⟩ c) (xs.set (o+k) c) o (k+1) (h.set hg hlt c) (by simp; omega) (fun c' hc'=>h1 c' (by simp [hc']));refine ⟨w',?_,?_,gG (oC w g (o+k) c) hgw,by rw [hsz]; simp⟩
  ·simp only [storeCells,Sem.run_bind,hst,Result.andThen_ok,hr]
  ·rw [show o+(k+1)=(o+k)+1 by omega,xK xs (o+k) c cs hlt] at ho;exact ho
section
variable {P:Program} {r:Option Nat} {Q:Exit->Act->World->Prop} {N:Nat} {ds:List Deferred} {ops rest:List Oper} {E:Env} {w:World}
variable {ty:TypeId} {pos:String} {af:Array Edge} {gu:Option (Nat×Bool)} {x y:Operand}
theorem xy {t e:TypeId} {sz n c g i m:Nat} {xs cs:List Value} (hg:gu=none) (hs:(P.info? t).map (·.size)=some m) (hx:ev E x=some (none,.pointer (some (Addr.add ⟨g,0,none⟩ (i*sz))))) (hy:ev E y=some (none,.agg cs.toArray)) (hown:OwnS w e sz (.slice (some ⟨g,0,none⟩) n c) n xs)
  (hi:i<n) (hm:cs.length=m) (hmz:m=sz) (h1:cs.all (·.oneCell')=true)
  (next: ∀w',OwnS w' e sz (.slice (some ⟨g,0,none⟩) n c) n (splice xs (i*sz) cs)->w.grownBy w' (some g)->w'.heap.size=w.heap.size->TW P r Q N ds ops rest E w'):TW P r Q N ds ops (⟨none,.store t x y,ty,pos,af,gu⟩::rest) E w:=by
 subst hm;have hle:i*sz+sz<=xs.length:=by rw [hown.1,<-Nat.succ_mul]; exact Nat.mul_le_mul_right _ hi
 obtain ⟨w',hr,ho,hgw,hsz⟩:=jW (P:=P) (e:=e) (sz:=sz) (n:=n) (v:= .slice (some ⟨g,0,none⟩) n c) (g:=g) rfl cs w xs (i*sz) 0 hown (by omega) (fun c hc=>List.all_eq_true.1 h1 c hc);refine nV (w':=w') hg rfl rfl (fun a ha=> ?_) (next w' (by simpa using ho) hgw hsz);simp only [execOp];rw [ha.eval hx trivial,ha.eval hy trivial];rw [ja];simp [Instr.storeAt,Instr.sureAddr,storeVar,run_sizeOf hs,Value.cells,hr]
end
theorem qY (f:α->List Value) (n:Nat): ∀(l:List α),(∀x∈l,(f x).length=n)-> ∀(i:Nat) (x:α),i<l.length->(f x).length=n->splice (l.flatMap f) (i*n) (f x)=(l.set i x).flatMap f
 | [],_,i,x,hi,_=>by simp at hi
 | y::l,h,0,x,hi,hx=>by
  have hy:=h y (by simp);have e:((f y)++l.flatMap f).drop n=l.flatMap f:=by rw [<-hy]; simp
  simp [splice,hx,e]
 | y::l,h,i+1,x,hi,hx=>by
  have hy:=h y (by simp);have ih:=qY f n l (fun z hz=>h z (by simp [hz])) i x (by simpa using hi) hx;unfold splice at ih ⊢;simp only [List.flatMap_cons,List.set_cons_succ];have e1:(i+1)*n=(f y).length+i*n:=by rw [hy,Nat.succ_mul]; omega
  rw [e1,List.take_length_add_append,Nat.add_assoc,List.drop_length_add_append];rw [List.append_assoc,List.append_assoc,<-ih];simp
end Go.PF
namespace Go.PF
open Go.RowKit
section
variable {P:Program} {r:Option Nat} {Q:Exit->Act->World->Prop} {N:Nat} {ds:List Deferred} {ops rest:List Oper} {E:Env} {D:DE} {w:World} {G:Option Bool} {Fin:DE->Prop}
variable {d:Option Tmp} {ty:TypeId} {pos:String} {af:Array Edge} {gu:Option (Nat×Bool)}
variable {x y z:Operand} {cx cy cz:Option Bool} {ρ:Operand->Value}
theorem It {t t' e:TypeId} {A:Option Addr} {n c:Nat} (ht:P.underlying t=some (.slice e)) (hx:ρ x= .slice A n c) (hy:ρ (.const (.slice none 0 0))= .slice none 0 0):(execOp ρ ⟨d,.binOp .eql t x (.const (.slice none 0 0)) t',ty,pos,af,gu⟩).run P w= .ok (.value (.bool A.isNone)) w:=by
 simp only [execOp]; rw [hx,hy,eqGuard_at_slice];simp [Lib.run_eql_slice_nil w t e A n c 0 0 ht]
theorem Ez {t t' e:TypeId} {A:Option Addr} {n c:Nat} (hg:gd ops E gu=some G) (hd:be N d=true) (ht:P.underlying t=some (.slice e)) (hx:ev E x=some (cx,.slice A n c)) (ix:aV G->aV cx)
  (next:TW P r Q N ds ops rest (ins E d G (.bool A.isNone)) w):TW P r Q N ds ops (⟨d,.binOp .eql t x (.const (.slice none 0 0)) t',ty,pos,af,gu⟩::rest) E w :=
 iP hg hd rfl (fun hG a ha=>by have:=ha.eval hx (ix hG); exact It ht this rfl) next
theorem aQ {t t1:TypeId} {g n:Nat} {old cs:List Value} (hg:gu=none) (hx:ev E x=some (none,.pointer (some ⟨g,0,none⟩))) (hy:ev E y=some (none,.agg cs.toArray)) (hb:Blk w g t1 old) (hs:(P.info? t).map (·.size)=some n) (hn:cs.length=n) (hl:old.length=n)
  (h1:cs.all (·.oneCell')=true) (next: ∀w',Blk w' g t1 cs->w.grownBy w' (some g)->w'.heap.size=w.heap.size->TW P r Q N ds ops rest E w'):TW P r Q N ds ops (⟨none,.store t x y,ty,pos,af,gu⟩::rest) E w:=by
 subst hn;refine rT hg hx hy hb hs hl h1 (next _ ?_ ⟨rfl,rfl,rfl,by simp,fun k hk hne=> ?_⟩ (by simp))
 ·exact setRow_heap w g old.toArray cs.toArray t1 (0,0) hb
 ·have:g≠k:=fun e=>hne (by rw [e]);simp [World.setRow,Array.getElem?_modify,this]
variable {fn:Func} {R:Value->World->Prop}
theorem ow {s:Nat} {t t1:TypeId} {fs:Array Field} {g:Nat} {cs:List Value} (hres:fn.results= #[.cell s t]) (hu:P.underlying t=some (.struct fs)) (hs:(P.info? t).map (·.size)=some cs.length) (hl:look E s=some (none,.pointer (some ⟨g,0,none⟩))) (hB:Blk w g t1 cs) (hR:R (.agg cs.toArray) w) :
  KW N [] (bodyPost P fn (fun e w'=> ∃v,e= .returned v/\R v w') .ret) E w:=fun a ha=>by
 refine bodyPost_ret (v:= .agg cs.toArray) ?_ ha.defers ⟨_,rfl,hR⟩;have e:a.tmps.getD s undef= .pointer (some ⟨g,0,none⟩):=(ha.slots s none _ hl).1 trivial;simp only [Array.getD_eq_getD_getElem?] at e;simp [results,hres,e,asAddr,lV hu hs (fun j v hj=>hB.fld hj)]
end
def Thunk (P:Program) (w:World) (f:FuncId) (caps:List Value) (b:Bool):Prop:= ∀w',Below w.heap.size w w'->Gives P f caps.toArray w' fun u w''=>Below w'.heap.size w' w''/\u= .bool b
theorem Thunk.later {P:Program} {w w1:World} {f:FuncId} {caps:List Value} {b:Bool} (h:Thunk P w f caps b) (hb:Below w.heap.size w w1):Thunk P w1 f caps b:=fun w' hw=>h w' (hb.step hw)
end Go.PF
namespace Go.PF
open Go.RowKit
def Sats:List Ent->List Value->World->Prop
 | [],[],_=>True
 | e::es,v::vs,w=>e.sat v w/\Sats es vs w
 | _,_,_=>False
theorem Sats.one {e:Ent} {vs:List Value} {w:World} (h:Sats [e] vs w): ∃a,vs= [a]/\e.sat a w:=by
 match vs,h with
 | [a],⟨h1,_⟩=>exact ⟨a,rfl,h1⟩
theorem Sats.two {e1 e2:Ent} {vs:List Value} {w:World} (h:Sats [e1,e2] vs w): ∃a b,vs= [a,b]/\e1.sat a w/\e2.sat b w:=by
 match vs,h with
 | [a,b],⟨h1,h2,_⟩=>exact ⟨a,b,rfl,h1,h2⟩
theorem uF {e1 e2 e3:Ent} {vs:List Value} {w:World} (h:Sats [e1,e2,e3] vs w): ∃a b c,vs= [a,b,c]/\e1.sat a w/\e2.sat b w/\e3.sat c w:=by
 match vs,h with
 | [a,b,c],⟨h1,h2,h3,_⟩=>exact ⟨a,b,c,rfl,h1,h2,h3⟩
theorem wz {e1 e2 e3 e4 e5:Ent} {vs:List Value} {w:World} (h:Sats [e1,e2,e3,e4,e5] vs w): ∃a b c d e,vs= [a,b,c,d,e]/\e1.sat a w/\e2.sat b w/\e3.sat c w/\e4.sat d w/\e5.sat e w:=by
 match vs,h with
 | [a,b,c,d,e],⟨h1,h2,h3,h4,h5,_⟩=>exact ⟨a,b,c,d,e,rfl,h1,h2,h3,h4,h5⟩
theorem fZ (p:Value->Prop):Ent.mono (.pr fun v _=>p v):=fun _ _ _ _ h=>h
section
variable {P:Program} {N:Nat} {ds:List Deferred} {ops rest:List Oper} {D:DE} {w:World} {G:Option Bool} {Fin:DE->Prop}
variable {d:Option Tmp} {ty:TypeId} {pos:String} {af:Array Edge} {gu:Option (Nat×Bool)}
variable {x:Operand} {cx:Option Bool}
def PArgs (L:List Nat) (N:Nat) (ds:List Deferred) (D:DE) (G:Option Bool) (xs:List Operand) (es:List Ent):Prop:=(∀t,Operand.tmp t∈xs->t∈L)-> ∀a w,FitL N ds L D a w->aV G->Sats es (xs.map a.eval) w
theorem fK {L:List Nat}:PArgs L N ds D G [] []:=fun _ _ _ _ _=>trivial
theorem bJ {L:List Nat} {xs:List Operand} {e:Ent} {es:List Ent} (hx:dev D x=some (cx,e)) (ix:aV G->aV cx) (h:PArgs L N ds D G xs es):PArgs L N ds D G (x::xs) (e::es):=fun hL a w ha hG =>
 ⟨ha.sat hx (fun t ht=>hL t (by simp [ht])) (ix hG),h (fun t ht=>hL t (by simp [ht])) a w ha hG⟩
theorem iR {f:Operand} {k:FuncId} {cap:List Value} {cf:Option Bool} {xs:List Operand} {es:List Ent} {ts:Array TypeId} (e:Ent) (hm:e.mono) (hg:iY ops D gu=some G) (hd:be N d=true) (he:enters P k=true)
  (hf:dev D f=some (cf,.ex (.func (.func k) #[] cap.toArray))) (jf:aV G->aV cf) (hv:PArgs (Oper.looksAt ops.toArray ⟨d,.call ⟨.value f,xs.toArray,ts⟩,ty,pos,af,gu⟩) N ds D G xs es)
  (hc:aV G-> ∀w',Below w.heap.size w w'-> ∀vs,Sats es vs w'->Gives P k (vs++cap).toArray w' fun v w''=>Below w'.heap.size w' w''/\e.sat v w'')
  (next:DW P N ds .weak ops w Fin rest (dM D d G e)):DW P N ds .weak ops w Fin (⟨d,.call ⟨.value f,xs.toArray,ts⟩,ty,pos,af,gu⟩::rest) D :=
 uM (o:=⟨d,.call ⟨.value f,xs.toArray,ts⟩,ty,pos,af,gu⟩) hg hd rfl hm (fun hG a w' hb ha=>⟨_,_,xw he (ha.eval (o:=⟨d,.call ⟨.value f,xs.toArray,ts⟩,ty,pos,af,gu⟩) hf (by simp [Op.operands,Call.operands]) (jf hG)) rfl,
  hc hG w' hb _ (hv (fun t ht=>dP (by simp [Op.operands,Call.operands,ht])) a w' ha hG)⟩) next
theorem rV {φ:Value->World->Prop} {i:Nat} (ψ:Value->World->Prop) (hg:iY ops D gu=some G) (hd:be N d=true) (hx:dev D x=some (cx,.pr φ)) (ix:aV G->aV cx) (hm:Ent.mono (.pr ψ))
  (h: ∀u w,φ u w-> ∃vs v,u= .tuple vs/\vs[i]?=some v/\ψ v w)
  (next:DW P N ds .weak ops w Fin rest (dM D d G (.pr ψ))):DW P N ds .weak ops w Fin (⟨d,.extract x i,ty,pos,af,gu⟩::rest) D:=by
 refine qU hg hd rfl hm (fun hG a w' hb ha=> ?_) next
 have h1:φ (a.eval x) w':=ha.evalP (o:=⟨d,.extract x i,ty,pos,af,gu⟩) hx (by simp [Op.operands]) (ix hG);obtain ⟨vs,v,h2,h3,h4⟩:=h _ _ h1;exact ⟨v,w',Ew h3 h2,ZA,h4⟩
theorem fP {φ:Value->World->Prop} (hg:iY ops D gu=some G) (hd:be N d=true) (hx:dev D x=some (cx,.pr φ)) (ix:aV G->aV cx) (hm:Ent.mono (.pr φ))
  (next:DW P N ds .weak ops w Fin rest (dM D d G (.pr φ))):DW P N ds .weak ops w Fin (⟨d,.assign x,ty,pos,af,gu⟩::rest) D:=by
 refine qU hg hd rfl hm (fun hG a w' hb ha=> ?_) next
 have h1:φ (a.eval x) w':=ha.evalP (o:=⟨d,.assign x,ty,pos,af,gu⟩) hx (by simp [Op.operands]) (ix hG);exact ⟨_,w',by simp [execOp],ZA,h1⟩
theorem IM {φ:Value->World->Prop} (hg:iY ops D gu=some G) (hd:be N d=true) (hx:dev D x=some (cx,.pr φ)) (ix:aV G->aV cx) (hm:Ent.mono (.pr φ))
  (next:DW P N ds .weak ops w Fin rest (dM D d G (.pr φ))):DW P N ds .weak ops w Fin (⟨d,.move x,ty,pos,af,gu⟩::rest) D:=by
 refine qU hg hd rfl hm (fun hG a w' hb ha=> ?_) next
 have h1:φ (a.eval x) w':=ha.evalP (o:=⟨d,.move x,ty,pos,af,gu⟩) hx (by simp [Op.operands]) (ix hG);exact ⟨_,w',by simp [execOp],ZA,h1⟩
theorem bf {r:Option Nat} {Q:Exit->Act->World->Prop} {E:Env} {op:Op} (hg:gd ops E gu=some G) (hG:aV G) (next:TW P r Q N ds ops (⟨d,op,ty,pos,af,none⟩::rest) E w):TW P r Q N ds ops (⟨d,op,ty,pos,af,gu⟩::rest) E w:=by
 intro a ha;have h1:=next a ha
 have h2:=(jM (o:=⟨d,op,ty,pos,af,gu⟩) ha hg).1 hG;unfold wpListIn at h1 ⊢;rw [if_pos h2];rw [if_pos (by simp [Region.wanted])] at h1;exact h1
def Bp (D:DE):List Nat->Option (List Ent)
 | []=>some []
 | i::is=>match eH D i with
  | some (none,e)=>match Bp D is with
   | some es=>some (e::es)
   | none=>none
  | _=>none
def zO:List Nat->List Value->Env
 | i::is,v::vs=>(i,none,v)::zO is vs
 | _,_=> []
theorem FitD.sel {a:Act} (h:FitD N ds D a w): ∀ {is:List Nat} {es:List Ent},Bp D is=some es->Sats es (is.map fun i=>a.tmps.getD i undef) w
 | [],es,hp=>by simp [Bp] at hp; subst hp; trivial
 | i::is,es,hp=>by
  simp only [Bp] at hp
  split at hp
  ·rename_i e he
   split at hp
   ·rename_i es' hes;simp only [Option.some.injEq] at hp;subst hp;exact ⟨(h.slots i none e he).1 trivial,h.sel hes⟩
   ·cases hp
  ·cases hp
theorem FitD.zip {a:Act} (h:FitD N ds D a w) (is:List Nat):Fit N ds (zO is (is.map fun i=>a.tmps.getD i undef)) a:=by
 refine ⟨h.size,h.defers,?_⟩
 induction is with
 | nil=>intro i c v hl; simp [zO,look] at hl
 | cons j is ih =>
  intro i c v hl;simp only [List.map_cons,zO,look] at hl;by_cases hi:j=i
  ·subst hi;rw [eu] at hl;simp only [Option.some.injEq,Prod.mk.injEq] at hl;obtain ⟨rfl,rfl⟩:=hl;exact ⟨fun _=>rfl,fun h=>absurd trivial h⟩
  ·rw [kC hi] at hl;exact ih i c v hl
theorem qw {K:Act->World->Prop} (is:List Nat) {es:List Ent} (hp:Bp D is=some es) (h: ∀vs w',Below w.heap.size w w'->Sats es vs w'->KW N ds K (zO is vs) w'): ∀a w',Below w.heap.size w w'->FitD N ds D a w'->K a w' :=
 fun a w' hb ha=>h _ w' hb (ha.sel hp) a (ha.zip is)
end
end Go.PF
