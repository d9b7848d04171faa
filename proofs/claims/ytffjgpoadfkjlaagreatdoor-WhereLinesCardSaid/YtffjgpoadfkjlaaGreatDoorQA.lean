/- Texts of this claim,joined. -/
import Derived.TacticsIn
import Derived.OrdersIn
import Derived.Below
import Derived.Laws.Slices
import Derived.Laws.Strings
import Derived.Laws.StructEq
import Derived.Laws.Small
import Derived.Laws.Build
import Derived.Laws.Tables
import Derived.Laws.Rows
import Derived.Great.BuildSlice
import Derived.RangeFuncLeaves
set_option linter.unusedSimpArgs false
set_option linter.unusedVariables false
set_option maxRecDepth 100000
set_option maxHeartbeats 4000000
namespace Go.PF
open Go.RowKit
abbrev FR (r:Option Nat):Fence:= {Fence.wide with round:=r}
def Cnd:Option Bool→Prop
 | none=>True
 | some b=>b=true
abbrev Env:=List (Nat×Option Bool×Value)
def look:Env→Nat→Option (Option Bool×Value)
 | [],_=>none
 | (j,c,v)::E,i=>match Nat.beq j i with
  | true=>some (c,v)
  | false=>look E i
structure Fit (N:Nat) (ds:List Deferred) (E:Env) (a:Act):Prop where
 size:a.tmps.size=N
 defers:a.defers=ds
 slots: ∀i c v,look E i=some (c,v)→(Cnd c→a.tmps.getD i undef=v)∧(¬Cnd c→a.tmps.getD i undef=undef)
def ev (E:Env):Operand→Option (Option Bool×Value)
 | .tmp t=>look E t
 | .const v=>some (none,v)
 | .global g=>some (none,.pointer (some ⟨g,0,none⟩))
 | .func f=>some (none,.func (.func f) #[] #[])
theorem beq_ne {d i:Nat} (h:d≠i):Nat.beq d i=false:=by
 cases hb:Nat.beq d i with
 | false=>rfl
 | true=>exact absurd (Nat.eq_of_beq_eq_true hb) h
theorem beq_self (d:Nat):Nat.beq d d=true:=Nat.beq_refl d
theorem Fit.eval {N:Nat} {ds:List Deferred} {E:Env} {a:Act} (h:Fit N ds E a) {x:Operand} {c:Option Bool} {v:Value} (hx:ev E x=some (c,v)) (hc:Cnd c):a.eval x=v:=by
 cases x with
 | tmp t=>exact (h.slots t c v hx).1 hc
 | const u=>simp [ev] at hx; exact hx.2
 | global g=>simp [ev] at hx; exact hx.2
 | func f=>simp [ev] at hx; exact hx.2
def ins (E:Env) (d:Option Tmp) (c:Option Bool) (v:Value):Env :=
 match d with
 | none=>E
 | some d=>(d,c,v)::E
def okDst (N:Nat):Option Tmp→Bool
 | none=>true
 | some d=>Nat.blt d N
theorem Fit.put {N:Nat} {ds:List Deferred} {E:Env} {a:Act} (h:Fit N ds E a) {d:Option Tmp} {c:Option Bool} {v u:Value} (hd:okDst N d=true) (h1:Cnd c→u=v) (h2: ¬Cnd c→u=undef) :
  Fit N ds (ins E d c v) (a.put d u):=by
 cases d with
 | none=>exact h
 | some d =>
  have hd':d<N:=by simpa [okDst] using hd
  refine ⟨by simp [Act.put,h.size],by simp [Act.put,h.defers],fun i c' v' hl=> ?_⟩
  simp only [ins,look] at hl
  by_cases hi:d=i
  ·subst hi
   have e:Nat.beq d d=true:=beq_self d
   rw [e] at hl
   simp only [Option.some.injEq,Prod.mk.injEq] at hl
   obtain ⟨rfl,rfl⟩:=hl
   have:(a.put (some d) u).tmps.getD d undef=u:=by
    simp [Act.put,h.size,hd']
   rw [this]
   exact ⟨h1,h2⟩
  ·have e:Nat.beq d i=false:=beq_ne hi
   rw [e] at hl
   have:(a.put (some d) u).tmps.getD i undef=a.tmps.getD i undef:=by
    simp [Act.put,Array.getElem?_setIfInBounds_ne hi]
   rw [this]
   exact h.slots i c' v' hl
def gd (ops:List Oper) (E:Env):Option (Nat×Bool)→Option (Option Bool)
 | none=>some none
 | some (j,want)=>match (ops[j]?).bind (·.dst) with
  | none=>none
  | some d=>match look E d with
   | some (none,.bool b)=>match want with
    | true=>some (some b)
    | false=>some (some (!b))
   | some (some c,.bool b)=>match want with
    | true=>some (some (c&&b))
    | false=>some (some (c&& !b))
   | _=>none
theorem getElem?_getD {a:Array Value} {d:Nat} {v:Value} (h:d<a.size) (e:a.getD d undef=v):a[d]?=some v:=by
 rw [←e]; simp [h]
def boolOf:Option Value→Option Bool
 | some (.bool b)=>some b
 | _=>none
theorem yielded_eq (ops:List Oper) (t:Array Value) (j:Nat):yielded ops.toArray t j=boolOf (((ops[j]?).bind (·.dst)).bind (t[·]?)):=by
 unfold yielded boolOf
 simp only [List.getElem?_toArray]
 split<;>split<;>simp_all
theorem boolOf_ne {x:Option Value} (h: ∀b,x≠some (.bool b)):boolOf x=none:=by
 unfold boolOf
 split
 ·rename_i b; exact absurd rfl (h b)
 ·rfl
theorem wanted_of {N:Nat} {ds:List Deferred} {E:Env} {a:Act} {ops:List Oper} {o:Oper} {G:Option Bool} (h:Fit N ds E a) (hg:gd ops E o.guard=some G) :
  (Cnd G→Region.wanted o (yielded ops.toArray a.tmps)=true)∧(¬Cnd G→Region.wanted o (yielded ops.toArray a.tmps)=false):=by
 unfold Region.wanted
 cases hgu:o.guard with
 | none=>rw [hgu] at hg; simp [gd] at hg; subst hg; simp [Cnd]
 | some p =>
  obtain ⟨j,want⟩:=p
  rw [hgu] at hg
  simp only [gd] at hg
  cases hd:(ops[j]?).bind (·.dst) with
  | none=>rw [hd] at hg; simp at hg
  | some d =>
   rw [hd] at hg
   simp only at hg
   simp only [yielded_eq,hd,Option.bind_some]
   split at hg
   ·rename_i b hl
    have h1:=(h.slots d none (.bool b) hl).1 trivial
    have h2:a.tmps[d]?=some (.bool b):=by
     rcases Nat.lt_or_ge d a.tmps.size with hlt|hge
     ·exact getElem?_getD hlt h1
     ·simp [Array.getElem?_eq_none hge,undef] at h1
    rw [h2]
    cases want<;>simp at hg<;>subst hg<;>simp [Cnd,boolOf]
   ·rename_i c b hl
    obtain ⟨h1,h1'⟩:=h.slots d (some c) (.bool b) hl
    cases c with
    | true =>
     have h1:=h1 rfl
     have h2:a.tmps[d]?=some (.bool b):=by
      rcases Nat.lt_or_ge d a.tmps.size with hlt|hge
      ·exact getElem?_getD hlt h1
      ·simp [Array.getElem?_eq_none hge,undef] at h1
     rw [h2]
     cases want<;>simp at hg<;>subst hg<;>simp [Cnd,boolOf]
    | false =>
     have h1':=h1' (by simp [Cnd])
     have h2: ∀b,a.tmps[d]?≠some (.bool b):=by
      intro b hb
      simp [hb,undef] at h1'
     rw [boolOf_ne h2]
     cases want<;>simp at hg<;>subst hg<;>simp [Cnd]
   ·cases hg
def noDefer:Op→Bool
 | .defer _=>false
 | _=>true
theorem semAt_of {r:Option Nat} {ρ:Operand→Value} {o:Oper} (h:noDefer o.op=true):Oper.semAt r ρ o=execOp ρ o :=
 Oper.semAt_eq r ρ o fun c hc=>by rw [hc] at h; cases h
section
variable {P:Program} {r:Option Nat} {Q:Exit→Act→World→Prop} {N:Nat} {ds:List Deferred}
def TW (P:Program) (r:Option Nat) (Q:Exit→Act→World→Prop) (N:Nat) (ds:List Deferred) (ops rest:List Oper) (E:Env) (w:World):Prop :=
 ∀ a,Fit N ds E a→wpListIn (FR r) 0 P ops.toArray Q rest a w
def CW (P:Program) (r:Option Nat) (Q:Exit→Act→World→Prop) (N:Nat) (ds:List Deferred) (c:Code) (E:Env) (w:World):Prop :=
 ∀ a,Fit N ds E a→c.wpIn (FR r) 0 P Q a w
def KW (N:Nat) (ds:List Deferred) (K:Act→World→Prop) (E:Env) (w:World):Prop:= ∀a,Fit N ds E a→K a w
theorem TW.nil {ops:List Oper} {E:Env} {w:World} (h:KW N ds (Q .normal) E w):TW P r Q N ds ops [] E w:=fun a ha=>h a ha
theorem CW.region {id:Nat} {ops:List Oper} {E:Env} {w:World} (h:TW P r Q N ds ops ops E w):CW P r Q N ds (.region id ops.toArray false) E w :=
 fun a ha=>wpIn_region_lit (h a ha)
theorem CW.seq {x y:Code} {E:Env} {w:World} (h:CW P r (Exit.then (y.wpIn (FR r) 0 P Q) Q) N ds x E w):CW P r Q N ds (.seq x y) E w :=
 fun a ha=>wpIn_seq (h a ha)
theorem CW.block {id:Nat} {c:Code} {E:Env} {w:World} (h:CW P r (Exit.inBlock id Q) N ds c E w):CW P r Q N ds (.block id c) E w :=
 fun a ha=>wpIn_block (h a ha)
theorem CW.skip {E:Env} {w:World} (h:KW N ds (Q .normal) E w):CW P r Q N ds .skip E w:=fun a ha=>wpIn_skip (h a ha)
theorem CW.exit {id:Nat} {E:Env} {w:World} (h:KW N ds (Q (.exit id)) E w):CW P r Q N ds (.exit id) E w:=fun a ha=>wpIn_exit (h a ha)
theorem CW.ret {E:Env} {w:World} (h:KW N ds (Q .ret) E w):CW P r Q N ds .ret E w:=fun a ha=>wpIn_ret (h a ha)
theorem CW.cond {c:Operand} {x y:Code} {b:Bool} {E:Env} {w:World} (hc:ev E c=some (none,.bool b)) (ht:b=true→CW P r Q N ds x E w) (hf:b=false→CW P r Q N ds y E w) :
  CW P r Q N ds (.cond c x y) E w :=
 fun a ha=>wpIn_cond_split (ha.eval hc trivial) (fun h=>ht h a ha) (fun h=>hf h a ha)
def pick (E:Env):List Nat→Option Env
 | []=>some []
 | i::is=>match look E i with
  | none=>none
  | some (c,v)=>match pick E is with
   | none=>none
   | some E'=>some ((i,c,v)::E')
theorem look_pick {E:Env}: ∀ {is:List Nat} {E':Env},pick E is=some E'→ ∀i c v,look E' i=some (c,v)→look E i=some (c,v)
 | [],E',h,i,c,v,hl=>by simp [pick] at h; subst h; simp [look] at hl
 | j::is,E',h,i,c,v,hl=>by
  simp only [pick] at h
  split at h
  ·cases h
  ·rename_i c' v' hj
   split at h
   ·cases h
   ·rename_i E'' hE
    simp only [Option.some.injEq] at h
    subst h
    simp only [look] at hl
    by_cases hi:j=i
    ·subst hi
     have e:Nat.beq j j=true:=beq_self j
     rw [e] at hl
     simp only [Option.some.injEq,Prod.mk.injEq] at hl
     obtain ⟨rfl,rfl⟩:=hl
     exact hj
    ·have e:Nat.beq j i=false:=beq_ne hi
     rw [e] at hl
     exact look_pick hE i c v hl
theorem Fit.pick {E E':Env} {is:List Nat} {a:Act} (h:Fit N ds E a) (hp:PF.pick E is=some E'):Fit N ds E' a :=
 ⟨h.size,h.defers,fun i c v hl=>h.slots i c v (look_pick hp i c v hl)⟩
theorem KW.pick {K:Act→World→Prop} {E:Env} {w:World} (is:List Nat) (E':Env) (hp:PF.pick E is=some E') (h:KW N ds K E' w):KW N ds K E w:=fun a ha=>h a (ha.pick hp)
theorem CW.pick {c:Code} {E:Env} {w:World} (is:List Nat) (E':Env) (hp:PF.pick E is=some E') (h:CW P r Q N ds c E' w):CW P r Q N ds c E w:=fun a ha=>h a (ha.pick hp)
theorem CW.loop {α:Type} {c:Code} {E0:Env} {w:World} (E:α→Env) (J:α→World→Prop) (m:α→Nat) (x0:α) (h0:J x0 w) (hE: ∀a,Fit N ds E0 a→Fit N ds (E x0) a)
  (round: ∀x w,J x w→CW P r (Exit.then (fun a' w'=> ∃x',Fit N ds (E x') a'∧J x' w'∧m x'<m x) Q) N ds c (E x) w):CW P r Q N ds (.loop c) E0 w:=by
 classical
 intro a ha
 let I:Act→World→Prop:=fun a w=> ∃x,Fit N ds (E x) a∧J x w
 let M:Act→World→Nat→Prop:=fun a w n=> ∃x,Fit N ds (E x) a∧J x w∧m x=n
 have hex: ∀a w,I a w→ ∃n,M a w n∧ ∀k,M a w k→n≤k:=by
  intro a w ⟨x,h1,h2⟩
  have key: ∀k,(∃j,j≤k∧M a w j)→ ∃n,M a w n∧ ∀k,M a w k→n≤k:=by
   intro k
   induction k with
   | zero =>
    rintro ⟨j,hj,hm⟩
    have:j=0:=by omega
    subst this
    exact ⟨0,hm,fun k _=>Nat.zero_le k⟩
   | succ k ih =>
    rintro ⟨j,hj,hm⟩
    by_cases hk: ∃j,j≤k∧M a w j
    ·exact ih hk
    ·refine ⟨j,hm,fun i hi=> ?_⟩
     rcases Nat.lt_or_ge i j with hlt|hge
     ·exact absurd ⟨i,by omega,hi⟩ hk
     ·exact hge
  exact key (m x) ⟨m x,Nat.le_refl _,x,h1,h2,rfl⟩
 let μ:Act→World→Nat:=fun a w=>if h:I a w then Classical.choose (hex a w h) else 0
 have hμ: ∀a w,I a w→ ∃x,Fit N ds (E x) a∧J x w∧m x=μ a w:=by
  intro a w h
  have:=(Classical.choose_spec (hex a w h)).1
  simpa [μ,h] using this
 have hμle: ∀a w x,Fit N ds (E x) a→J x w→μ a w≤m x:=by
  intro a w x h1 h2
  have hI:I a w:=⟨x,h1,h2⟩
  have:=(Classical.choose_spec (hex a w hI)).2 (m x) ⟨x,h1,h2,rfl⟩
  simpa [μ,hI] using this
 refine wpIn_loop I μ ⟨x0,hE a ha,h0⟩ fun a1 w1 hI=> ?_
 obtain ⟨x,h1,h2,h3⟩:=hμ a1 w1 hI
 refine wpIn_mono (round x w1 h2 a1 h1) fun e a2 w2 hq=> ?_
 cases e with
 | normal =>
  obtain ⟨x',q1,q2,q3⟩:=hq
  exact ⟨⟨x',q1,q2⟩,by rw [←h3]; exact Nat.lt_of_le_of_lt (hμle a2 w2 x' q1 q2) q3⟩
 | _=>exact hq
end
end Go.PF
namespace Go.PF
open Go.RowKit
theorem ct {G:Option Bool}:Cnd G→Cnd none:=fun _=>trivial
theorem candL {c b:Bool}:Cnd (some (c&&b))→Cnd (some c):=fun h=>by simp only [Cnd,Bool.and_eq_true] at h ⊢; exact h.1
theorem pT {G:Option Bool} {q:Prop}:Cnd G→q→Cnd none:=fun _ _=>trivial
theorem pOr0 {G:Option Bool} {b:Bool}:Cnd G→b=false→Cnd (some (!b)):=fun _ h=>by rw [h]; rfl
theorem pOr1 {c b:Bool}:Cnd (some c)→b=false→Cnd (some (c&& !b)):=fun hc h=>by rw [h]; simpa [Cnd] using hc
theorem pAnd0 {G:Option Bool} {b:Bool}:Cnd G→b=true→Cnd (some b):=fun _ h=>h
theorem pAnd1 {c b:Bool}:Cnd (some c)→b=true→Cnd (some (c&&b)):=fun hc h=>by rw [h]; simpa [Cnd] using hc
def Blk (w:World) (g:Nat) (t:TypeId) (cs:List Value):Prop:=w.heap[g]?=some (.cells cs.toArray t (0,0))
theorem Blk.lt {w:World} {g:Nat} {t:TypeId} {cs:List Value} (h:Blk w g t cs):g<w.heap.size:=(Array.getElem?_eq_some_iff.1 h).1
theorem Blk.cell {w:World} {g:Nat} {t:TypeId} {cs:List Value} (h:Blk w g t cs) (i:Nat):w.cell? ⟨g,i,none⟩=cs[i]?:=by
 unfold Blk at h; simp [World.cell?,h]
theorem Blk.fld {w:World} {g:Nat} {t:TypeId} {cs:List Value} (h:Blk w g t cs) {j:Nat} {v:Value} (hj:cs[j]?=some v):w.cell? (Addr.add ⟨g,0,none⟩ j)=some v:=by
 have e:Addr.add ⟨g,0,none⟩ j=⟨g,j,none⟩:=by unfold Addr.add; split<;>simp_all
 rw [e,h.cell,hj]
theorem Blk.frozen {w:World} {g:Nat} {t:TypeId} {cs:List Value} (h:Blk w g t cs) (i:Nat):w.frozen? ⟨g,i,none⟩=false:=by
 unfold Blk at h; simp [World.frozen?,h]
theorem Blk.below {w w':World} {B g:Nat} {t:TypeId} {cs:List Value} (h:Blk w g t cs) (hb:Below B w w') (hg:g<B):Blk w' g t cs:=(hb.block g hg).trans h
theorem Blk.next {w w':World} {g:Nat} {t:TypeId} {cs:List Value} (h:Blk w g t cs) (hb:Below w.heap.size w w'):Blk w' g t cs:=h.below hb h.lt
theorem Blk.new (w:World) (t:TypeId) (cs:List Value):Blk (w.alloc (.cells cs.toArray t)) w.heap.size t cs:=heap_alloc_new w _
theorem Blk.set {w:World} {g:Nat} {t:TypeId} {cs:List Value} (h:Blk w g t cs) (i:Nat) (u:Value):Blk (w.setCell ⟨g,i,none⟩ u) g t (cs.set i u):=by
 unfold Blk at h ⊢
 simp [World.setCell,Array.getElem?_modify,h]
theorem Blk.far {w:World} {g:Nat} {t:TypeId} {cs:List Value} (h:Blk w g t cs) {p:Addr} (hp:g≠p.block) (u:Value):Blk (w.setCell p u) g t cs:=(Below.heap_setCell w p u g hp).trans h
structure Fresh (w w':World) (g:Nat) (t:TypeId) (cs:List Value):Prop where
 at_:g=w.heap.size
 size:w'.heap.size=g+1
 below:Below w.heap.size w w'
 blk:Blk w' g t cs
theorem Fresh.mk' (w:World) (t:TypeId) (cs:List Value):Fresh w (w.alloc (.cells cs.toArray t)) w.heap.size t cs :=
 ⟨rfl,by simp,(Below.refl _ _).alloc (Nat.le_refl _) _,Blk.new w t cs⟩
theorem below_alloc (w:World) (o:Obj):Below w.heap.size w (w.alloc o):=(Below.refl _ _).alloc (Nat.le_refl _) o
theorem _root_.Go.RowKit.Below.step {w0 w w':World} (h:Below w0.heap.size w0 w) (h':Below w.heap.size w w'):Below w0.heap.size w0 w':=h.trans (h'.mono h.size)
section
variable {P:Program} {r:Option Nat} {Q:Exit→Act→World→Prop} {N:Nat} {ds:List Deferred} {ops rest:List Oper} {E:Env} {w:World} {G:Option Bool}
variable {d:Option Tmp} {ty:TypeId} {pos:String} {af:Array Edge} {gu:Option (Nat×Bool)}
theorem TW.val {o:Oper} {v:Value} (hg:gd ops E o.guard=some G) (hd:okDst N o.dst=true) (hn:noDefer o.op=true)
  (hrun:Cnd G→ ∀a,Fit N ds E a→(execOp a.eval o).run P w= .ok (.value v) w) (next:TW P r Q N ds ops rest (ins E o.dst G v) w):TW P r Q N ds ops (o::rest) E w:=by
 intro a ha
 obtain ⟨h1,h2⟩:=wanted_of ha hg
 unfold wpListIn
 by_cases hc:Cnd G
 ·rw [if_pos (h1 hc)]
  refine ⟨fun _ _=>trivial,?_⟩
  rw [semAt_of hn,hrun hc a ha]
  exact next _ (ha.put hd (fun _=>rfl) (fun h=>absurd hc h))
 ·rw [if_neg (by rw [h2 hc]; simp)]
  exact ⟨fun _ _=>trivial,next _ (ha.put hd (fun h=>absurd h hc) (fun _=>rfl))⟩
theorem TW.eff {o:Oper} {v:Value} {w':World} (hg:o.guard=none) (hd:okDst N o.dst=true) (hn:noDefer o.op=true)
  (hrun: ∀a,Fit N ds E a→(execOp a.eval o).run P w= .ok (.value v) w') (next:TW P r Q N ds ops rest (ins E o.dst none v) w'):TW P r Q N ds ops (o::rest) E w:=by
 intro a ha
 unfold wpListIn
 rw [if_pos (by simp [Region.wanted,hg])]
 refine ⟨fun _ _=>trivial,?_⟩
 rw [semAt_of hn,hrun a ha]
 exact next _ (ha.put hd (fun _=>rfl) (fun h=>absurd trivial h))
theorem TW.eff0 {o:Oper} {w':World} (hg:o.guard=none) (hd:o.dst=none) (hn:noDefer o.op=true)
  (hrun: ∀a,Fit N ds E a→(execOp a.eval o).run P w= .ok .skip w') (next:TW P r Q N ds ops rest E w'):TW P r Q N ds ops (o::rest) E w:=by
 intro a ha
 unfold wpListIn
 rw [if_pos (by simp [Region.wanted,hg])]
 refine ⟨fun _ _=>trivial,?_⟩
 rw [semAt_of hn,hrun a ha]
 have:=next _ ha
 simpa [Oper.uponIn,hd,Act.put] using this
def Gives (P:Program) (f:FuncId) (args:Array Value) (w:World) (R:Value→World→Prop):Prop:=Calls P f args w fun e w'=> ∃v,e= .returned v∧R v w'
theorem Gives.mono {f:FuncId} {args:Array Value} {R R':Value→World→Prop} (h:Gives P f args w R) (hr: ∀v w',R v w'→R' v w'):Gives P f args w R' :=
 Calls.mono h fun _ _ ⟨v,he,hR⟩=>⟨v,he,hr v _ hR⟩
theorem callsIn_of {f:FuncId} {args:Array Value} {w:World} {R:Ending→World→Prop} (h:Calls P f args w R):CallsIn (FR r) 0 P f args w R:=by
 have h1:CallsIn Fence.wide 0 P f args w R:=callsIn_wide.2 h
 cases r with
 | none=>exact h1
 | some l=>exact h1
theorem TW.enter {o:Oper} {f:FuncId} {vs:Array Value} {R:Value→World→Prop} (hg:gd ops E o.guard=some G) (hd:okDst N o.dst=true) (hn:noDefer o.op=true)
  (hrun:Cnd G→ ∀a,Fit N ds E a→(execOp a.eval o).run P w= .ok (.enter f vs) w) (hc:Cnd G→Gives P f vs w R)
  (next: ∀v w',(Cnd G→R v w')→(¬Cnd G→w'=w)→TW P r Q N ds ops rest (ins E o.dst G v) w'):TW P r Q N ds ops (o::rest) E w:=by
 intro a ha
 obtain ⟨h1,h2⟩:=wanted_of ha hg
 unfold wpListIn
 by_cases hcG:Cnd G
 ·rw [if_pos (h1 hcG)]
  refine ⟨fun _ _=>trivial,?_⟩
  rw [semAt_of hn,hrun hcG a ha]
  refine ⟨fun h=>by simp [Fence.wide] at h,?_⟩
  refine CallsIn.mono (callsIn_of (hc hcG)) ?_
  rintro e w' ⟨v,rfl,hR⟩
  exact next v w' (fun _=>hR) (fun h=>absurd hcG h) _ (ha.put hd (fun _=>rfl) (fun h=>absurd hcG h))
 ·rw [if_neg (by rw [h2 hcG]; simp)]
  exact ⟨fun _ _=>trivial,next undef w (fun h=>absurd h hcG) (fun _=>rfl) _ (ha.put hd (fun h=>absurd h hcG) (fun _=>rfl))⟩
theorem run_sizeOf {e:TypeId} {sz:Nat} (hs:(P.info? e).map (·.size)=some sz) (w:World):(sizeOf e).run P w= .ok sz w:=by
 cases hi:P.info? e with
 | none=>simp [hi] at hs
 | some i=>simp [hi] at hs; simp [sizeOf,typeInfo,hi,hs]
def one (P:Program) (t:TypeId):Bool:=match P.underlying t with
 | none|some (.struct _)|some (.array _ _)=>false
 | _=>true
theorem run_loadVar1 {t:TypeId} (h1:one P t=true) {ad:Addr} {v:Value} (hc:w.cell? ad=some v):(loadVar t ad).run P w= .ok v w:=by
 unfold one at h1
 cases hu:P.underlying t with
 | none=>simp [hu] at h1
 | some dsc=>cases dsc<;>first|(simp [hu] at h1; done)|simp [loadVar,isAgg,run_underlying hu,hc]
theorem run_loadVarS {t:TypeId} {fs:Array Field} (hu:P.underlying t=some (.struct fs)) {cs:List Value} (hs:(P.info? t).map (·.size)=some cs.length) {ad:Addr} (hc: ∀j v,cs[j]?=some v→w.cell? (ad.add j)=some v) :
  (loadVar t ad).run P w= .ok (.agg cs.toArray) w:=by
 simp [loadVar,isAgg,run_underlying hu,run_sizeOf hs,run_loadCells_list w ad cs hc]
def zeroCells (P:Program) (t:TypeId):Option (List Value):=((P.info? t).bind (·.zero)).map fun v=>v.cells.toList
def enters (P:Program) (f:FuncId):Bool:=match P.funcs[f]? with
 | some fn=> !(fn.name== "runtime.NumGoroutine")&&fn.body.isSome
 | none=>false
theorem run_enters {f:FuncId} (h:enters P f=true) (args:Array Value) (w:World):(callFunc f args).run P w= .ok (.enter f args) w:=by
 unfold enters at h
 cases hf:P.funcs[f]? with
 | none=>simp [hf] at h
 | some fn =>
  simp only [hf,Bool.and_eq_true,Bool.not_eq_true'] at h
  obtain ⟨h1,h2⟩:=h
  have h3: ¬fn.body=none:=by cases hb:fn.body<;>simp_all
  have h4: ¬fn.name= "runtime.NumGoroutine" := by simpa using h1
  simp [callFunc,hf,h4,h3]
end
end Go.PF
namespace Go.PF
open Go.RowKit
def argEnv:List Value→Nat→Env
 | [],_=> []
 | v::vs,i=>(i,none,v)::argEnv vs (i+1)
theorem look_argEnv: ∀(vs:List Value) (k i:Nat) (c:Option Bool) (v:Value),look (argEnv vs k) i=some (c,v)→c=none∧k≤i∧vs[i-k]?=some v
 | [],k,i,c,v,h=>by simp [argEnv,look] at h
 | u::vs,k,i,c,v,h=>by
  simp only [argEnv,look] at h
  by_cases hi:k=i
  ·subst hi
   rw [beq_self] at h
   simp only [Option.some.injEq,Prod.mk.injEq] at h
   obtain ⟨rfl,rfl⟩:=h
   simp
  ·rw [beq_ne hi] at h
   obtain ⟨h1,h2,h3⟩:=look_argEnv vs (k+1) i c v h
   refine ⟨h1,by omega,?_⟩
   have:i-k=(i-(k+1))+1:=by omega
   rw [this]; simpa using h3
section
variable {P:Program} {r:Option Nat} {Q:Exit→Act→World→Prop} {N:Nat} {ds:List Deferred} {E:Env} {w:World}
theorem fit_args {vs:List Value} (hle:vs.length≤N):Fit N [] (argEnv vs 0) {tmps:=vs.toArray++Array.replicate (N-vs.toArray.size) undef,defers:= []}:=by
 refine ⟨by simp; omega,rfl,fun i c v h=> ?_⟩
 obtain ⟨rfl,_,h3⟩:=look_argEnv vs 0 i c v h
 refine ⟨fun _=> ?_,fun h=>absurd trivial h⟩
 have hlt:i<vs.length:=by
  rcases Nat.lt_or_ge i vs.length with h|h
  ·exact h
  ·simp [List.getElem?_eq_none h] at h3
 simp only [Nat.sub_zero] at h3
 rw [List.getElem?_eq_getElem hlt] at h3
 simp only [Option.some.injEq] at h3
 simp [Array.getElem?_append,hlt,h3]
theorem gives_of {f:FuncId} {fn:Func} {c:Code} {vs:List Value} {R:Value→World→Prop} (E0:Env) (hf:P.funcs[f]?=some fn) (hb:fn.body=some c) (hn:fn.ntmps=N) (hle:Nat.ble vs.length N=true) (hE:argEnv vs 0=E0)
  (h:CW P none (bodyPost P fn fun e w'=> ∃v,e= .returned v∧R v w') N [] c E0 w):Gives P f vs.toArray w R:=by
 unfold Gives
 have hle':vs.length≤N:=Nat.le_of_ble_eq_true hle
 refine (callsIn_wide (n:=0)).1 (callsIn_of_wp hf hb trivial ?_)
 rw [hn]
 exact h _ (hE ▸ fit_args hle')
theorem gives_ofM {f:FuncId} {fn:Func} {c:Code} {vs:List Value} {R:Value→World→Prop} (E0:Env) (hf:P.funcs[f]?=some fn) (hb:fn.body=some c) (hn:fn.ntmps=N) (hle:Nat.ble vs.length N=true) (hE:argEnv vs 0=E0)
  (h:CW P none (bodyPostM (FR none) 0 P fn fun e w'=> ∃v,e= .returned v∧R v w') N [] c E0 w):Gives P f vs.toArray w R:=by
 unfold Gives
 have hle':vs.length≤N:=Nat.le_of_ble_eq_true hle
 refine (callsIn_wide (n:=0)).1 (callsIn_of_wp_marks hf hb trivial ?_)
 rw [hn]
 exact h _ (hE ▸ fit_args hle')
theorem KW.then_ {y:Code} (h:CW P r Q N ds y E w):KW N ds (Exit.then (y.wpIn (FR r) 0 P Q) Q .normal) E w:=h
theorem KW.thenX {K:Act→World→Prop} {id:Nat} (h:KW N ds (Q (.exit id)) E w):KW N ds (Exit.then K Q (.exit id)) E w:=h
theorem KW.thenR {K:Act→World→Prop} (h:KW N ds (Q .ret) E w):KW N ds (Exit.then K Q .ret) E w:=h
theorem KW.blockN {id:Nat} (h:KW N ds (Q .normal) E w):KW N ds (Exit.inBlock id Q .normal) E w:=h
theorem KW.blockR {id:Nat} (h:KW N ds (Q .ret) E w):KW N ds (Exit.inBlock id Q .ret) E w:=h
theorem KW.blockX {id:Nat} (h:KW N ds (Q .normal) E w):KW N ds (Exit.inBlock id Q (.exit id)) E w:=fun a ha=>by
 simp only [Exit.inBlock,if_true]; exact h a ha
theorem KW.blockY {id id':Nat} (hne:Nat.beq id' id=false) (h:KW N ds (Q (.exit id')) E w):KW N ds (Exit.inBlock id Q (.exit id')) E w:=fun a ha=>by
 have:id'≠id:=fun e=>by rw [e,beq_self] at hne; cases hne
 simp only [Exit.inBlock,if_neg this]; exact h a ha
theorem KW.round {α:Type} {F:α→Env} {J:α→World→Prop} {m:α→Nat} {x:α} (x':α) (is:List Nat) (hp:PF.pick E is=some (F x')) (hJ:J x' w) (hm:m x'<m x) :
  KW N ds (Exit.then (fun a' w'=> ∃x',Fit N ds (F x') a'∧J x' w'∧m x'<m x) Q .normal) E w :=
 fun _ ha=>⟨x',ha.pick hp,hJ,hm⟩
theorem CW.loopS {α:Type} {c:Code} (F:α→Env) (J:α→World→Prop) (m:α→Nat) (x0:α) (is:List Nat) (h0:J x0 w) (hE:PF.pick E is=some (F x0))
  (round: ∀x w,J x w→CW P r (Exit.then (fun a' w'=> ∃x',Fit N ds (F x') a'∧J x' w'∧m x'<m x) Q) N ds c (F x) w):CW P r Q N ds (.loop c) E w :=
 CW.loop F J m x0 h0 (fun _ ha=>ha.pick hE) round
theorem CW.condP {c:Operand} {x y:Code} {p:Prop} [Decidable p] (hc:ev E c=some (none,.bool (decide p))) (ht:p→CW P r Q N ds x E w) (hf: ¬p→CW P r Q N ds y E w):CW P r Q N ds (.cond c x y) E w :=
 CW.cond hc (fun h=>ht (of_decide_eq_true h)) (fun h=>hf (of_decide_eq_false h))
variable {fn:Func} {R:Value→World→Prop}
theorem ret0 (hres:fn.results= #[]) (hR:R (.tuple #[]) w):KW N [] (bodyPost P fn (fun e w'=> ∃v,e= .returned v∧R v w') .ret) E w:=fun _ ha =>
 bodyPost_ret (results_none hres _ _ _) ha.defers ⟨_,rfl,hR⟩
theorem end0 (hres:fn.results= #[]) (hR:R (.tuple #[]) w):KW N [] (bodyPost P fn (fun e w'=> ∃v,e= .returned v∧R v w') .normal) E w:=fun a ha =>
 (bodyPost_ret (R:=fun e w'=> ∃v,e= .returned v∧R v w') (results_none hres a.tmps P w) ha.defers ⟨_,rfl,hR⟩:bodyPost P fn _ .ret a w)
theorem ret1 {s:Nat} {v:Value} (hres:fn.results= #[.tmp s]) (hs:look E s=some (none,v)) (hR:R v w):KW N [] (bodyPost P fn (fun e w'=> ∃v,e= .returned v∧R v w') .ret) E w:=fun a ha =>
 bodyPost_ret (R:=fun e w'=> ∃v,e= .returned v∧R v w') (results_tmp hres a.tmps P w) ha.defers ⟨_,rfl,by rw [(ha.slots s none v hs).1 trivial]; exact hR⟩
theorem ret2 {s t:Nat} {v u:Value} (hres:fn.results= #[.tmp s,.tmp t]) (hs:look E s=some (none,v)) (ht:look E t=some (none,u)) (hR:R (.tuple #[v,u]) w) :
  KW N [] (bodyPost P fn (fun e w'=> ∃v,e= .returned v∧R v w') .ret) E w:=fun a ha =>
 bodyPost_ret (R:=fun e w'=> ∃v,e= .returned v∧R v w') (results_tmp2 hres a.tmps P w) ha.defers ⟨_,rfl,by rw [(ha.slots s none v hs).1 trivial,(ha.slots t none u ht).1 trivial]; exact hR⟩
end
end Go.PF
namespace Go.PF
open Go.RowKit
inductive Ent where
 | ex (v:Value)
 | pr (φ:Value→World→Prop)
 | own (φ:Value→World→Prop) (S:Value→Nat→Prop)
def Ent.sat:Ent→Value→World→Prop
 | .ex v,u,_=>u=v
 | .pr φ,u,w=>φ u w
 | .own φ _,u,w=>φ u w
def Ent.mono:Ent→Prop
 | .ex _=>True
 | .pr φ=> ∀v w w',Below w.heap.size w w'→φ v w→φ v w'
 | .own φ _=> ∀v w w',Below w.heap.size w w'→φ v w→φ v w'
def Ent.foot:Ent→Value→Nat→Prop
 | .own _ S,v,g=>S v g
 | _,_,_=>False
def Ent.strong (w0:World):Ent→Prop
 | .ex _=>True
 | .pr φ=> ∀v w w',Below w0.heap.size w w'→φ v w→φ v w'
 | .own φ S=>(∀v w w',Below w0.heap.size w w'→(∀g,S v g→w'.heap[g]?=w.heap[g]?)→φ v w→φ v w')∧ ∀v w,φ v w→ ∀g,S v g→w0.heap.size≤g∧g<w.heap.size
inductive Mode where
 | weak
 | own
 | cnt
theorem Ent.sat_mono {e:Ent} (hm:e.mono) {v:Value} {w w':World} (hb:Below w.heap.size w w') (h:e.sat v w):e.sat v w':=by
 cases e with
 | ex u=>exact h
 | pr φ=>exact hm v w w' hb h
 | own φ S=>exact hm v w w' hb h
abbrev DE:=List (Nat×Option Bool×Ent)
def dlook:DE→Nat→Option (Option Bool×Ent)
 | [],_=>none
 | (j,c,e)::D,i=>match Nat.beq j i with
  | true=>some (c,e)
  | false=>dlook D i
def dins (D:DE) (d:Option Tmp) (c:Option Bool) (e:Ent):DE :=
 match d with
 | none=>D
 | some d=>(d,c,e)::D
def slotOK (c:Option Bool) (e:Ent) (u:Value) (w:World):Prop:=(Cnd c→e.sat u w)∧(¬Cnd c→u=undef)
structure FitL (N:Nat) (ds:List Deferred) (L:List Nat) (D:DE) (a:Act) (w:World):Prop where
 size:a.tmps.size=N
 defers:a.defers=ds
 slots: ∀i∈L,∀c e,dlook D i=some (c,e)→slotOK c e (a.tmps.getD i undef) w
structure FitD (N:Nat) (ds:List Deferred) (D:DE) (a:Act) (w:World):Prop where
 size:a.tmps.size=N
 defers:a.defers=ds
 slots: ∀i c e,dlook D i=some (c,e)→slotOK c e (a.tmps.getD i undef) w
def dgd (ops:List Oper) (D:DE):Option (Nat×Bool)→Option (Option Bool)
 | none=>some none
 | some (j,want)=>match (ops[j]?).bind (·.dst) with
  | none=>none
  | some d=>match dlook D d with
   | some (none,.ex (.bool b))=>match want with
    | true=>some (some b)
    | false=>some (some (!b))
   | some (some c,.ex (.bool b))=>match want with
    | true=>some (some (c&&b))
    | false=>some (some (c&& !b))
   | _=>none
def guardDst (ops:List Oper) (o:Oper):Option Nat:=match o.guard with
 | some (g,_)=>(ops[g]?).bind (·.dst)
 | none=>none
theorem dwanted_of {N:Nat} {ds:List Deferred} {L:List Nat} {D:DE} {a:Act} {w:World} {ops:List Oper} {o:Oper} {G:Option Bool} (h:FitL N ds L D a w) (hL: ∀d,guardDst ops o=some d→d∈L) (hg:dgd ops D o.guard=some G) :
  (Cnd G→Region.wanted o (yielded ops.toArray a.tmps)=true)∧(¬Cnd G→Region.wanted o (yielded ops.toArray a.tmps)=false):=by
 unfold guardDst at hL
 unfold Region.wanted
 cases hgu:o.guard with
 | none=>rw [hgu] at hg; simp [dgd] at hg; subst hg; simp [Cnd]
 | some p =>
  obtain ⟨j,want⟩:=p
  rw [hgu] at hg hL
  simp only [dgd] at hg
  cases hd:(ops[j]?).bind (·.dst) with
  | none=>rw [hd] at hg; simp at hg
  | some d =>
   rw [hd] at hg
   have hdL:d∈L:=hL d (by simpa using hd)
   simp only at hg
   simp only [yielded_eq,hd,Option.bind_some]
   split at hg
   ·rename_i b hl
    have h1:a.tmps.getD d undef= .bool b:=(h.slots d hdL none (.ex (.bool b)) hl).1 trivial
    have h2:a.tmps[d]?=some (.bool b):=by
     rcases Nat.lt_or_ge d a.tmps.size with hlt|hge
     ·exact getElem?_getD hlt h1
     ·simp [Array.getElem?_eq_none hge,undef] at h1
    rw [h2]
    cases want<;>simp at hg<;>subst hg<;>simp [Cnd,boolOf]
   ·rename_i c b hl
    obtain ⟨h1,h1'⟩:=h.slots d hdL (some c) (.ex (.bool b)) hl
    cases c with
    | true =>
     have h1:a.tmps.getD d undef= .bool b:=h1 rfl
     have h2:a.tmps[d]?=some (.bool b):=by
      rcases Nat.lt_or_ge d a.tmps.size with hlt|hge
      ·exact getElem?_getD hlt h1
      ·simp [Array.getElem?_eq_none hge,undef] at h1
     rw [h2]
     cases want<;>simp at hg<;>subst hg<;>simp [Cnd,boolOf]
    | false =>
     have h1':=h1' (by simp [Cnd])
     have h2: ∀b,a.tmps[d]?≠some (.bool b):=by
      intro b hb
      simp [hb,undef] at h1'
     rw [boolOf_ne h2]
     cases want<;>simp at hg<;>subst hg<;>simp [Cnd]
   ·cases hg
def OpGives (P:Program) (o:Oper) (a:Act) (w:World) (e:Ent):Prop :=
 (∃v w',(execOp a.eval o).run P w= .ok (.value v) w'∧Below w.heap.size w w'∧e.sat v w') ∨
 (∃f vs,(execOp a.eval o).run P w= .ok (.enter f vs) w∧Gives P f vs w fun v w'=>Below w.heap.size w w'∧e.sat v w')
def DOne (P:Program) (N:Nat) (ds:List Deferred) (ops:List Oper) (w0:World) (o:Oper) (D:DE) (G:Option Bool) (e:Ent):Prop :=
 dgd ops D o.guard=some G∧okDst N o.dst=true∧noDefer o.op=true∧e.mono ∧
 (Cnd G→ ∀a w,Below w0.heap.size w0 w→FitL N ds (o.looksAt ops.toArray) D a w→OpGives P o a w e)
def hasN:List Nat→Nat→Bool
 | [],_=>false
 | j::s,i=>match Nat.beq j i with
  | true=>true
  | false=>hasN s i
def ddrop:DE→List Nat→DE
 | [],_=> []
 | (j,c,e)::D,s=>match hasN s j with
  | true=>ddrop D s
  | false=>(j,c,e)::ddrop D s
def EatF (D:DE) (eats:List Nat) (a:Act) (g:Nat):Prop:= ∃s c e,hasN eats s=true∧dlook D s=some (c,e)∧Cnd c∧e.foot (a.tmps.getD s undef) g
def StepO (w0 w w':World) (E:Nat→Prop):Prop:=Below w0.heap.size w w'∧ ∀b,w0.heap.size≤b→b<w.heap.size→ ¬E b→w'.heap[b]?=w.heap[b]?
def OpGivesO (P:Program) (w0:World) (o:Oper) (a:Act) (w:World) (e:Ent) (E:Nat→Prop):Prop :=
 (∃v w',(execOp a.eval o).run P w= .ok (.value v) w'∧StepO w0 w w' E∧e.sat v w'∧ ∀g,e.foot v g→E g∨w.heap.size≤g) ∨
 (∃f vs,(execOp a.eval o).run P w= .ok (.enter f vs) w∧Gives P f vs w fun v w'=>StepO w0 w w' E∧e.sat v w'∧ ∀g,e.foot v g→E g∨w.heap.size≤g)
def sole (ops:List Oper) (o:Oper) (eats:List Nat):Bool:=eats.all fun s=>(o.looksAt ops.toArray).contains s&&Nat.ble (ops.filter fun p=>(p.looksAt ops.toArray).contains s).length 1
def DOneO (P:Program) (N:Nat) (ds:List Deferred) (ops:List Oper) (w0:World) (o:Oper) (D:DE) (G:Option Bool) (e:Ent) (eats:List Nat):Prop :=
 dgd ops D o.guard=some G∧okDst N o.dst=true∧noDefer o.op=true∧e.strong w0∧sole ops o eats=true∧(∀s,s∈eats→ ∃c φ S,dlook D s=some (c,.own φ S)) ∧
 (Cnd G→ ∀a w,Below w0.heap.size w0 w→FitL N ds (o.looksAt ops.toArray) D a w→OpGivesO P w0 o a w e (EatF D eats a))
def OpGivesC (P:Program) (o:Oper) (a:Act) (w:World) (e:Ent):Prop :=
 (∃v w',(execOp a.eval o).run P w= .ok (.value v) w'∧(Below w.heap.size w w'∧w.drawn≤w'.drawn)∧e.sat v w') ∨
 (∃f vs,(execOp a.eval o).run P w= .ok (.enter f vs) w∧Gives P f vs w fun v w'=>(Below w.heap.size w w'∧w.drawn≤w'.drawn)∧e.sat v w')
def DOneC (P:Program) (N:Nat) (ds:List Deferred) (ops:List Oper) (w0:World) (o:Oper) (D:DE) (G:Option Bool) (e:Ent):Prop :=
 dgd ops D o.guard=some G∧okDst N o.dst=true∧noDefer o.op=true∧e.mono ∧
 (Cnd G→ ∀a w,Below w0.heap.size w0 w→FitL N ds (o.looksAt ops.toArray) D a w→OpGivesC P o a w e)
def DW (P:Program) (N:Nat) (ds:List Deferred) (m:Mode) (ops:List Oper) (w0:World) (Fin:DE→Prop):List Oper→DE→Prop
 | [],D=>Fin D
 | o::rest,D=>match m with
  | .weak=> ∃G e,DOne P N ds ops w0 o D G e∧DW P N ds .weak ops w0 Fin rest (dins D o.dst G e)
  | .own=> ∃G e eats,DOneO P N ds ops w0 o D G e eats∧DW P N ds .own ops w0 Fin rest (dins (ddrop D eats) o.dst G e)
  | .cnt=> ∃G e,DOneC P N ds ops w0 o D G e∧DW P N ds .cnt ops w0 Fin rest (dins D o.dst G e)
theorem ddrop_nil: ∀D:DE,ddrop D []=D
 | []=>rfl
 | (j,c,e)::D=>by simp [ddrop,hasN,ddrop_nil D]
def lexOK (ops:List Oper):Bool :=
 ops.zipIdx.all fun (o,i) =>
  (o.after.all fun e=> !Region.binds .any e||Nat.blt e.on i) &&
  ops.zipIdx.all fun (p,k)=>match p.dst with
   | none=>true
   | some d=>(Nat.beq k i||o.dst !=some d) &&
    (!(o.looksAt ops.toArray).contains d ||
     (if Nat.blt k i then o.after.any (fun e=>Region.binds .any e&&Nat.beq e.on k) else (Nat.beq k i||p.after.any (fun e=>Region.binds .any e&&Nat.beq e.on i))))
theorem blt_iff {a b:Nat}:Nat.blt a b=true↔a<b:=by
 unfold Nat.blt
 exact ⟨fun h=>Nat.le_of_ble_eq_true h,fun h=>Nat.ble_eq_true_of_le h⟩
section sound
variable {P:Program} {r:Option Nat} {Q:Exit→Act→World→Prop} {N:Nat} {ds:List Deferred} {ops:List Oper} {w0:World}
theorem lexOK_spec (h:lexOK ops=true) {i k:Nat} {o p:Oper} (ho:ops[i]?=some o) (hp:ops[k]?=some p) :
  (∀e∈o.after,Region.binds .any e=true→e.on<i)∧ ∀d,p.dst=some d→(k=i∨o.dst≠some d) ∧
   (d∈o.looksAt ops.toArray→(k<i→ ∃e∈o.after,Region.binds .any e=true∧e.on=k)∧(i≤k→k=i∨ ∃e∈p.after,Region.binds .any e=true∧e.on=i)):=by
 unfold lexOK at h
 rw [List.all_eq_true] at h
 have h1:=h (o,i) (by rw [List.mem_zipIdx_iff_getElem?]; simpa using ho)
 simp only [Bool.and_eq_true,List.all_eq_true] at h1
 obtain ⟨h1,h2⟩:=h1
 refine ⟨fun e he hbi=> ?_,fun d hd=> ?_⟩
 ·rw [Array.all_eq_true'] at h1
  have:=h1 e he
  rw [hbi] at this
  exact blt_iff.1 (by simpa using this)
 ·have h3:=h2 (p,k) (by rw [List.mem_zipIdx_iff_getElem?]; simpa using hp)
  simp only [hd,Bool.and_eq_true,Bool.or_eq_true] at h3
  obtain ⟨h3,h4⟩:=h3
  refine ⟨?_,fun hm=> ?_⟩
  ·rcases h3 with h3|h3
   ·exact .inl (Nat.eq_of_beq_eq_true h3)
   ·right; simpa using h3
  ·rcases h4 with h4|h4
   ·simp at h4; exact absurd hm h4
   ·refine ⟨fun hlt=> ?_,fun hge=> ?_⟩
    ·have hb:Nat.blt k i=true:=blt_iff.2 hlt
     rw [hb,if_pos rfl] at h4
     rw [Array.any_eq_true'] at h4
     obtain ⟨e,he,h5⟩:=h4
     simp only [Bool.and_eq_true] at h5
     exact ⟨e,he,h5.1,Nat.eq_of_beq_eq_true h5.2⟩
    ·have hb:Nat.blt k i=false:=by
      cases hq:Nat.blt k i with
      | false=>rfl
      | true=>exact absurd (blt_iff.1 hq) (by omega)
     rw [hb] at h4
     simp only [Bool.false_eq_true,if_false,Bool.or_eq_true] at h4
     rcases h4 with h4|h4
     ·exact .inl (Nat.eq_of_beq_eq_true h4)
     ·rw [Array.any_eq_true'] at h4
      obtain ⟨e,he,h5⟩:=h4
      simp only [Bool.and_eq_true] at h5
      exact .inr ⟨e,he,h5.1,Nat.eq_of_beq_eq_true h5.2⟩
theorem looks_guard {o:Oper} {d:Nat} (h:guardDst ops o=some d):d∈o.looksAt ops.toArray:=by
 unfold guardDst at h
 unfold Oper.looksAt
 cases hg:o.guard with
 | none=>rw [hg] at h; cases h
 | some p =>
  obtain ⟨g,b⟩:=p
  rw [hg] at h
  simp only [List.mem_append]
  right
  simp only [List.getElem?_toArray]
  simp at h ⊢
  exact h
def lift:Env→DE
 | []=> []
 | (i,c,v)::E=>(i,c,.ex v)::lift E
theorem dlook_lift: ∀(E:Env) (i:Nat),dlook (lift E) i=(look E i).map fun p=>(p.1,Ent.ex p.2)
 | [],i=>rfl
 | (j,c,v)::E,i=>by
  simp only [lift,dlook,look]
  cases Nat.beq j i with
  | true=>rfl
  | false=>exact dlook_lift E i
end sound
section steps
variable {P:Program} {N:Nat} {ds:List Deferred} {ops rest:List Oper} {w:World} {D:DE} {G:Option Bool} {Fin:DE→Prop}
def dev (D:DE):Operand→Option (Option Bool×Ent)
 | .tmp t=>dlook D t
 | .const v=>some (none,.ex v)
 | .global g=>some (none,.ex (.pointer (some ⟨g,0,none⟩)))
 | .func f=>some (none,.ex (.func (.func f) #[] #[]))
theorem mem_looks {o:Oper} {t:Nat} (h:Operand.tmp t∈o.op.operands.toList):t∈o.looksAt ops.toArray:=by
 unfold Oper.looksAt
 rw [List.mem_append]
 left
 rw [List.mem_filterMap]
 exact ⟨.tmp t,h,rfl⟩
theorem FitL.sat {L:List Nat} {a:Act} (h:FitL N ds L D a w) {x:Operand} {c:Option Bool} {e:Ent} (hx:dev D x=some (c,e)) (hL: ∀t,x= .tmp t→t∈L) (hc:Cnd c):e.sat (a.eval x) w:=by
 cases x with
 | tmp t=>exact (h.slots t (hL t rfl) c e hx).1 hc
 | const u=>simp [dev] at hx; rw [←hx.2]; rfl
 | global g=>simp [dev] at hx; rw [←hx.2]; rfl
 | func f=>simp [dev] at hx; rw [←hx.2]; rfl
theorem FitL.evalL {L:List Nat} {a:Act} (h:FitL N ds L D a w) {x:Operand} {c:Option Bool} {v:Value} (hx:dev D x=some (c,.ex v)) (hL: ∀t,x= .tmp t→t∈L) (hc:Cnd c):a.eval x=v:=h.sat hx hL hc
theorem FitL.eval {o:Oper} {a:Act} (h:FitL N ds (o.looksAt ops.toArray) D a w) {x:Operand} {c:Option Bool} {v:Value} (hx:dev D x=some (c,.ex v)) (hm:x∈o.op.operands.toList) (hc:Cnd c):a.eval x=v :=
 h.evalL hx (fun _ ht=>mem_looks (ht ▸ hm)) hc
theorem FitL.evalP {o:Oper} {a:Act} (h:FitL N ds (o.looksAt ops.toArray) D a w) {x:Operand} {c:Option Bool} {φ:Value→World→Prop} (hx:dev D x=some (c,.pr φ)) (hm:x∈o.op.operands.toList) (hc:Cnd c):φ (a.eval x) w :=
 h.sat hx (fun _ ht=>mem_looks (ht ▸ hm)) hc
theorem DW.nil {m:Mode} (h:Fin D):DW P N ds m ops w Fin [] D:=by cases m<;>exact h
theorem DW.val {m:Mode} {o:Oper} {v:Value} (hg:dgd ops D o.guard=some G) (hd:okDst N o.dst=true) (hn:noDefer o.op=true)
  (hrun:Cnd G→ ∀a w',Below w.heap.size w w'→FitL N ds (o.looksAt ops.toArray) D a w'→(execOp a.eval o).run P w'= .ok (.value v) w') (next:DW P N ds m ops w Fin rest (dins D o.dst G (.ex v))):DW P N ds m ops w Fin (o::rest) D:=by
 cases m with
 | weak=>exact ⟨G,.ex v,⟨hg,hd,hn,trivial,fun hG a w' hb ha=> .inl ⟨v,w',hrun hG a w' hb ha,Below.refl _ _,rfl⟩⟩,next⟩
 | own=>exact ⟨G,.ex v,[],⟨hg,hd,hn,trivial,rfl,fun s hs=>by simp at hs,fun hG a w' hb ha=> .inl ⟨v,w',hrun hG a w' hb ha,⟨Below.refl _ _,fun _ _ _ _=>rfl⟩,rfl,fun _ h=>h.elim⟩⟩,by rw [ddrop_nil]; exact next⟩
 | cnt=>exact ⟨G,.ex v,⟨hg,hd,hn,trivial,fun hG a w' hb ha=> .inl ⟨v,w',hrun hG a w' hb ha,⟨Below.refl _ _,Nat.le_refl _⟩,rfl⟩⟩,next⟩
theorem DW.gen {o:Oper} {e:Ent} (hg:dgd ops D o.guard=some G) (hd:okDst N o.dst=true) (hn:noDefer o.op=true) (hm:e.mono)
  (hrun:Cnd G→ ∀a w',Below w.heap.size w w'→FitL N ds (o.looksAt ops.toArray) D a w'→ ∃v w'',(execOp a.eval o).run P w'= .ok (.value v) w''∧Below w'.heap.size w' w''∧e.sat v w'') (next:DW P N ds .weak ops w Fin rest (dins D o.dst G e)):DW P N ds .weak ops w Fin (o::rest) D :=
 ⟨G,e,⟨hg,hd,hn,hm,fun hG a w' hb ha=> .inl (hrun hG a w' hb ha)⟩,next⟩
theorem DW.enter {o:Oper} {e:Ent} (hg:dgd ops D o.guard=some G) (hd:okDst N o.dst=true) (hn:noDefer o.op=true) (hm:e.mono)
  (hrun:Cnd G→ ∀a w',Below w.heap.size w w'→FitL N ds (o.looksAt ops.toArray) D a w'→ ∃f vs,(execOp a.eval o).run P w'= .ok (.enter f vs) w'∧Gives P f vs w' fun v w''=>Below w'.heap.size w' w''∧e.sat v w'') (next:DW P N ds .weak ops w Fin rest (dins D o.dst G e)):DW P N ds .weak ops w Fin (o::rest) D :=
 ⟨G,e,⟨hg,hd,hn,hm,fun hG a w' hb ha=> .inr (hrun hG a w' hb ha)⟩,next⟩
def dpick (D:DE):List Nat→Option Env
 | []=>some []
 | i::is=>match dlook D i with
  | some (c,.ex v)=>match dpick D is with
   | some E=>some ((i,c,v)::E)
   | none=>none
  | _=>none
theorem look_dpick {D:DE}: ∀ {is:List Nat} {E:Env},dpick D is=some E→ ∀i c v,look E i=some (c,v)→dlook D i=some (c,.ex v)
 | [],E,h,i,c,v,hl=>by simp [dpick] at h; subst h; simp [look] at hl
 | j::is,E,h,i,c,v,hl=>by
  simp only [dpick] at h
  split at h
  ·rename_i c' v' hj
   split at h
   ·rename_i E' hE
    simp only [Option.some.injEq] at h
    subst h
    simp only [look] at hl
    by_cases hi:j=i
    ·subst hi
     rw [beq_self] at hl
     simp only [Option.some.injEq,Prod.mk.injEq] at hl
     obtain ⟨rfl,rfl⟩:=hl
     exact hj
    ·rw [beq_ne hi] at hl
     exact look_dpick hE i c v hl
   ·cases h
  ·cases h
theorem FitD.pick {E:Env} {is:List Nat} {a:Act} (h:FitD N ds D a w) (hp:dpick D is=some E):Fit N ds E a :=
 ⟨h.size,h.defers,fun i c v hl=>h.slots i c (.ex v) (look_dpick hp i c v hl)⟩
theorem DW.fin {K:Act→World→Prop} (is:List Nat) (E:Env) (hp:dpick D is=some E) (h: ∀w',Below w.heap.size w w'→KW N ds K E w'): ∀a w',Below w.heap.size w w'→FitD N ds D a w'→K a w' :=
 fun a w' hb ha=>h w' hb a (ha.pick hp)
end steps
end Go.PF
namespace Go.PF
open Go.RowKit
theorem wrap_fits {z:Int} (h: -9223372036854775808≤z∧z≤9223372036854775807):IntKind.i64.wrap z=z:=by
 rw [IntKind.wrap_i64]; omega
theorem setRow_new (w:World) (zs cs:Array Value) (t:TypeId):(w.alloc (.cells zs t)).setRow w.heap.size cs=w.alloc (.cells cs t):=by
 have h3:((w.alloc (.cells zs t)).setRow w.heap.size cs).heap=w.heap.push (.cells cs t):=by
  unfold World.setRow
  have e:(w.alloc (.cells zs t)).heap=w.heap.push (.cells zs t):=rfl
  simp only [e]
  apply Array.ext
  ·simp
  ·intro i h1 h2
   simp only [Array.getElem_modify]
   by_cases hi:w.heap.size=i
   ·subst hi; simp
   ·have:i<w.heap.size:=by simp at h1; omega
    simp [hi,Array.getElem_push_lt this]
 have h4:(w.alloc (.cells zs t)).setRow w.heap.size cs= {w with heap:=((w.alloc (.cells zs t)).setRow w.heap.size cs).heap}:=rfl
 rw [h4,h3]
 rfl
section
variable {P:Program} {r:Option Nat} {Q:Exit→Act→World→Prop} {N:Nat} {ds:List Deferred} {ops rest:List Oper} {E:Env} {D:DE} {w:World} {G:Option Bool} {Fin:DE→Prop} {md:Mode}
variable {d:Option Tmp} {ty:TypeId} {pos:String} {af:Array Edge} {gu:Option (Nat×Bool)}
variable {x y z:Operand} {cx cy cz:Option Bool} {ρ:Operand→Value}
def fieldOff (P:Program) (t:TypeId) (fi:Nat):Option Nat:=match P.underlying t with
 | some (.struct fs)=>match fs[fi]? with
  | some f=>match (P.info? f.type).map (·.size) with
   | some (_+1)=>some f.offset
   | _=>none
  | none=>none
 | _=>none
theorem run_fieldAt {t:TypeId} {fi off:Nat} {ad:Addr} (hf:fieldOff P t fi=some off):(do let v←Instr.fieldAt t (.pointer (some ad)) fi; pure (Next.value v):Sem Next).run P w= .ok (.value (.pointer (some (ad.add off)))) w:=by
 unfold fieldOff at hf
 split at hf
 ·rename_i fs hu
  split at hf
  ·rename_i f hfi
   split at hf
   ·rename_i sz hs
    simp only [Option.some.injEq] at hf
    subst hf
    simp [Instr.fieldAt,run_underlying hu,hfi,Instr.sureAddr,fieldPlace,run_sizeOf hs]
   ·cases hf
  ·cases hf
 ·cases hf
def fieldOf (P:Program) (t:TypeId) (fi:Nat) (cs:Array Value):Option Value:=match P.underlying t with
 | some (.struct fs)=>match fs[fi]? with
  | some f=>match one P f.type with
   | true=>cs[f.offset]?
   | false=>none
  | none=>none
 | _=>none
theorem run_field {t:TypeId} {fi:Nat} {cs:Array Value} {v:Value} (hf:fieldOf P t fi cs=some v):(do let v←Instr.field t (.agg cs) fi; pure (Next.value v):Sem Next).run P w= .ok (.value v) w:=by
 unfold fieldOf at hf
 split at hf
 ·rename_i fs hu
  split at hf
  ·rename_i f hfi
   split at hf
   ·rename_i h1
    have h2:(isAgg f.type).run P w= .ok false w:=by
     unfold one at h1
     cases hu':P.underlying f.type with
     | none=>simp [hu'] at h1
     | some dsc=>cases dsc<;>first|(simp [hu'] at h1; done)|simp [isAgg,run_underlying hu']
    simp [Instr.field,run_underlying hu,hfi,asAgg,part,h2,hf]
   ·cases hf
  ·cases hf
 ·cases hf
class One (P:Program) (t:TypeId):Prop where
 q:one P t=true
class Und (P:Program) (t:TypeId) (u:outParam TypeDesc):Prop where
 q:P.underlying t=some u
class Sz (P:Program) (t:TypeId) (n:outParam Nat):Prop where
 q:(P.info? t).map (·.size)=some n
class FO (P:Program) (t i:Nat) (n:outParam Nat):Prop where
 q:fieldOff P t i=some n
theorem map1 {α β:Type} {f:α→β} {x:α} {a:β} (h: [x].map f= [a]):f x=a:=by simpa using h
theorem map2 {α β:Type} {f:α→β} {x y:α} {a b:β} (h: [x,y].map f= [a,b]):f x=a∧f y=b:=by simpa using h
structure Val (P:Program) (o:Oper) (xs:List Operand) (vs:List Value) (C:Prop) (v:Value):Prop where
 nd:noDefer o.op=true
 mem: ∀x∈xs,x∈o.op.operands.toList
 run:C→ ∀(ρ:Operand→Value) (w:World),xs.map ρ=vs→(execOp ρ o).run P w= .ok (.value v) w
def evc (E:Env):List Operand→Option (List (Option Bool)×List Value)
 | []=>some ([],[])
 | x::xs=>match ev E x with
  | some (c,v)=>match evc E xs with
   | some (cs,vs)=>some (c::cs,v::vs)
   | none=>none
  | none=>none
def devc (D:DE):List Operand→Option (List (Option Bool)×List Value)
 | []=>some ([],[])
 | x::xs=>match dev D x with
  | some (c,.ex v)=>match devc D xs with
   | some (cs,vs)=>some (c::cs,v::vs)
   | none=>none
  | _=>none
def AllC (G:Option Bool):List (Option Bool)→Prop
 | []=>True
 | c::cs=>(Cnd G→Cnd c)∧AllC G cs
theorem evc_map {a:Act} (ha:Fit N ds E a) (hG:Cnd G): ∀ {xs:List Operand} {cs:List (Option Bool)} {vs:List Value},evc E xs=some (cs,vs)→AllC G cs→xs.map a.eval=vs
 | [],cs,vs,h,_=>by simp [evc] at h; rw [h.2]; rfl
 | x::xs,cs,vs,h,hc=>by
  simp only [evc] at h
  split at h
  ·rename_i c v hv
   split at h
   ·rename_i cs' vs' hr
    simp only [Option.some.injEq,Prod.mk.injEq] at h
    obtain ⟨rfl,rfl⟩:=h
    rw [List.map_cons,ha.eval hv (hc.1 hG),evc_map ha hG hr hc.2]
   ·cases h
  ·cases h
theorem devc_map {L:List Nat} {a:Act} {w:World} (ha:FitL N ds L D a w) (hG:Cnd G): ∀ {xs:List Operand} {cs:List (Option Bool)} {vs:List Value},(∀t,Operand.tmp t∈xs→t∈L)→devc D xs=some (cs,vs)→AllC G cs→xs.map a.eval=vs
 | [],cs,vs,_,h,_=>by simp [devc] at h; rw [h.2]; rfl
 | x::xs,cs,vs,hL,h,hc=>by
  simp only [devc] at h
  split at h
  ·rename_i c v hv
   split at h
   ·rename_i cs' vs' hr
    simp only [Option.some.injEq,Prod.mk.injEq] at h
    obtain ⟨rfl,rfl⟩:=h
    rw [List.map_cons,ha.evalL hv (fun t ht=>hL t (by simp [ht])) (hc.1 hG),devc_map ha hG (fun t ht=>hL t (by simp [ht])) hr hc.2]
   ·cases h
  ·cases h
theorem TW.v {op:Op} {xs:List Operand} {vs:List Value} {C:Prop} {v:Value} {cs:List (Option Bool)} (hv:Val P ⟨d,op,ty,pos,af,gu⟩ xs vs C v) (h:(gd ops E gu,okDst N d,evc E xs)=(some G,true,some (cs,vs))) (hi:AllC G cs) (hC:Cnd G→C)
  (next:TW P r Q N ds ops rest (ins E d G v) w):TW P r Q N ds ops (⟨d,op,ty,pos,af,gu⟩::rest) E w:=by
 simp only [Prod.mk.injEq] at h
 exact TW.val h.1 h.2.1 hv.nd (fun hG a ha=>hv.run (hC hG) a.eval w (evc_map ha hG h.2.2 hi)) next
theorem DW.v {op:Op} {xs:List Operand} {vs:List Value} {C:Prop} {v:Value} {cs:List (Option Bool)} (hv:Val P ⟨d,op,ty,pos,af,gu⟩ xs vs C v) (h:(dgd ops D gu,okDst N d,devc D xs)=(some G,true,some (cs,vs))) (hi:AllC G cs) (hC:Cnd G→C)
  (next:DW P N ds md ops w Fin rest (dins D d G (.ex v))):DW P N ds md ops w Fin (⟨d,op,ty,pos,af,gu⟩::rest) D:=by
 simp only [Prod.mk.injEq] at h
 exact DW.val h.1 h.2.1 hv.nd (fun hG a w' _ ha=>hv.run (hC hG) a.eval w' (devc_map ha hG (fun t ht=>mem_looks (o:=⟨d,op,ty,pos,af,gu⟩) (hv.mem _ ht)) h.2.2 hi)) next
theorem X.lss {k:IntKind} {m n:Int} {t t':TypeId}  (hx:ρ x= .int k m) (hy:ρ y= .int k n):(execOp ρ ⟨d,.binOp .lss t x y t',ty,pos,af,gu⟩).run P w= .ok (.value (.bool (decide (m<n)))) w:=by simp only [execOp]; rw [hx,hy,eqGuard_lss,binOp_lss]; rfl
theorem V.lss {k:IntKind} {m n:Int} {t t':TypeId}:Val P ⟨d,.binOp .lss t x y t',ty,pos,af,gu⟩ [x,y] [.int k m,.int k n] (True) (.bool (decide (m<n))) :=
 ⟨rfl,by simp [Op.operands,Call.operands],fun _ ρ w h=>by
  obtain ⟨hx,hy⟩:=map2 h
  simp only [execOp]; rw [hx,hy,eqGuard_lss,binOp_lss]; rfl⟩
theorem X.leq {k:IntKind} {m n:Int} {t t':TypeId}  (hx:ρ x= .int k m) (hy:ρ y= .int k n):(execOp ρ ⟨d,.binOp .leq t x y t',ty,pos,af,gu⟩).run P w= .ok (.value (.bool (decide (m≤n)))) w:=by simp only [execOp]; rw [hx,hy,eqGuard_leq,binOp_leq]; rfl
theorem V.leq {k:IntKind} {m n:Int} {t t':TypeId}:Val P ⟨d,.binOp .leq t x y t',ty,pos,af,gu⟩ [x,y] [.int k m,.int k n] (True) (.bool (decide (m≤n))) :=
 ⟨rfl,by simp [Op.operands,Call.operands],fun _ ρ w h=>by
  obtain ⟨hx,hy⟩:=map2 h
  simp only [execOp]; rw [hx,hy,eqGuard_leq,binOp_leq]; rfl⟩
theorem X.gtr {k:IntKind} {m n:Int} {t t':TypeId}  (hx:ρ x= .int k m) (hy:ρ y= .int k n):(execOp ρ ⟨d,.binOp .gtr t x y t',ty,pos,af,gu⟩).run P w= .ok (.value (.bool (decide (n<m)))) w:=by simp only [execOp]; rw [hx,hy,eqGuard_gtr,binOp_gtr]; rfl
theorem V.gtr {k:IntKind} {m n:Int} {t t':TypeId}:Val P ⟨d,.binOp .gtr t x y t',ty,pos,af,gu⟩ [x,y] [.int k m,.int k n] (True) (.bool (decide (n<m))) :=
 ⟨rfl,by simp [Op.operands,Call.operands],fun _ ρ w h=>by
  obtain ⟨hx,hy⟩:=map2 h
  simp only [execOp]; rw [hx,hy,eqGuard_gtr,binOp_gtr]; rfl⟩
theorem X.geq {k:IntKind} {m n:Int} {t t':TypeId}  (hx:ρ x= .int k m) (hy:ρ y= .int k n):(execOp ρ ⟨d,.binOp .geq t x y t',ty,pos,af,gu⟩).run P w= .ok (.value (.bool (decide (n≤m)))) w:=by simp only [execOp]; rw [hx,hy,eqGuard_geq,binOp_geq]; rfl
theorem V.geq {k:IntKind} {m n:Int} {t t':TypeId}:Val P ⟨d,.binOp .geq t x y t',ty,pos,af,gu⟩ [x,y] [.int k m,.int k n] (True) (.bool (decide (n≤m))) :=
 ⟨rfl,by simp [Op.operands,Call.operands],fun _ ρ w h=>by
  obtain ⟨hx,hy⟩:=map2 h
  simp only [execOp]; rw [hx,hy,eqGuard_geq,binOp_geq]; rfl⟩
theorem X.eql {k:IntKind} {m n:Int} {t t':TypeId}  (hx:ρ x= .int k m) (hy:ρ y= .int k n):(execOp ρ ⟨d,.binOp .eql t x y t',ty,pos,af,gu⟩).run P w= .ok (.value (.bool (decide (m=n)))) w:=by simp only [execOp]; rw [hx,hy,eqGuard_at_int,binOp_eql]; rfl
theorem V.eql {k:IntKind} {m n:Int} {t t':TypeId}:Val P ⟨d,.binOp .eql t x y t',ty,pos,af,gu⟩ [x,y] [.int k m,.int k n] (True) (.bool (decide (m=n))) :=
 ⟨rfl,by simp [Op.operands,Call.operands],fun _ ρ w h=>by
  obtain ⟨hx,hy⟩:=map2 h
  simp only [execOp]; rw [hx,hy,eqGuard_at_int,binOp_eql]; rfl⟩
theorem X.neq {k:IntKind} {m n:Int} {t t':TypeId}  (hx:ρ x= .int k m) (hy:ρ y= .int k n):(execOp ρ ⟨d,.binOp .neq t x y t',ty,pos,af,gu⟩).run P w= .ok (.value (.bool (decide (m≠n)))) w:=by 
  simp only [execOp]; rw [hx,hy,eqGuard_at_int,binOp_neq]
  have e:(m !=n)=decide (m≠n):=by by_cases h:m=n<;>simp [h]
  rw [e]; rfl
theorem V.neq {k:IntKind} {m n:Int} {t t':TypeId}:Val P ⟨d,.binOp .neq t x y t',ty,pos,af,gu⟩ [x,y] [.int k m,.int k n] (True) (.bool (decide (m≠n))) :=
 ⟨rfl,by simp [Op.operands,Call.operands],fun _ ρ w h=>by
  obtain ⟨hx,hy⟩:=map2 h
  simp only [execOp]; rw [hx,hy,eqGuard_at_int,binOp_neq]
  have e:(m !=n)=decide (m≠n):=by by_cases h:m=n<;>simp [h]
  rw [e]; rfl⟩
theorem X.add {m n:Int} {t t':TypeId}  (hx:ρ x= .int .i64 m) (hy:ρ y= .int .i64 n) (hb: -9223372036854775808≤m+n∧m+n≤9223372036854775807):(execOp ρ ⟨d,.binOp .add t x y t',ty,pos,af,gu⟩).run P w= .ok (.value (.int .i64 (m+n))) w:=by 
  simp only [execOp]; rw [hx,hy,eqGuard_add,binOp_add]
  show Result.ok (Next.value (Value.int .i64 (IntKind.i64.wrap (m+n)))) w=_
  rw [wrap_fits hb]
theorem V.add {m n:Int} {t t':TypeId}:Val P ⟨d,.binOp .add t x y t',ty,pos,af,gu⟩ [x,y] [.int .i64 m,.int .i64 n] (-9223372036854775808≤m+n∧m+n≤9223372036854775807) (.int .i64 (m+n)) :=
 ⟨rfl,by simp [Op.operands,Call.operands],fun hb ρ w h=>by
  obtain ⟨hx,hy⟩:=map2 h
  simp only [execOp]; rw [hx,hy,eqGuard_add,binOp_add]
  show Result.ok (Next.value (Value.int .i64 (IntKind.i64.wrap (m+n)))) w=_
  rw [wrap_fits hb]⟩
theorem X.sub {m n:Int} {t t':TypeId}  (hx:ρ x= .int .i64 m) (hy:ρ y= .int .i64 n) (hb: -9223372036854775808≤m-n∧m-n≤9223372036854775807):(execOp ρ ⟨d,.binOp .sub t x y t',ty,pos,af,gu⟩).run P w= .ok (.value (.int .i64 (m-n))) w:=by 
  simp only [execOp]; rw [hx,hy,eqGuard_sub,binOp_sub]
  show Result.ok (Next.value (Value.int .i64 (IntKind.i64.wrap (m-n)))) w=_
  rw [wrap_fits hb]
theorem V.sub {m n:Int} {t t':TypeId}:Val P ⟨d,.binOp .sub t x y t',ty,pos,af,gu⟩ [x,y] [.int .i64 m,.int .i64 n] (-9223372036854775808≤m-n∧m-n≤9223372036854775807) (.int .i64 (m-n)) :=
 ⟨rfl,by simp [Op.operands,Call.operands],fun hb ρ w h=>by
  obtain ⟨hx,hy⟩:=map2 h
  simp only [execOp]; rw [hx,hy,eqGuard_sub,binOp_sub]
  show Result.ok (Next.value (Value.int .i64 (IntKind.i64.wrap (m-n)))) w=_
  rw [wrap_fits hb]⟩
theorem X.mul {m n:Int} {t t':TypeId}  (hx:ρ x= .int .i64 m) (hy:ρ y= .int .i64 n) (hb: -9223372036854775808≤m*n∧m*n≤9223372036854775807):(execOp ρ ⟨d,.binOp .mul t x y t',ty,pos,af,gu⟩).run P w= .ok (.value (.int .i64 (m*n))) w:=by 
  simp only [execOp]; rw [hx,hy,eqGuard_mul,binOp_mul]
  show Result.ok (Next.value (Value.int .i64 (IntKind.i64.wrap (m*n)))) w=_
  rw [wrap_fits hb]
theorem V.mul {m n:Int} {t t':TypeId}:Val P ⟨d,.binOp .mul t x y t',ty,pos,af,gu⟩ [x,y] [.int .i64 m,.int .i64 n] (-9223372036854775808≤m*n∧m*n≤9223372036854775807) (.int .i64 (m*n)) :=
 ⟨rfl,by simp [Op.operands,Call.operands],fun hb ρ w h=>by
  obtain ⟨hx,hy⟩:=map2 h
  simp only [execOp]; rw [hx,hy,eqGuard_mul,binOp_mul]
  show Result.ok (Next.value (Value.int .i64 (IntKind.i64.wrap (m*n)))) w=_
  rw [wrap_fits hb]⟩
theorem X.rem {m n:Int} {t t':TypeId}  (hx:ρ x= .int .i64 m) (hy:ρ y= .int .i64 n) (hb:0≤m∧1≤n∧n≤9223372036854775807):(execOp ρ ⟨d,.binOp .rem t x y t',ty,pos,af,gu⟩).run P w= .ok (.value (.int .i64 (m%n))) w:=by 
  simp only [execOp]; rw [hx,hy,eqGuard_rem,binOp_rem]
  have e:m.tmod n=m%n:=Int.tmod_eq_emod_of_nonneg hb.1
  have h0:n≠0:=by omega
  have h1:=Int.emod_nonneg m h0
  have h2:=Int.emod_lt_of_pos m (show 0<n by omega)
  have h3:=hb.2.2
  simp [Op.intDiv,h0,e,wrap_fits (z:=m%n) (by omega)]
theorem V.rem {m n:Int} {t t':TypeId}:Val P ⟨d,.binOp .rem t x y t',ty,pos,af,gu⟩ [x,y] [.int .i64 m,.int .i64 n] (0≤m∧1≤n∧n≤9223372036854775807) (.int .i64 (m%n)) :=
 ⟨rfl,by simp [Op.operands,Call.operands],fun hb ρ w h=>by
  obtain ⟨hx,hy⟩:=map2 h
  simp only [execOp]; rw [hx,hy,eqGuard_rem,binOp_rem]
  have e:m.tmod n=m%n:=Int.tmod_eq_emod_of_nonneg hb.1
  have h0:n≠0:=by omega
  have h1:=Int.emod_nonneg m h0
  have h2:=Int.emod_lt_of_pos m (show 0<n by omega)
  have h3:=hb.2.2
  simp [Op.intDiv,h0,e,wrap_fits (z:=m%n) (by omega)]⟩
theorem X.not {b:Bool} {t:TypeId}  (hx:ρ x= .bool b):(execOp ρ ⟨d,.unOp .not t x,ty,pos,af,gu⟩).run P w= .ok (.value (.bool (!b))) w:=by simp only [execOp]; rw [hx]; rfl
theorem V.not {b:Bool} {t:TypeId}:Val P ⟨d,.unOp .not t x,ty,pos,af,gu⟩ [x] [.bool b] (True) (.bool (!b)) :=
 ⟨rfl,by simp [Op.operands,Call.operands],fun _ ρ w h=>by
  have hx:=map1 h
  simp only [execOp]; rw [hx]; rfl⟩
theorem X.eqlS {s s':ByteArray} {t t':TypeId}  (hx:ρ x= .string s) (hy:ρ y= .string s'):(execOp ρ ⟨d,.binOp .eql t x y t',ty,pos,af,gu⟩).run P w= .ok (.value (.bool (s.toList==s'.toList))) w:=by simp only [execOp]; rw [hx,hy,eqGuard_at_string,binOp_string_eql]; rfl
theorem V.eqlS {s s':ByteArray} {t t':TypeId}:Val P ⟨d,.binOp .eql t x y t',ty,pos,af,gu⟩ [x,y] [.string s,.string s'] (True) (.bool (s.toList==s'.toList)) :=
 ⟨rfl,by simp [Op.operands,Call.operands],fun _ ρ w h=>by
  obtain ⟨hx,hy⟩:=map2 h
  simp only [execOp]; rw [hx,hy,eqGuard_at_string,binOp_string_eql]; rfl⟩
theorem X.conv {k k':IntKind} {m:Int} {t t':TypeId} (hs:(P.underlying t).isSome=true) (hd':P.underlying t'=some (.int k')) (hx:ρ x= .int k m):(execOp ρ ⟨d,.convert t t' x,ty,pos,af,gu⟩).run P w= .ok (.value (.int k' (k'.wrap m))) w:=by 
  have hk:P.intKind t'=k':=by simp [Program.intKind,hd']
  have h:=run_convert_int (P:=P) w t t' k m hs (by rw [hk]; exact hd')
  rw [hk] at h
  simp only [execOp]; rw [hx]; simp [h]
theorem V.conv {k k':IntKind} {m:Int} {t t':TypeId} [Und P t' (.int k')] (hs:(P.underlying t).isSome=true):Val P ⟨d,.convert t t' x,ty,pos,af,gu⟩ [x] [.int k m] (True) (.int k' (k'.wrap m)) :=
 ⟨rfl,by simp [Op.operands,Call.operands],fun _ ρ w h=>by
  have hx:=map1 h
  have hd':P.underlying t'=some (.int k'):=Und.q
  have hk:P.intKind t'=k':=by simp [Program.intKind,hd']
  have h:=run_convert_int (P:=P) w t t' k m hs (by rw [hk]; exact hd')
  rw [hk] at h
  simp only [execOp]; rw [hx]; simp [h]⟩
theorem X.lenSlice {A:Option Addr} {l c:Nat} {t e:TypeId} (ht:P.underlying t=some (.slice e)) (hx:ρ x= .slice A l c):(execOp ρ ⟨d,.call ⟨.builtin .len,#[x],#[t]⟩,ty,pos,af,gu⟩).run P w= .ok (.value (.int .i64 (l:Int))) w:=by simp [execOp,resolve,invoke,builtin,hx,Builtin.len_,run_underlying ht,goInt]
theorem V.lenSlice {A:Option Addr} {l c:Nat} {t e:TypeId} [Und P t (.slice e)]:Val P ⟨d,.call ⟨.builtin .len,#[x],#[t]⟩,ty,pos,af,gu⟩ [x] [.slice A l c] (True) (.int .i64 (l:Int)) :=
 ⟨rfl,by simp [Op.operands,Call.operands],fun _ ρ w h=>by
  have hx:=map1 h
  have ht:P.underlying t=some (.slice e):=Und.q
  simp [execOp,resolve,invoke,builtin,hx,Builtin.len_,run_underlying ht,goInt]⟩
theorem X.lenString {s:ByteArray} {t:TypeId} (ht:P.underlying t=some .string) (hx:ρ x= .string s):(execOp ρ ⟨d,.call ⟨.builtin .len,#[x],#[t]⟩,ty,pos,af,gu⟩).run P w= .ok (.value (.int .i64 (s.size:Int))) w:=by simp [execOp,resolve,invoke,builtin,hx,Builtin.len_,run_underlying ht,goInt]
theorem V.lenString {s:ByteArray} {t:TypeId} [Und P t .string]:Val P ⟨d,.call ⟨.builtin .len,#[x],#[t]⟩,ty,pos,af,gu⟩ [x] [.string s] (True) (.int .i64 (s.size:Int)) :=
 ⟨rfl,by simp [Op.operands,Call.operands],fun _ ρ w h=>by
  have hx:=map1 h
  have ht:P.underlying t=some .string:=Und.q
  simp [execOp,resolve,invoke,builtin,hx,Builtin.len_,run_underlying ht,goInt]⟩
theorem X.indexAddr {ad:Addr} {l c sz:Nat} {t e:TypeId} {k:IntKind} {i:Int} (ht:P.underlying t=some (.slice e)) (hs:(P.info? e).map (·.size)=some sz) (hx:ρ x= .slice (some ad) l c) (hy:ρ y= .int k i) (hi:0≤i∧i<(l:Int)):(execOp ρ ⟨d,.indexAddr t x y,ty,pos,af,gu⟩).run P w= .ok (.value (.pointer (some (ad.add (i.toNat*sz))))) w:=by simp only [execOp]; rw [hx,hy]; simp [Instr.indexAt,run_underlying ht,asIntOf,hi,run_sizeOf hs]
theorem V.indexAddr {ad:Addr} {l c sz:Nat} {t e:TypeId} {k:IntKind} {i:Int} [Und P t (.slice e)] [Sz P e sz]:Val P ⟨d,.indexAddr t x y,ty,pos,af,gu⟩ [x,y] [.slice (some ad) l c,.int k i] (0≤i∧i<(l:Int)) (.pointer (some (ad.add (i.toNat*sz)))) :=
 ⟨rfl,by simp [Op.operands,Call.operands],fun hi ρ w h=>by
  obtain ⟨hx,hy⟩:=map2 h
  have ht:P.underlying t=some (.slice e):=Und.q
  have hs:(P.info? e).map (·.size)=some sz:=Sz.q
  simp only [execOp]; rw [hx,hy]; simp [Instr.indexAt,run_underlying ht,asIntOf,hi,run_sizeOf hs]⟩
theorem X.fieldAddr {ad:Addr} {off fi:Nat} {t:TypeId} (hf:fieldOff P t fi=some off) (hx:ρ x= .pointer (some ad)):(execOp ρ ⟨d,.fieldAddr t x fi,ty,pos,af,gu⟩).run P w= .ok (.value (.pointer (some (ad.add off)))) w:=by simp only [execOp]; rw [hx]; exact run_fieldAt hf
theorem V.fieldAddr {ad:Addr} {off fi:Nat} {t:TypeId} [FO P t fi off]:Val P ⟨d,.fieldAddr t x fi,ty,pos,af,gu⟩ [x] [.pointer (some ad)] (True) (.pointer (some (ad.add off))) :=
 ⟨rfl,by simp [Op.operands,Call.operands],fun _ ρ w h=>by
  have hx:=map1 h
  have hf:fieldOff P t fi=some off:=FO.q
  simp only [execOp]; rw [hx]; exact run_fieldAt hf⟩
theorem X.move {vx:Value}  (hx:ρ x=vx):(execOp ρ ⟨d,.move x,ty,pos,af,gu⟩).run P w= .ok (.value (vx)) w:=by simp only [execOp]; rw [hx]; rfl
theorem V.move {vx:Value}:Val P ⟨d,.move x,ty,pos,af,gu⟩ [x] [vx] (True) (vx) :=
 ⟨rfl,by simp [Op.operands,Call.operands],fun _ ρ w h=>by
  have hx:=map1 h
  simp only [execOp]; rw [hx]; rfl⟩
theorem X.assign {vx:Value}  (hx:ρ x=vx):(execOp ρ ⟨d,.assign x,ty,pos,af,gu⟩).run P w= .ok (.value (vx)) w:=by simp only [execOp]; rw [hx]; rfl
theorem V.assign {vx:Value}:Val P ⟨d,.assign x,ty,pos,af,gu⟩ [x] [vx] (True) (vx) :=
 ⟨rfl,by simp [Op.operands,Call.operands],fun _ ρ w h=>by
  have hx:=map1 h
  simp only [execOp]; rw [hx]; rfl⟩
theorem X.extract {vs:Array Value} {v:Value} {i:Nat} (hv:vs[i]?=some v) (hx:ρ x= .tuple vs):(execOp ρ ⟨d,.extract x i,ty,pos,af,gu⟩).run P w= .ok (.value (v)) w:=by simp only [execOp]; rw [hx]; simp [Instr.extract,hv]
theorem V.extract {vs:Array Value} {v:Value} {i:Nat}:Val P ⟨d,.extract x i,ty,pos,af,gu⟩ [x] [.tuple vs] (vs[i]?=some v) (v) :=
 ⟨rfl,by simp [Op.operands,Call.operands],fun hv ρ w h=>by
  have hx:=map1 h
  simp only [execOp]; rw [hx]; simp [Instr.extract,hv]⟩
theorem X.index {s:ByteArray} {k:IntKind} {i:Int} {t:TypeId} (ht:P.underlying t=some .string) (hx:ρ x= .string s) (hy:ρ y= .int k i) (hi:0≤i∧i<(s.size:Int)):(execOp ρ ⟨d,.index t x y,ty,pos,af,gu⟩).run P w= .ok (.value (.int .u8 ((s.data.getD i.toNat 0).toNat:Int))) w:=by 
  simp only [execOp]; rw [hx,hy]
  have hlt:i.toNat<s.size:=by omega
  have e:s[i.toNat]?=some (s.data.getD i.toNat 0):=by
   have hlt':i.toNat<s.data.size:=hlt
   rw [ByteArray.getElem?_lt' s i.toNat hlt]
   simp [hlt',ByteArray.getElem_eq_getElem_data,Array.getElem?_eq_getElem hlt']
  simp [Instr.index,run_underlying ht,asIntOf,hi.1,e]
theorem V.index {s:ByteArray} {k:IntKind} {i:Int} {t:TypeId} [Und P t .string]:Val P ⟨d,.index t x y,ty,pos,af,gu⟩ [x,y] [.string s,.int k i] (0≤i∧i<(s.size:Int)) (.int .u8 ((s.data.getD i.toNat 0).toNat:Int)) :=
 ⟨rfl,by simp [Op.operands,Call.operands],fun hi ρ w h=>by
  obtain ⟨hx,hy⟩:=map2 h
  have ht:P.underlying t=some .string:=Und.q
  simp only [execOp]; rw [hx,hy]
  have hlt:i.toNat<s.size:=by omega
  have e:s[i.toNat]?=some (s.data.getD i.toNat 0):=by
   have hlt':i.toNat<s.data.size:=hlt
   rw [ByteArray.getElem?_lt' s i.toNat hlt]
   simp [hlt',ByteArray.getElem_eq_getElem_data,Array.getElem?_eq_getElem hlt']
  simp [Instr.index,run_underlying ht,asIntOf,hi.1,e]⟩
theorem X.field {cs:Array Value} {v:Value} {t:TypeId} {fi:Nat} (hf:fieldOf P t fi cs=some v) (hx:ρ x= .agg cs):(execOp ρ ⟨d,.field t x fi,ty,pos,af,gu⟩).run P w= .ok (.value (v)) w:=by simp only [execOp]; rw [hx]; exact run_field hf
theorem V.field {cs:Array Value} {v:Value} {t:TypeId} {fi:Nat}:Val P ⟨d,.field t x fi,ty,pos,af,gu⟩ [x] [.agg cs] (fieldOf P t fi cs=some v) (v) :=
 ⟨rfl,by simp [Op.operands,Call.operands],fun hf ρ w h=>by
  have hx:=map1 h
  simp only [execOp]; rw [hx]; exact run_field hf⟩
theorem X.load {t:TypeId} {ad:Addr} {v:Value} (h1:one P t=true) (hx:ρ x= .pointer (some ad)) (hc:w.cell? ad=some v):(execOp ρ ⟨d,.load t x,ty,pos,af,gu⟩).run P w= .ok (.value v) w:=by
 simp only [execOp]; rw [hx]; simp [Instr.loadAt,Instr.sureAddr,run_loadVar1 h1 hc]
theorem TW.load {t:TypeId} {ad:Addr} {v:Value} (hg:gd ops E gu=some G) (hd:okDst N d=true) (h1:one P t=true) (hx:ev E x=some (cx,.pointer (some ad))) (ix:Cnd G→Cnd cx) (hc:Cnd G→w.cell? ad=some v)
  (next:TW P r Q N ds ops rest (ins E d G v) w):TW P r Q N ds ops (⟨d,.load t x,ty,pos,af,gu⟩::rest) E w :=
 TW.val hg hd rfl (fun hG _ ha=>X.load h1 (ha.eval hx (ix hG)) (hc hG)) next
theorem DW.load {t:TypeId} {ad:Addr} {v:Value} (hg:dgd ops D gu=some G) (hd:okDst N d=true) (h1:one P t=true) (hx:dev D x=some (cx,.ex (.pointer (some ad)))) (ix:Cnd G→Cnd cx) (hc:Cnd G→w.cell? ad=some v)
  (next:DW P N ds md ops w Fin rest (dins D d G (.ex v))):DW P N ds md ops w Fin (⟨d,.load t x,ty,pos,af,gu⟩::rest) D :=
 DW.val hg hd rfl (fun hG _ _ hb ha=>X.load h1 (ha.eval (o:=⟨d,.load t x,ty,pos,af,gu⟩) hx (by simp [Op.operands]) (ix hG)) ((hb.cell (block_lt_of_cell (hc hG))).trans (hc hG))) next
theorem X.loadS {t:TypeId} {ad:Addr} {fs:Array Field} {cs:List Value} (hu:P.underlying t=some (.struct fs)) (hs:(P.info? t).map (·.size)=some cs.length) (hx:ρ x= .pointer (some ad)) (hc: ∀j v,cs[j]?=some v→w.cell? (ad.add j)=some v) :
  (execOp ρ ⟨d,.load t x,ty,pos,af,gu⟩).run P w= .ok (.value (.agg cs.toArray)) w:=by
 simp only [execOp]; rw [hx]; simp [Instr.loadAt,Instr.sureAddr,run_loadVarS hu hs hc]
theorem TW.loadS {t:TypeId} {ad:Addr} {fs:Array Field} {n:Nat} (cs:List Value) (hg:gd ops E gu=some G) (hd:okDst N d=true) (hu:P.underlying t=some (.struct fs)) (hs:(P.info? t).map (·.size)=some n)
  (hx:ev E x=some (cx,.pointer (some ad))) (ix:Cnd G→Cnd cx) (hc:Cnd G→ ∀j v,cs[j]?=some v→w.cell? (ad.add j)=some v) (hl:cs.length=n)
  (next:TW P r Q N ds ops rest (ins E d G (.agg cs.toArray)) w):TW P r Q N ds ops (⟨d,.load t x,ty,pos,af,gu⟩::rest) E w :=
 TW.val hg hd rfl (fun hG _ ha=>X.loadS hu (hl ▸ hs) (ha.eval hx (ix hG)) (hc hG)) next
theorem DW.loadS {t:TypeId} {ad:Addr} {fs:Array Field} {n:Nat} (cs:List Value) (hg:dgd ops D gu=some G) (hd:okDst N d=true) (hu:P.underlying t=some (.struct fs)) (hs:(P.info? t).map (·.size)=some n)
  (hx:dev D x=some (cx,.ex (.pointer (some ad)))) (ix:Cnd G→Cnd cx) (hc:Cnd G→ ∀j v,cs[j]?=some v→w.cell? (ad.add j)=some v) (hl:cs.length=n)
  (next:DW P N ds md ops w Fin rest (dins D d G (.ex (.agg cs.toArray)))):DW P N ds md ops w Fin (⟨d,.load t x,ty,pos,af,gu⟩::rest) D :=
 DW.val hg hd rfl (fun hG _ _ hb ha=>X.loadS hu (hl ▸ hs) (ha.eval (o:=⟨d,.load t x,ty,pos,af,gu⟩) hx (by simp [Op.operands]) (ix hG)) (fun j v hj=>(hb.cell (block_lt_of_cell (hc hG j v hj))).trans (hc hG j v hj))) next
theorem X.pick {vy vz v:Value} {b:Bool} (hx:ρ x= .bool b) (hy:b=true→ρ y=vy∧vy=v) (hz:b=false→ρ z=vz∧vz=v):(execOp ρ ⟨d,.pick x y z,ty,pos,af,gu⟩).run P w= .ok (.value v) w:=by
 simp only [execOp]; rw [hx]
 cases b with
 | true=>obtain ⟨h,e⟩:=hy rfl; rw [h,e]; simp [asBool]
 | false=>obtain ⟨h,e⟩:=hz rfl; rw [h,e]; simp [asBool]
theorem TW.pick {vy vz v:Value} {b:Bool} (hg:gd ops E gu=some G) (hd:okDst N d=true) (hx:ev E x=some (cx,.bool b)) (ix:Cnd G→Cnd cx)
  (hy:ev E y=some (cy,vy)) (hz:ev E z=some (cz,vz)) (h1:Cnd G→b=true→Cnd cy∧vy=v) (h2:Cnd G→b=false→Cnd cz∧vz=v)
  (next:TW P r Q N ds ops rest (ins E d G v) w):TW P r Q N ds ops (⟨d,.pick x y z,ty,pos,af,gu⟩::rest) E w :=
 TW.val hg hd rfl (fun hG _ ha=>X.pick (ha.eval hx (ix hG)) (fun hb=>⟨ha.eval hy (h1 hG hb).1,(h1 hG hb).2⟩) (fun hb=>⟨ha.eval hz (h2 hG hb).1,(h2 hG hb).2⟩)) next
theorem DW.pick {vy vz v:Value} {b:Bool} (hg:dgd ops D gu=some G) (hd:okDst N d=true) (hx:dev D x=some (cx,.ex (.bool b))) (ix:Cnd G→Cnd cx)
  (hy:dev D y=some (cy,.ex vy)) (hz:dev D z=some (cz,.ex vz)) (h1:Cnd G→b=true→Cnd cy∧vy=v) (h2:Cnd G→b=false→Cnd cz∧vz=v)
  (next:DW P N ds md ops w Fin rest (dins D d G (.ex v))):DW P N ds md ops w Fin (⟨d,.pick x y z,ty,pos,af,gu⟩::rest) D :=
 DW.val hg hd rfl (fun hG _ _ _ ha=>X.pick (ha.eval (o:=⟨d,.pick x y z,ty,pos,af,gu⟩) hx (by simp [Op.operands]) (ix hG)) (fun hb=>⟨ha.eval (o:=⟨d,.pick x y z,ty,pos,af,gu⟩) hy (by simp [Op.operands]) (h1 hG hb).1,(h1 hG hb).2⟩)
  (fun hb=>⟨ha.eval (o:=⟨d,.pick x y z,ty,pos,af,gu⟩) hz (by simp [Op.operands]) (h2 hG hb).1,(h2 hG hb).2⟩)) next
theorem TW.pickOr {b b':Bool} (hg:gd ops E gu=some G) (hd:okDst N d=true) (hx:ev E x=some (cx,.bool b)) (ix:Cnd G→Cnd cx) (hz:ev E z=some (cz,.bool b')) (iz:Cnd G→b=false→Cnd cz)
  (next:TW P r Q N ds ops rest (ins E d G (.bool (b||b'))) w):TW P r Q N ds ops (⟨d,.pick x (.const (.bool true)) z,ty,pos,af,gu⟩::rest) E w :=
 TW.pick hg hd hx ix rfl hz (fun _ hb=>⟨trivial,by rw [hb]; rfl⟩) (fun hG hb=>⟨iz hG hb,by rw [hb]; rfl⟩) next
theorem TW.pickAnd {b b':Bool} (hg:gd ops E gu=some G) (hd:okDst N d=true) (hx:ev E x=some (cx,.bool b)) (ix:Cnd G→Cnd cx) (hy:ev E y=some (cy,.bool b')) (iy:Cnd G→b=true→Cnd cy)
  (next:TW P r Q N ds ops rest (ins E d G (.bool (b&&b'))) w):TW P r Q N ds ops (⟨d,.pick x y (.const (.bool false)),ty,pos,af,gu⟩::rest) E w :=
 TW.pick hg hd hx ix hy rfl (fun hG hb=>⟨iy hG hb,by rw [hb]; rfl⟩) (fun _ hb=>⟨trivial,by rw [hb]; rfl⟩) next
theorem DW.pickOr {b b':Bool} (hg:dgd ops D gu=some G) (hd:okDst N d=true) (hx:dev D x=some (cx,.ex (.bool b))) (ix:Cnd G→Cnd cx) (hz:dev D z=some (cz,.ex (.bool b'))) (iz:Cnd G→b=false→Cnd cz)
  (next:DW P N ds md ops w Fin rest (dins D d G (.ex (.bool (b||b'))))):DW P N ds md ops w Fin (⟨d,.pick x (.const (.bool true)) z,ty,pos,af,gu⟩::rest) D :=
 DW.pick hg hd hx ix rfl hz (fun _ hb=>⟨trivial,by rw [hb]; rfl⟩) (fun hG hb=>⟨iz hG hb,by rw [hb]; rfl⟩) next
theorem DW.pickAnd {b b':Bool} (hg:dgd ops D gu=some G) (hd:okDst N d=true) (hx:dev D x=some (cx,.ex (.bool b))) (ix:Cnd G→Cnd cx) (hy:dev D y=some (cy,.ex (.bool b'))) (iy:Cnd G→b=true→Cnd cy)
  (next:DW P N ds md ops w Fin rest (dins D d G (.ex (.bool (b&&b'))))):DW P N ds md ops w Fin (⟨d,.pick x y (.const (.bool false)),ty,pos,af,gu⟩::rest) D :=
 DW.pick hg hd hx ix hy rfl (fun hG hb=>⟨iy hG hb,by rw [hb]; rfl⟩) (fun _ hb=>⟨trivial,by rw [hb]; rfl⟩) next
def Args (N:Nat) (ds:List Deferred) (E:Env) (G:Option Bool) (xs:List Operand) (vs:List Value):Prop:= ∀a,Fit N ds E a→Cnd G→xs.map a.eval=vs
theorem Args.nil:Args N ds E G [] []:=fun _ _ _=>rfl
theorem Args.cons {xs:List Operand} {v:Value} {vs:List Value} (hx:ev E x=some (cx,v)) (ix:Cnd G→Cnd cx) (h:Args N ds E G xs vs):Args N ds E G (x::xs) (v::vs):=fun a ha hG=>by
 rw [List.map_cons,ha.eval hx (ix hG),h a ha hG]
def DArgs (L:List Nat) (N:Nat) (ds:List Deferred) (D:DE) (G:Option Bool) (xs:List Operand) (vs:List Value):Prop:=(∀t,Operand.tmp t∈xs→t∈L)→ ∀a w,FitL N ds L D a w→Cnd G→xs.map a.eval=vs
theorem DArgs.nil {L:List Nat}:DArgs L N ds D G [] []:=fun _ _ _ _ _=>rfl
theorem DArgs.cons {L:List Nat} {xs:List Operand} {v:Value} {vs:List Value} (hx:dev D x=some (cx,.ex v)) (ix:Cnd G→Cnd cx) (h:DArgs L N ds D G xs vs):DArgs L N ds D G (x::xs) (v::vs):=fun hL a w ha hG=>by
 rw [List.map_cons,h (fun t ht=>hL t (by simp [ht])) a w ha hG,ha.evalL hx (fun t ht=>hL t (by simp [ht])) (ix hG)]
theorem X.call {f:Operand} {k:FuncId} {cap:List Value} {xs:List Operand} {vs:List Value} {ts:Array TypeId} (he:enters P k=true) (hf:ρ f= .func (.func k) #[] cap.toArray) (hv:xs.map ρ=vs) :
  (execOp ρ ⟨d,.call ⟨.value f,xs.toArray,ts⟩,ty,pos,af,gu⟩).run P w= .ok (.enter k (vs++cap).toArray) w:=by
 have h1:=run_enters (P:=P) he
 simp [execOp,resolve,hf,hv,Deferred.ofValue,invoke,h1]
theorem TW.call {f:Operand} {k:FuncId} {cap:List Value} {cf:Option Bool} {xs:List Operand} {vs:List Value} {ts:Array TypeId} {R:Value→World→Prop} (hg:gd ops E gu=some G) (hd:okDst N d=true) (he:enters P k=true)
  (hf:ev E f=some (cf,.func (.func k) #[] cap.toArray)) (jf:Cnd G→Cnd cf) (hv:Args N ds E G xs vs) (hc:Cnd G→Gives P k (vs++cap).toArray w R)
  (next: ∀v w',(Cnd G→R v w')→(¬Cnd G→w'=w)→TW P r Q N ds ops rest (ins E d G v) w'):TW P r Q N ds ops (⟨d,.call ⟨.value f,xs.toArray,ts⟩,ty,pos,af,gu⟩::rest) E w :=
 TW.enter hg hd rfl (fun hG a ha=>X.call he (ha.eval hf (jf hG)) (hv a ha hG)) hc next
theorem TW.call0 {f:Operand} {k:FuncId} {cap:List Value} {xs:List Operand} {vs:List Value} {ts:Array TypeId} {R:Value→World→Prop} (hg:gu=none) (hd:okDst N d=true) (he:enters P k=true)
  (hf:ev E f=some (none,.func (.func k) #[] cap.toArray)) (hv:Args N ds E none xs vs) (hc:Gives P k (vs++cap).toArray w R)
  (next: ∀v w',R v w'→TW P r Q N ds ops rest (ins E d none v) w'):TW P r Q N ds ops (⟨d,.call ⟨.value f,xs.toArray,ts⟩,ty,pos,af,gu⟩::rest) E w :=
 TW.call (G:=none) (by rw [hg]; rfl) hd he hf ct hv (fun _=>hc) (fun v w' h _=>next v w' (h trivial))
theorem DW.call {f:Operand} {k:FuncId} {cap:List Value} {cf:Option Bool} {xs:List Operand} {vs:List Value} {ts:Array TypeId} (e:Ent) (hm:e.mono) (hg:dgd ops D gu=some G) (hd:okDst N d=true) (he:enters P k=true)
  (hf:dev D f=some (cf,.ex (.func (.func k) #[] cap.toArray))) (jf:Cnd G→Cnd cf) (hv:DArgs (Oper.looksAt ops.toArray ⟨d,.call ⟨.value f,xs.toArray,ts⟩,ty,pos,af,gu⟩) N ds D G xs vs)
  (hc:Cnd G→ ∀w',Below w.heap.size w w'→Gives P k (vs++cap).toArray w' fun v w''=>Below w'.heap.size w' w''∧e.sat v w'')
  (next:DW P N ds .weak ops w Fin rest (dins D d G e)):DW P N ds .weak ops w Fin (⟨d,.call ⟨.value f,xs.toArray,ts⟩,ty,pos,af,gu⟩::rest) D :=
 DW.enter (o:=⟨d,.call ⟨.value f,xs.toArray,ts⟩,ty,pos,af,gu⟩) hg hd rfl hm (fun hG a w' hb ha=>⟨_,_,X.call he (ha.eval (o:=⟨d,.call ⟨.value f,xs.toArray,ts⟩,ty,pos,af,gu⟩) hf (by simp [Op.operands,Call.operands]) (jf hG))
  (hv (fun t ht=>mem_looks (by simp [Op.operands,Call.operands,ht])) a w' ha hG),hc hG w' hb⟩) next
theorem X.makeFunc {fn:Fn} {cap:List Operand} {vs:List Value} (hv:cap.map ρ=vs):(execOp ρ ⟨d,.makeFunc fn #[] cap.toArray,ty,pos,af,gu⟩).run P w= .ok (.value (.func fn #[] vs.toArray)) w:=by
 simp [execOp,Instr.makeFunc,hv]
theorem TW.makeFunc {fn:Fn} {cap:List Operand} {vs:List Value} (hg:gd ops E gu=some G) (hd:okDst N d=true) (hv:Args N ds E G cap vs)
  (next:TW P r Q N ds ops rest (ins E d G (.func fn #[] vs.toArray)) w):TW P r Q N ds ops (⟨d,.makeFunc fn #[] cap.toArray,ty,pos,af,gu⟩::rest) E w :=
 TW.val hg hd rfl (fun hG a ha=>X.makeFunc (hv a ha hG)) next
theorem DW.makeFunc {fn:Fn} {cap:List Operand} {vs:List Value} (hg:dgd ops D gu=some G) (hd:okDst N d=true) (hv:DArgs (Oper.looksAt ops.toArray ⟨d,.makeFunc fn #[] cap.toArray,ty,pos,af,gu⟩) N ds D G cap vs)
  (next:DW P N ds md ops w Fin rest (dins D d G (.ex (.func fn #[] vs.toArray)))):DW P N ds md ops w Fin (⟨d,.makeFunc fn #[] cap.toArray,ty,pos,af,gu⟩::rest) D :=
 DW.val hg hd rfl (fun hG a w' _ ha=>X.makeFunc (hv (fun t ht=>mem_looks (by simp [Op.operands,ht])) a w' ha hG)) next
theorem TW.box {t:TypeId} {vx:Value} {cs:List Value} (hg:gu=none) (hd:okDst N d=true) (hx:ev E x=some (none,vx)) (hv:vx.cells=cs.toArray)
  (next: ∀g w',Fresh w w' g t cs→TW P r Q N ds ops rest (ins E d none (.pointer (some ⟨g,0,none⟩))) w'):TW P r Q N ds ops (⟨d,.box t x,ty,pos,af,gu⟩::rest) E w :=
 TW.eff (w':=w.alloc (.cells cs.toArray t)) hg hd rfl (fun a ha=>by
  simp only [execOp]; rw [ha.eval hx trivial,←hv]; rfl) (next _ _ (Fresh.mk' w t cs))
theorem TW.alloc {t:TypeId} {cs:List Value} (hg:gu=none) (hd:okDst N d=true) (hz:zeroCells P t=some cs)
  (next: ∀g w',Fresh w w' g t cs→TW P r Q N ds ops rest (ins E d none (.pointer (some ⟨g,0,none⟩))) w'):TW P r Q N ds ops (⟨d,.alloc t,ty,pos,af,gu⟩::rest) E w :=
 TW.eff (w':=w.alloc (.cells cs.toArray t)) hg hd rfl (fun a ha=>by
  unfold zeroCells at hz
  cases hi:P.info? t with
  | none=>simp [hi] at hz
  | some i =>
   cases hzz:i.zero with
   | none=>simp [hi,hzz] at hz
   | some zv =>
    simp [hi,hzz] at hz
    subst hz
    simp [execOp,Instr.alloc,zeroValue,typeInfo,hi,hzz,newVar,newRow]) (next _ _ (Fresh.mk' w t cs))
theorem TW.store1 {t:TypeId} {ad:Addr} {old vy:Value} (hg:gu=none) (h1:(P.info? t).map (·.size)=some 1) (hx:ev E x=some (none,.pointer (some ad))) (hy:ev E y=some (none,vy)) (hc:w.cell? ad=some old) (hf:w.frozen? ad=false)
  (ho:vy.oneCell'=true) (next:TW P r Q N ds ops rest E (w.setCell ad vy)):TW P r Q N ds ops (⟨none,.store t x y,ty,pos,af,gu⟩::rest) E w :=
 TW.eff0 hg rfl rfl (fun a ha=>by
  simp only [execOp]; rw [ha.eval hx trivial,ha.eval hy trivial]
  have e:vy.cells= #[vy]:=by cases vy<;>first|rfl|simp [Value.oneCell'] at ho
  simp [Instr.storeAt,Instr.sureAddr,storeVar,run_sizeOf h1,e,storeCells,run_store P w ad vy .plain ho,hc,hf,Addr.add]) next
theorem TW.storeBlk {t t1:TypeId} {g:Nat} {old cs:List Value} (hg:gu=none) (hx:ev E x=some (none,.pointer (some ⟨g,0,none⟩))) (hy:ev E y=some (none,.agg cs.toArray)) (hb:Blk w g t1 old) (hs:(P.info? t).map (·.size)=some cs.length) (hl:old.length=cs.length)
  (h1:cs.all (·.oneCell')=true) (next:TW P r Q N ds ops rest E (w.setRow g cs.toArray)):TW P r Q N ds ops (⟨none,.store t x y,ty,pos,af,gu⟩::rest) E w :=
 TW.eff0 hg rfl rfl (fun a ha=>by
  simp only [execOp]; rw [ha.eval hx trivial,ha.eval hy trivial]
  have h:=run_storeVar_row (P:=P) w g t1 t old.toArray cs.toArray hb (by simpa using hs) (by simpa using hl) (by simpa using h1)
  simp [Instr.storeAt,Instr.sureAddr,h]) next
theorem TW.newVar {t:TypeId} {dd:Nat} {zs cs:List Value} {ty':TypeId} {pos':String} {af':Array Edge} (hd:okDst N (some dd)=true) (hz:zeroCells P t=some zs) (hy:ev ((dd,none,.pointer (some ⟨w.heap.size,0,none⟩))::E) y=some (none,.agg cs.toArray)) (hs:(P.info? t).map (·.size)=some cs.length) (hl:zs.length=cs.length)
  (h1:cs.all (·.oneCell')=true) (next: ∀g w',Fresh w w' g t cs→TW P r Q N ds ops rest ((dd,none,.pointer (some ⟨g,0,none⟩))::E) w') :
  TW P r Q N ds ops (⟨some dd,.alloc t,ty,pos,af,none⟩::⟨none,.store t (.tmp dd) y,ty',pos',af',none⟩::rest) E w:=by
 intro a ha
 unfold wpListIn
 rw [if_pos (by simp [Region.wanted])]
 refine ⟨fun _ _=>trivial,?_⟩
 have hrun:(execOp a.eval ⟨some dd,.alloc t,ty,pos,af,none⟩).run P w= .ok (.value (.pointer (some ⟨w.heap.size,0,none⟩))) (w.alloc (.cells zs.toArray t)):=by
  unfold zeroCells at hz
  cases hi:P.info? t with
  | none=>simp [hi] at hz
  | some i =>
   cases hzz:i.zero with
   | none=>simp [hi,hzz] at hz
   | some zv =>
    simp [hi,hzz] at hz
    subst hz
    simp [execOp,Instr.alloc,zeroValue,typeInfo,hi,hzz,Go.newVar,newRow]
 rw [semAt_of rfl,hrun]
 have key:TW P r Q N ds ops (⟨none,.store t (.tmp dd) y,ty',pos',af',none⟩::rest) ((dd,none,.pointer (some ⟨w.heap.size,0,none⟩))::E) (w.alloc (.cells zs.toArray t)):=by
  refine TW.storeBlk (old:=zs) rfl (by simp [ev,look]) hy (Blk.new w t zs) hs hl h1 ?_
  rw [setRow_new w zs.toArray cs.toArray t]
  exact next _ _ (Fresh.mk' w t cs)
 exact key _ (ha.put (d:=some dd) hd (fun _=>rfl) (fun h=>absurd trivial h))
end
end Go.PF
namespace Go.PF
open Go.RowKit
def Kept (F:Nat→Prop) (w w':World):Prop:= ∀(p:Addr) (v:Value),F p.block→w.cell? p=some v→w'.cell? p=some v
theorem Kept.of_below {F:Nat→Prop} {w w':World} (h:Below w.heap.size w w'):Kept F w w':=fun p _ _ hc=>(h.cell (block_lt_of_cell hc)).trans hc
theorem Kept.of_blocks {F:Nat→Prop} {w w':World} (h: ∀b,F b→b<w.heap.size→w'.heap[b]?=w.heap[b]?):Kept F w w':=fun p _ hp hc=>(World.cell?_of_block (w:=w) (h p.block hp (block_lt_of_cell hc))).trans hc
theorem Kept.cell {F:Nat→Prop} {w w':World} (h:Kept F w w') {p:Addr} {v:Value} (hp:F p.block) (hc:w.cell? p=some v):w'.cell? p=some v:=h p v hp hc
theorem add_block (a:Addr) (n:Nat):(a.add n).block=a.block:=by unfold Addr.add; split<;>rfl
structure Ty (α:Type) where
 n:Nat
 rep:(Nat→Prop)→World→List Value→α→Prop
 len: ∀F w cs x,rep F w cs x→cs.length=n
 mono: ∀F w w' cs x,Kept F w w'→rep F w cs x→rep F w' cs x
 wider: ∀(F F':Nat→Prop) w cs x,(∀b,F b→F' b)→rep F w cs x→rep F' w cs x
def I64 (x:Int):Prop:= -9223372036854775808≤x∧x≤9223372036854775807
def intT:Ty Int where
 n:=1
 rep:=fun _ _ cs x=>cs= [.int .i64 x]∧I64 x
 len:=fun _ _ _ _ h=>by rw [h.1]; rfl
 mono:=fun _ _ _ _ _ _ h=>h
 wider:=fun _ _ _ _ _ _ h=>h
def boolT:Ty Bool where
 n:=1
 rep:=fun _ _ cs x=>cs= [.bool x]
 len:=fun _ _ _ _ h=>by rw [h]; rfl
 mono:=fun _ _ _ _ _ _ h=>h
 wider:=fun _ _ _ _ _ _ h=>h
def strT:Ty ByteArray where
 n:=1
 rep:=fun _ _ cs x=>cs= [.string x]∧x.size≤9223372036854775807
 len:=fun _ _ _ _ h=>by rw [h.1]; rfl
 mono:=fun _ _ _ _ _ _ h=>h
 wider:=fun _ _ _ _ _ _ h=>h
variable {α:Type}
def SL (T:Ty α) (F:Nat→Prop) (w:World) (v:Value) (l:List α):Prop :=
 ∃ A cap,v= .slice A l.length cap∧l.length≤cap∧l.length≤9223372036854775807 ∧
  ∀ i x,l[i]?=some x→ ∃ad cs,A=some ad∧F ad.block∧(∀j u,cs[j]?=some u→w.cell? ((ad.add (i*T.n)).add j)=some u)∧T.rep F w cs x
theorem SL.mono {T:Ty α} {F:Nat→Prop} {w w':World} {v:Value} {l:List α} (h:SL T F w v l) (hk:Kept F w w'):SL T F w' v l:=by
 obtain ⟨A,cap,hv,h1,h2,h3⟩:=h
 refine ⟨A,cap,hv,h1,h2,fun i x hx=> ?_⟩
 obtain ⟨ad,cs,ha,hF,hc,hr⟩:=h3 i x hx
 exact ⟨ad,cs,ha,hF,fun j u hu=>hk.cell (by rw [add_block,add_block]; exact hF) (hc j u hu),T.mono _ _ _ _ _ hk hr⟩
theorem SL.below {T:Ty α} {F:Nat→Prop} {w w':World} {v:Value} {l:List α} (h:SL T F w v l) (hb:Below w.heap.size w w'):SL T F w' v l:=h.mono (.of_below hb)
theorem SL.wider {T:Ty α} {F F':Nat→Prop} {w:World} {v:Value} {l:List α} (h:SL T F w v l) (hF: ∀b,F b→F' b):SL T F' w v l:=by
 obtain ⟨A,cap,hv,h1,h2,h3⟩:=h
 refine ⟨A,cap,hv,h1,h2,fun i x hx=> ?_⟩
 obtain ⟨ad,cs,ha,hb,hc,hr⟩:=h3 i x hx
 exact ⟨ad,cs,ha,hF _ hb,hc,T.wider _ _ _ _ _ hF hr⟩
theorem SL.nil (T:Ty α) (F:Nat→Prop) (w:World):SL T F w (.slice none 0 0) []:=⟨none,0,rfl,Nat.le_refl _,by simp,fun i x h=>by simp at h⟩
def sliceT (T:Ty α):Ty (List α) where
 n:=1
 rep:=fun F w cs l=> ∃v,cs= [v]∧SL T F w v l
 len:=fun _ _ _ _ h=>by obtain ⟨v,h,_⟩:=h; rw [h]; rfl
 mono:=fun _ _ _ _ _ hk h=>by obtain ⟨v,h,hs⟩:=h; exact ⟨v,h,hs.mono hk⟩
 wider:=fun _ _ _ _ _ hF h=>by obtain ⟨v,h,hs⟩:=h; exact ⟨v,h,hs.wider hF⟩
theorem SL.int {F:Nat→Prop} {w:World} {A:Option Addr} {n cap:Nat} {l:List Int} (h:SL intT F w (.slice A n cap) l) {i:Nat} {x:Int} (hx:l[i]?=some x) :
  ∃ ad,A=some ad∧w.cell? (ad.add (i*1))=some (.int .i64 x)∧I64 x:=by
 obtain ⟨A',cap',hv,_,_,h3⟩:=h
 simp only [Value.slice.injEq] at hv
 obtain ⟨rfl,_,rfl⟩:=hv
 obtain ⟨ad,cs,ha,_,hc,hr,hi⟩:=h3 i x hx
 exact ⟨ad,ha,by have:=hc 0 (.int .i64 x) (by rw [hr]; rfl); simpa [intT,Addr.add] using this,hi⟩
theorem SL.len {T:Ty α} {F:Nat→Prop} {w:World} {A:Option Addr} {n cap:Nat} {l:List α} (h:SL T F w (.slice A n cap) l):n=l.length∧l.length≤cap∧l.length≤9223372036854775807:=by
 obtain ⟨A',cap',hv,h1,h2,_⟩:=h
 simp only [Value.slice.injEq] at hv
 obtain ⟨rfl,rfl,rfl⟩:=hv
 exact ⟨rfl,h1,h2⟩
end Go.PF
