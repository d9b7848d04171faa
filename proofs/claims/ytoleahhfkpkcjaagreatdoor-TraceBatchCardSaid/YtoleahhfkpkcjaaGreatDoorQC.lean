/- Texts of this claim,joined. -/
import Derived.Test.YtoleahhfkpkcjaaGreatDoorQB
import Derived.Scope
import Derived.Laws.IdiomStrings
import Derived.Laws.Strings3
import Derived.Laws.Runes
import Derived.DataElems
set_option linter.unusedSimpArgs false
set_option linter.unusedVariables false
set_option maxRecDepth 100000
set_option maxHeartbeats 4000000
variable {w:Go.World} {t e t':Go.TypeId} {A:Option Go.Addr} {F:Nat->Prop} {R φ:Go.Value->Go.World->Prop} {k:Go.IntKind} {ad:Go.Addr} {α:Type} {v:Go.Value} {E:Go.PF.Env} {s sz n id cap:Nat} {o:Go.Oper} {vs cs:List Go.Value} {T:Go.PF.Ty α} {i m:Int} {l:List α} {c:Go.Code} {xs:List Go.Operand} {ts:Array Go.TypeId}
namespace Go.PF
open Go.RowKit
section
theorem mf: ∀(D:DE) (s:List Nat) (i:Nat),bR (iy D s) i=if oP s i=true then none else bR D i
 | [],s,i=>by simp [iy,bR]
 | (j,c,e)::D,s,i=>by
  have b:=mf D s i;simp only [iy]
  cases d:oP s j with
  | true =>
   simp only [b,bR];by_cases a:j=i
   .subst a;  simp [d]
   .rw [kF a]
  | false =>
   simp only [bR];by_cases a:j=i
   .subst a;  simp [d]
   .rw [kF a]; exact b
theorem hasN_iff {s:List Nat} {i:Nat}:oP s i=true↔i∈s:=by
 induction s with
 | nil=>simp [oP]
 | cons j t b =>
  simp only [oP,List.mem_cons];by_cases a:j=i
  .subst a;  simp
  .rw [kF a,b];exact ⟨λh=> .inr h,λh=>h.resolve_left (λe=>a e.symm)⟩
theorem ko {α:Type} {p:α->Bool}: ∀ {l:List α} {i j:Nat} {a b:α},(l.filter p).length<=1->l[i]?=some a->p a=true->l[j]?=some b->p b=true->i=j
 | [],i,j,a,b,_,h,_,_,_=>by simp at h
 | x::l,0,0,a,b,_,_,_,_,_=>rfl
 | x::l,0,j+1,a,b,e,f,c,g,d=>by
  simp at f g; subst f;rw [List.filter_cons_of_pos c] at e;have:=List.mem_filter.2 ⟨ZF g,d⟩;have:=List.length_pos_of_mem this
  rw [List.length_cons] at e; omega
 | x::l,i+1,0,a,b,e,f,c,g,d=>by
  simp at f g; subst g;rw [List.filter_cons_of_pos d] at e;have:=List.mem_filter.2 ⟨ZF f,c⟩;have:=List.length_pos_of_mem this
  rw [List.length_cons] at e; omega
 | x::l,i+1,j+1,a,b,e,f,c,g,d=>by
  have k:(l.filter p).length<=1:=by
   by_cases m:p x=true
   .rw [List.filter_cons_of_pos m,List.length_cons] at e; omega
   .rw [List.filter_cons_of_neg m] at e; exact e
  rw [ko k f c g d]
structure Disc (w0:World) where
 rel:World->Prop
 tok:Oper->Bool
 lock:World->Prop
 still:World->World->Prop
 lock_still: ∀w w',still w w'->lock w->lock w'
 still_refl: ∀w,still w w
 fs:List Nat
 fin:Act->World->Prop
 fin_still: ∀(a a':Act) w w',(∀x,x∈fs->a'.tmps.getD x undef=a.tmps.getD x undef)->still w w'->fin a w->fin a' w'
 good:Bool->Ent->Prop
 foot:Ent->Value->World->Nat->Prop
 step:World->World->(Nat->Prop)->Prop
 foot_ex: ∀v u w g,¬foot (.ex v) u w g
 step_refl: ∀w E,step w w E
 rel_step: ∀w w' E,rel w->step w w' E->rel w'
 keep: ∀b e,good b e-> ∀v w w' E,rel w->step w w' E->(b=true->still w w')->(∀g,foot e v w g-> ¬E g)->e.sat v w->e.sat v w'
 back: ∀b e,good b e-> ∀v w w' E,rel w->step w w' E->(b=true->still w w')->(∀g,foot e v w g-> ¬E g)->e.sat v w-> ∀g,foot e v w' g->foot e v w g
 bound: ∀b e,good b e-> ∀v w,e.sat v w-> ∀g,foot e v w g->g<w.heap.size
 inv:World->Prop
 inv_step: ∀w w' E,step w w' E->inv w->inv w'
def Uv (w0:World):Disc w0 where
 rel:=Below w0.heap.size w0
 tok:=λ_=>false
 lock:=λ_=>True
 still:=λ_ _=>True
 lock_still:=λ_ _ _ h=>h
 still_refl:=λ_=>trivial
 fs:= []
 fin:=λ_ _=>True
 fin_still:=λ_ _ _ _ _ _ h=>h
 good:=λ_=>Ent.mono
 foot:=λ_ _ _ _=>False
 step:=λw w' _=>ZT w w'
 foot_ex:=λ_ _ _ _ h=>h
 step_refl:=λw _=>Below.refl _ w
 rel_step:=λw w' _ hb h=>hb.trans (h.mono hb.size)
 keep:=λ_ e hm v w w' E _ hs _ _ h=>nZ hm hs h
 back:=λ_ _ _ _ _ _ _ _ _ _ _ _ _ h=>h.elim
 bound:=λ_ _ _ _ _ _ _ h=>h.elim
 inv:=λ_=>True
 inv_step:=λ_ _ _ _ _=>trivial
def Xp (w0:World) (d0:Nat):Disc w0 where
 rel:=Below w0.heap.size w0
 tok:=λ_=>false
 lock:=λ_=>True
 still:=λ_ _=>True
 lock_still:=λ_ _ _ h=>h
 still_refl:=λ_=>trivial
 fs:= []
 fin:=λ_ _=>True
 fin_still:=λ_ _ _ _ _ _ h=>h
 good:=λ_=>Ent.mono
 foot:=λ_ _ _ _=>False
 step:=λw w' _=>ZT w w'/\w.drawn<=w'.drawn
 foot_ex:=λ_ _ _ _ h=>h
 step_refl:=λw _=>⟨Below.refl _ w,ZC⟩
 rel_step:=λw w' _ hb h=>hb.trans (h.1.mono hb.size)
 keep:=λ_ e hm v w w' E _ hs _ _ h=>nZ hm hs.1 h
 back:=λ_ _ _ _ _ _ _ _ _ _ _ _ _ h=>h.elim
 bound:=λ_ _ _ _ _ _ _ h=>h.elim
 inv:=λw=>d0<=w.drawn
 inv_step:=λ_ _ _ h h'=>Nat.le_trans h' h.2
def WM (w0:World):Disc w0 where
 rel:=Below w0.heap.size w0
 tok:=λ_=>false
 lock:=λ_=>True
 still:=λ_ _=>True
 lock_still:=λ_ _ _ h=>h
 still_refl:=λ_=>trivial
 fs:= []
 fin:=λ_ _=>True
 fin_still:=λ_ _ _ _ _ _ h=>h
 good:=λ_=>Ent.strong w0
 foot:=λe v _ g=>Ent.foot e v g
 step:=zM w0
 foot_ex:=λ_ _ _ _ h=>h
 step_refl:=λw _=>⟨Below.refl _ w,λ_ _ _ _=>rfl⟩
 rel_step:=λw w' _ hb h=>hb.trans h.1
 keep:=λ_ e hs v w w' E _ hst _ hE h=>by
  cases e with
  | ex u=>exact h
  | pr φ=>exact hs v w w' hst.1 h
  | own φ S =>
   refine hs.1 v w w' hst.1 (λg hg=> ?_) h
   obtain ⟨h1,h2⟩:=hs.2 v w h g hg
   exact hst.2 g h1 h2 (hE g hg)
 back:=λ_ _ _ _ _ _ _ _ _ _ _ _ _ h=>h
 bound:=λ_ e hs v w h g hg=>by
  cases e with
  | ex u=>exact hg.elim
  | pr φ=>exact hg.elim
  | own φ S=>exact (hs.2 v w h g hg).2
 inv:=λ_=>True
 inv_step:=λ_ _ _ _ _=>trivial
theorem Free.bound (hm: ∀v w b,ZT w b->φ v w->φ v b) (h:φ v w) {g:Nat} (d:w.heap.size<=g):Free φ v w g :=
 λb a _=>hm v w b ⟨a.os,a.tape,a.output,a.size,λk c=>a.block k c (λe=>by cases e; omega)⟩ h
theorem Free.next (hm: ∀v w w',ZT w w'->φ v w->φ v w') {w':World} (h:φ v w) (hb:ZT w w') {g:Nat} (m:Free φ v w g):Free φ v w' g:=by
 intro d a n;rcases ZI g w.heap.size with f|j
 .have l:g<d.heap.size:=by have:=hb.size; omega
  refine hm v {w with heap:=w.heap.setIfInBounds g d.heap[g]} d ?_ (m _ ⟨rfl,rfl,rfl,ZM,λk c i=> ?_⟩ ZM)
  .refine ⟨a.os.trans hb.os,a.tape.trans hb.tape,a.output.trans hb.output,by simp; have:=hb.size; have:=a.size; omega,λk c=> ?_⟩;simp at c;by_cases b:k=g
   .subst b;simp [f]
   .have:g≠k:=λe=>b e.symm;simp only [Array.getElem?_setIfInBounds_ne this];exact (a.block k (by have:=hb.size; omega) (λe=>by cases e; exact b rfl)).trans (hb.block k c)
  .have:g≠k:=λe=>i (by rw [e]);simp [Array.getElem?_setIfInBounds_ne this]
 .exact hm v w d ⟨a.os.trans hb.os,a.tape.trans hb.tape,a.output.trans hb.output,Nat.le_trans hb.size a.size,λk c=>(a.block k (by have:=hb.size; omega) (λe=>by cases e; omega)).trans (hb.block k c)⟩ h
def Ri (w0:World):Disc w0 where
 rel:=Below w0.heap.size w0
 tok:=λ_=>false
 lock:=λ_=>True
 still:=λ_ _=>True
 lock_still:=λ_ _ _ h=>h
 still_refl:=λ_=>trivial
 fs:= []
 fin:=λ_ _=>True
 fin_still:=λ_ _ _ _ _ _ h=>h
 good:=λ_=>Ent.mono
 foot:=λe v w g=> ¬e.freeAt v w g
 step:=λw w' _=>ZT w w'
 foot_ex:=λ_ _ _ _ h=>h trivial
 step_refl:=λw _=>Below.refl _ w
 rel_step:=λw w' _ hb h=>hb.trans (h.mono hb.size)
 keep:=λ_ e hm v w w' E _ hs _ _ h=>nZ hm hs h
 back:=λ_ e hm v w w' E _ hs _ _ h g hg hf=>hg (by
  cases e with
  | ex u=>trivial
  | pr φ=>trivial
  | own φ S=>exact Free.next hm h hs hf)
 bound:=λ_ e hm v w h g hg=>by
  rcases ZI g w.heap.size with hlt|hge
  .exact hlt
  .refine absurd ?_ hg
   cases e with
   | ex u=>trivial
   | pr φ=>trivial
   | own φ S=>exact Free.bound hm h hge
 inv:=λ_=>True
 inv_step:=λ_ _ _ _ _=>trivial
section sound
variable {P:Program} {r:Option Nat} {Q:Exit->Act->World->Prop} {N:Nat} {ds:List Deferred} {ops:List Oper} {w0:World}
abbrev Lay:=Option Bool×Ent×List Nat
def Disc.Lo (dc:Disc w0) (o:Oper) (a:Act) (w w':World):Prop:=(dc.tok o=false->dc.still w w')/\(dc.tok o=true->dc.fin a w')
def GY (dc:Disc w0) (D:DE) (eats:List Nat) (a:Act) (w:World) (g:Nat):Prop:= ∃s c e,oP eats s=true/\bR D s=some (c,e)/\aF c/\dc.foot e (a.tmps.getD s undef) w g
def tQ (P:Program) (N:Nat) (ds:List Deferred) (ops:List Oper) (dc:Disc w0) (o:Oper) (D:DE) (G:Option Bool) (e:Ent) (eats:List Nat):Prop :=
 fD ops D o.guard=some G/\aC N o.dst=true/\dX o.op=true/\dc.good (dc.tok o) e/\tZ ops o eats=true/\(∀s,s∈eats-> ∃c φ S,bR D s=some (c,.own φ S)) /\
 (aF G-> ∀a w,dc.rel w->(dc.tok o=true->dc.lock w)->FitL N ds (o.looksAt ops.toArray) D a w ->
  (∃v w',((execOp a.eval o).run P w= .ok (.value v) w'\/(o.dst=none/\(execOp a.eval o).run P w= .ok .skip w'))/\dc.step w w' (GY dc D eats a w)/\dc.Lo o a w w'/\e.sat v w'/\ ∀g,dc.foot e v w' g->GY dc D eats a w g\/w.heap.size<=g) \/
  (∃f vs,(execOp a.eval o).run P w= .ok (.enter f vs) w/\Gives P f vs w λv w'=>dc.step w w' (GY dc D eats a w)/\dc.Lo o a w w'/\e.sat v w'/\ ∀g,dc.foot e v w' g->GY dc D eats a w g\/w.heap.size<=g))
def AQ (w0:World) (d0:Nat):Mode->Disc w0
 | .weak=>Uv w0
 | .own=>WM w0
 | .cnt=>Xp w0 d0
 | .free=>Ri w0
def fT (D:DE):List Oper->List Lay->DE
 | o::os,(G,e,s)::ges=>fT (bE (iy D s) o.dst G e) os ges
 | _,_=>D
theorem rC {Fin:DE->Prop} {m:Mode} (M:Nat): ∀ {b:List Oper} {D:DE},DW P N ds m ops w0 Fin b D ->
  ∃ k:List Lay,k.length=b.length/\Fin (fT D b k) /\
   ∀ i o G e s,b[i]?=some o->k[i]?=some (G,e,s)->tQ P N ds ops (AQ w0 M m) o (fT D (b.take i) (k.take i)) G e s
 | [],D,h=>⟨[],rfl,by cases m<;>exact h,λi o G e s l _=>by simp at l⟩
 | o::b,D,h=>by
  have H: ∃G e s,tQ P N ds ops (AQ w0 M m) o D G e s/\DW P N ds m ops w0 Fin b (bE (iy D s) o.dst G e):=by
   cases m with
   | weak =>
    obtain ⟨G,e,⟨l,q,r,t,u⟩,x⟩:=h;refine ⟨G,e,[],⟨l,q,r,t,rfl,λs I=>by simp at I,λy a w z _ A=> ?_⟩,by rw [fq]; exact x⟩;rcases u y a w z A with ⟨v,n,c,d,j⟩|⟨f,B,c,d⟩
    .exact .inl ⟨v,n,.inl c,d,⟨λ_=>trivial,λ_=>trivial⟩,j,λg C=>C.elim⟩
    .exact .inr ⟨f,B,c,d.mono λv n ⟨j,p⟩=>⟨j,⟨λ_=>trivial,λ_=>trivial⟩,p,λg C=>C.elim⟩⟩
   | own =>
    obtain ⟨G,e,s,⟨l,q,r,t,u,x,J⟩,K⟩:=h;refine ⟨G,e,s,⟨l,q,r,t,u,x,λy a w z _ A=> ?_⟩,K⟩;rcases J y a w z A with ⟨v,n,c,d,j,p⟩|⟨f,B,c,d⟩
    .exact .inl ⟨v,n,.inl c,d,⟨λ_=>trivial,λ_=>trivial⟩,j,p⟩
    .exact .inr ⟨f,B,c,d.mono λv n ⟨j,p,L⟩=>⟨j,⟨λ_=>trivial,λ_=>trivial⟩,p,L⟩⟩
   | cnt =>
    obtain ⟨G,e,⟨l,q,r,t,u⟩,x⟩:=h;refine ⟨G,e,[],⟨l,q,r,t,rfl,λs I=>by simp at I,λy a w z _ A=> ?_⟩,by rw [fq]; exact x⟩;rcases u y a w z A with ⟨v,n,c,d,j⟩|⟨f,B,c,d⟩
    .exact .inl ⟨v,n,.inl c,d,⟨λ_=>trivial,λ_=>trivial⟩,j,λg C=>C.elim⟩
    .exact .inr ⟨f,B,c,d.mono λv n ⟨j,p⟩=>⟨j,⟨λ_=>trivial,λ_=>trivial⟩,p,λg C=>C.elim⟩⟩
   | free =>
    obtain ⟨G,e,s,⟨l,q,r,t,u,x,J⟩,K⟩:=h;refine ⟨G,e,s,⟨l,q,r,t,u,x,λy a w z _ A=> ?_⟩,K⟩;rcases J y a w z A with ⟨v,n,c,d,j,p⟩|⟨f,B,c,d⟩
    .exact .inl ⟨v,n,.inl c,d,⟨λ_=>trivial,λ_=>trivial⟩,j,p⟩
    .exact .inr ⟨f,B,c,d.mono λv n ⟨j,p,L⟩=>⟨j,⟨λ_=>trivial,λ_=>trivial⟩,p,L⟩⟩
  obtain ⟨G,e,s,l,q⟩:=H;obtain ⟨k,O,R,S⟩:=rC M q;refine ⟨(G,e,s)::k,by simp [O],R,?_⟩;intro i U W Y Z E F
  cases i with
  | zero =>
   simp at E F;obtain ⟨rfl,rfl,rfl⟩:=F;subst E
   simpa [fT] using l
  | succ i =>
   simpa [fT] using S i U W Y Z E F
theorem gG {s:Nat} {x:Option Bool×Ent}: ∀(l:List Oper) (a:List Lay) (D:DE),bR (fT D l a) s=some x ->
  (∃(k:Nat) (o:Oper) (G:Option Bool) (e:Ent) (E:List Nat),l[k]?=some o/\a[k]?=some (G,e,E)/\o.dst=some s/\x=(G,e)/\ ∀(j:Nat) (m:Oper) (n:Option Bool) (p:Ent) (f:List Nat),k<j->l[j]?=some m->a[j]?=some (n,p,f)-> ¬s∈f) \/
  (bR D s=some x/\(∀(k:Nat) (o:Oper) (G:Option Bool) (e:Ent) (E:List Nat),l[k]?=some o->a[k]?=some (G,e,E)->o.dst≠some s/\ ¬s∈E))
 | [],a,D,h=> .inr ⟨by simpa [fT] using h,λk o G e E B=>by simp at B⟩
 | o::l,[],D,h=> .inr ⟨by simpa [fT] using h,λk o G e E _ c=>by simp at c⟩
 | o::l,(G,e,E)::a,D,h=>by
  rcases gG l a _ h with ⟨k,m,n,p,f,b,v,C,F,H⟩|⟨b,v⟩
  .refine .inl ⟨k+1,m,n,p,f,by simpa using b,by simpa using v,C,F,λj w y z A I q c=> ?_⟩;obtain ⟨j,rfl⟩: ∃i,j=i+1:=⟨j-1,ZJ⟩;exact H j w y z A ZJ (by simpa using q) (by simpa using c)
  .have u:(o.dst=some s/\x=(G,e))\/(o.dst≠some s/\bR (iy D E) s=some x):=by
    cases g:o.dst with
    | none=>rw [g] at b; exact .inr ⟨ZM,b⟩
    | some d =>
     rw [g] at b;simp only [bE,bR] at b;by_cases r:d=s
     .subst r;  simp at b; exact .inl ⟨rfl,b.symm⟩
     .rw [kF r] at b; exact .inr ⟨λe=>r (by simpa using e),b⟩
   rcases u with ⟨u,t⟩|⟨u,t⟩
   .refine .inl ⟨0,o,G,e,E,rfl,rfl,u,t,λj m n p f I q c=> ?_⟩;obtain ⟨j,rfl⟩: ∃i,j=i+1:=⟨j-1,ZJ⟩;exact (v j m n p f (by simpa using q) (by simpa using c)).2
   .rw [mf] at t
    split at t
    .cases t
    .rename_i J;refine .inr ⟨t,λk m n p f q c=> ?_⟩
     cases k with
     | zero =>
      simp at q c;obtain ⟨rfl,rfl,rfl⟩:=c;subst q
      exact ⟨u,λK=>J (hasN_iff.2 K)⟩
     | succ k=>exact v k m n p f (by simpa using q) (by simpa using c)
inductive Reach (ops:List Oper):Nat->Nat->Prop
 | one {i:Nat} {o:Oper} {e:Edge}:ops[i]?=some o->e∈o.after->Region.binds .any e=true->Reach ops i e.on
 | more {i k:Nat} {o:Oper} {e:Edge}:ops[i]?=some o->e∈o.after->Region.binds .any e=true->Reach ops e.on k->Reach ops i k
def qQ (acc:List Nat) (o:Oper):Nat:=o.after.toList.foldl (λm e=>if Region.binds .any e then m ||| (1 <<< e.on) ||| acc.getD e.on 0 else m) 0
def pR:List Nat->List Oper->List Nat
 | acc,[]=>acc
 | acc,o::os=>pR (acc++ [qQ acc o]) os
def gF (ops:List Oper):List Nat:=pR [] ops
def iL (ops:List Oper) (s t:Nat):Bool:=((gF ops).drop t).all λm=>Nat.beq ((m >>> s) &&& ((1 <<< (t-s))-1)) ((1 <<< (t-s))-1)
theorem CP {acc:List Nat} {k:Nat} (h:(qQ acc o).testBit k=true): ∃e∈o.after,Region.binds .any e=true/\(e.on=k\/(acc.getD e.on 0).testBit k=true):=by
 have b: ∀(l:List Edge) (m:Nat),(l.foldl (λm e=>if Region.binds .any e then m ||| (1 <<< e.on) ||| acc.getD e.on 0 else m) m).testBit k=true->m.testBit k=true\/ ∃e∈l,Region.binds .any e=true/\(e.on=k\/(acc.getD e.on 0).testBit k=true):=by
  intro l
  induction l with
  | nil=>intro m h; exact .inl h
  | cons e l f =>
   intro m h;rw [List.foldl_cons] at h;rcases f _ h with a|⟨g,a,c⟩
   .split at a
    .rename_i d;rw [Nat.testBit_or,Nat.testBit_or,Bool.or_eq_true,Bool.or_eq_true] at a;rcases a with (a|a)|a
     .exact .inl a
     .refine .inr ⟨e,ZM,d,.inl ?_⟩;rw [Nat.one_shiftLeft,Nat.testBit_two_pow] at a;exact of_decide_eq_true a
     .exact .inr ⟨e,ZM,d,.inr a⟩
    .exact .inl a
   .exact .inr ⟨g,by simp [a],c⟩
 rcases b _ 0 h with a|⟨e,a,c⟩
 .simp at a
 .exact ⟨e,by simpa using a,c⟩
theorem qB: ∀(d:List Oper) (a:List Nat),(∀i,a.length<=i->ops[i]?=d[i-a.length]?)->(∀i k,(a.getD i 0).testBit k=true->Reach ops i k)-> ∀i k,((pR a d).getD i 0).testBit k=true->Reach ops i k
 | [],a,_,h,i,k,b=>h i k b
 | o::d,a,l,h,i,k,b=>by
  refine qB d (a++ [qQ a o]) (λi f=> ?_) (λi k b=> ?_) i k b
  .simp at f;rw [l i ZJ];have:i-a.length=(i-(a++ [qQ a o]).length)+1:=ZO;rw [this]; simp
  .by_cases f:i<a.length
   .refine h i k ?_;rw [List.getD_eq_getElem?_getD,List.getElem?_append_left f,<-List.getD_eq_getElem?_getD] at b; exact b
   .by_cases g:i=a.length
    .subst g;have e:(a++ [qQ a o]).getD a.length 0=qQ a o:=ZM;rw [e] at b;have c:ops[a.length]?=some o:=by rw [l _ ZC]; simp
     obtain ⟨e,m,n,j|j⟩:=CP b
     .rw [<-j]; exact .one c m n
     .exact .more c m n (h _ _ j)
    .have:(a++ [qQ a o]).getD i 0=0:=by
      rw [List.getD_eq_getElem?_getD,List.getElem?_eq_none ZO]; rfl
     rw [this] at b; simp at b
theorem uT {i k:Nat} (h:((gF ops).getD i 0).testBit k=true):Reach ops i k:=qB ops [] (λi _=>ZM) (λi k h=>by simp at h) i k h
theorem iX: ∀(b:List Oper) (a:List Nat),(pR a b).length=a.length+b.length
 | [],a=>by simp [pR]
 | o::b,a=>by rw [pR,iX b]; simp; omega
theorem xy {t:Nat} (h:iL ops s t=true) {i k:Nat} (e:t<=i) (j:i<ops.length) (f:s<=k) (g:k<t):Reach ops i k:=by
 unfold iL at h;rw [List.all_eq_true] at h;have b:(gF ops).length=ops.length:=by unfold gF; rw [iX]; simp
 have c:(gF ops).getD i 0∈(gF ops).drop t:=by
  rw [List.mem_iff_getElem?];refine ⟨i-t,?_⟩;rw [List.getElem?_drop,show t+(i-t)=i by omega,List.getD_eq_getElem?_getD,ZD ZJ];rfl
 have d:=Nat.eq_of_beq_eq_true (h _ c);refine uT ?_;have a:((((gF ops).getD i 0) >>> s) &&& ((1 <<< (t-s))-1)).testBit (k-s)=true:=by
  rw [d,Nat.one_shiftLeft,Nat.testBit_two_pow_sub_one];simp; omega
 rw [Nat.testBit_and,Bool.and_eq_true,Nat.testBit_shiftRight] at a;rw [show s+(k-s)=k by omega] at a;exact a.1
theorem nJ {listed:Array Bool} (l: ∀k o,ops[k]?=some o->listed.getD k false=true-> ∀e∈o.after,Region.binds .any e=true->listed.getD e.on false=true) (hb: ∀k o,ops[k]?=some o-> ∀e∈o.after,Region.binds .any e=true->e.on<k)
  {i k:Nat} (h:Reach ops i k):(∀o,ops[i]?=some o-> ∀e∈o.after,Region.binds .any e=true->listed.getD e.on false=true)->listed.getD k false=true:=by
 induction h with
 | one a b c=>intro d; exact d _ a _ b c
 | @more i k o e a b c _ g =>
  intro d;exact g (λj f=>l _ j f (d _ a _ b c))
def jl (ges:List Lay) (s:Nat) (listed:Array Bool) (d:Nat):Prop:= ∃j G e E,ges[j]?=some (G,e,E)/\d∈E/\listed.getD (s+j) false=true
structure DInv (N:Nat) (ds:List Deferred) (ops:List Oper) (dc:Disc w0) (s:Nat) (ges:List Lay) (a0:Act) (listed:Array Bool) (a:Act) (w:World):Prop where
 below:dc.rel w
 lock: ∀k o,k<ges.length->ops[s+k]?=some o->dc.tok o=true->listed.getD (s+k) false=false->dc.lock w
 inv:dc.inv w
 fin: ∀k o G e E,ops[s+k]?=some o->ges[k]?=some (G,e,E)->dc.tok o=true->listed.getD (s+k) false=true->aF G->dc.fin a w
 size:a.tmps.size=N
 defers:a.defers=ds
 pre: ∀k,k<s->listed.getD k false=true
 post: ∀k,s+ges.length<=k->listed.getD k false=false
 done: ∀k o d G e E,ops[s+k]?=some o->o.dst=some d->ges[k]?=some (G,e,E)->listed.getD (s+k) false=true-> ¬jl ges s listed d->nD G e (a.tmps.getD d undef) w
 apart: ∀k o d G e E k' o' d' G' e' E',ops[s+k]?=some o->o.dst=some d->ges[k]?=some (G,e,E)->listed.getD (s+k) false=true-> ¬jl ges s listed d->aF G ->
  ops[s+k']?=some o'->o'.dst=some d'->ges[k']?=some (G',e',E')->listed.getD (s+k') false=true-> ¬jl ges s listed d'->aF G'->k≠k'-> ∀g,dc.foot e (a.tmps.getD d undef) w g->dc.foot e' (a.tmps.getD d' undef) w g->False
 todo: ∀k o d,k<ges.length->ops[s+k]?=some o->o.dst=some d->listed.getD (s+k) false=false->a.tmps.getD d undef=a0.tmps.getD d undef
 others: ∀x,(∀(k:Nat) (o:Oper),k<ges.length->ops[s+k]?=some o->o.dst≠some x)->a.tmps.getD x undef=a0.tmps.getD x undef
 closed: ∀k o,ops[k]?=some o->listed.getD k false=true-> ∀e∈o.after,Region.binds .any e=true->listed.getD e.on false=true
def bN (ops:List Oper) (s t:Nat):List Oper:=(ops.drop s).take (t-s)
theorem fH {t k:Nat}:(bN ops s t)[k]?=if k<t-s then ops[s+k]? else none:=by
 unfold bN;rw [List.getElem?_take]
 split
 .rw [List.getElem?_drop]
 .rfl
theorem lG {D0:DE} {ges:List Lay} {a0:Act} {t:Nat} (C:Disc w0) (az:fU ops=true) (cc:iL ops s t=true) (b7:s<=t) (d5:t<=ops.length) (hl:ges.length=t-s)
  (M: ∀i o G e E,ops[s+i]?=some o->ges[i]?=some (G,e,E)->tQ P N ds ops C o (fT D0 ((bN ops s t).take i) (ges.take i)) G e E)
  (b0: ∀i j o o',i<t-s->j<t-s->ops[s+i]?=some o->ops[s+j]?=some o'->C.tok o=true->C.tok o'=true->i=j)
  (cd: ∀(i j:Nat) (o o':Oper),ops[i]?=some o->C.tok o=true->ops[j]?=some o'-> ∀x,x∈C.fs->o'.dst=some x-> ∃e∈o.after,Region.binds .any e=true/\e.on=j)
  (h0: ∀i c e,bR D0 i=some (c,e)-> ∃v,e= .ex v/\nD c e (a0.tmps.getD i undef) w0)
  (bo: ∀(D:Nat) (b:Array Bool) (a:Act) (w:World),b.size=ops.length->(∀k,k<ops.length->b.getD k false=decide (k<t))->ops.length-t<=D->C.rel w->C.inv w->(∀k o G e E,ops[s+k]?=some o->ges[k]?=some (G,e,E)->C.tok o=true->aF G->C.fin a w)->DInv N ds ops C s ges a0 b a w->FitD N ds (fT D0 (bN ops s t) ges) a w->wpAnyIn (FR r) 0 P .any ops.toArray Q D b a w) :
  ∀ (D:Nat) (b:Array Bool) (a:Act) (w:World),b.size=ops.length->((List.range ops.length).filter λk=> !b.getD k false).length<=D->DInv N ds ops C s ges a0 b a w ->
   wpAnyIn (FR r) 0 P .any ops.toArray Q D b a w:=by
 have am: ∀k o,ops[k]?=some o-> ∀e∈o.after,Region.binds .any e=true->e.on<k:=λk o l e he hb=>(dH az l l).1 e he hb;have af: ∀ {k:Nat} {o:Oper},k<t-s->(ops[s+k]?=some o↔(bN ops s t)[k]?=some o):=λl=>by rw [fH,if_pos l]
 have b2: ∀ {x k i:Nat} {o o':Oper},ops[k]?=some o->o.dst=some x->ops[i]?=some o'->o'.dst=some x->i=k:=by
  intro x k i o o' l I ce A;rcases ((dH az ce l).2 x I).1 with h|h
  .exact h.symm
  .exact absurd A h
 have O: ∀ {j:Nat} {L:Lay},ges[j]?=some L->j<t-s:=λhg=>by rw [<-hl]; exact (ZE hg).1
 have aq: ∀ {j:Nat},j<t-s-> ∃o,ops[s+j]?=some o:=λhj=>⟨_,ZD ZJ⟩;have ar: ∀ {j:Nat},j<t-s-> ∃G e E,ges[j]?=some (G,e,E):=λhj=>⟨_,_,_,ZD ZJ⟩;have au: ∀ {j x:Nat} {G e E} {o:Oper},ges[j]?=some (G,e,E)->x∈E->ops[s+j]?=some o->x∈o.looksAt ops.toArray:=by
  intro j x G e E o hg hs ho;have h5:=(M j o G e E ho hg).2.2.2.2.1;unfold tZ at h5;rw [List.all_eq_true] at h5;have h6:=h5 x hs;simp only [Bool.and_eq_true] at h6;simpa using h6.1
 have bp: ∀ {j i x:Nat} {G e E} {o:Oper},ges[j]?=some (G,e,E)->x∈E->ops[i]?=some o->x∈o.looksAt ops.toArray->s+j=i:=by
  intro j i x G e E o hg hs ho q;obtain ⟨oj,hj⟩:=aq (O hg);have h5:=(M j oj G e E hj hg).2.2.2.2.1;unfold tZ at h5;rw [List.all_eq_true] at h5;have h6:=h5 x hs;simp only [Bool.and_eq_true] at h6;exact ko (p:=λp=>(p.looksAt ops.toArray).contains x) (Nat.le_of_ble_eq_true h6.2) hj h6.1 ho (by simpa using q)
 have an: ∀ {i k:Nat} {o:Oper} {L:Lay},i<=t-s->((bN ops s t).take i)[k]?=some o->(ges.take i)[k]?=some L->k<i/\ops[s+k]?=some o/\ges[k]?=some L:=by
  intro i k o L hi H h2;have u:k<i:=by have:=(ZE H).1; simp at this; omega
  rw [List.getElem?_take_of_lt u] at H h2;exact ⟨u,(af ZJ).2 H,h2⟩
 have bi: ∀ {j k x:Nat} {G e E} {o:Oper},ges[j]?=some (G,e,E)->x∈E->ops[k]?=some o->o.dst=some x->s<=k/\k<s+j:=by
  intro j k x G e E o hg hs l I;obtain ⟨oj,hj⟩:=aq (O hg);obtain ⟨c,φ,S,q⟩:=(M j oj G e E hj hg).2.2.2.2.2.1 x hs;rcases gG _ _ D0 q with ⟨k',o',G',e',E',R,m,A,hx,_⟩|⟨H,_⟩
  .obtain ⟨H,h2,_⟩:=an (by have:=O hg; omega) R m;have:=b2 h2 A l I;omega
  .obtain ⟨v,hv,_⟩:=h0 x c _ H;cases hv
 intro D
 induction D with
 | zero =>
  intro b a w b3 av B;have aw: ∀k,k<ops.length->b.getD k false=true:=by
   intro k l
   cases hc:b.getD k false with
   | true=>rfl
   | false =>
    exfalso;have:k∈(List.range ops.length).filter λk=> !b.getD k false:=by rw [List.mem_filter]; exact ⟨by simpa using l,by rw [hc]; rfl⟩
    have bv:(List.range ops.length).filter (λk=> !b.getD k false)= []:=List.eq_nil_of_length_eq_zero ZJ;rw [bv] at this;cases this
  have cy:t=ops.length:=by
   rcases ZI t ops.length with h|h
   .have:=B.post t ZJ;rw [aw t h] at this; cases this
   .omega
  refine bo 0 b a w b3 (λk l=>by rw [aw k l]; simp; omega) ZJ B.below B.inv (λk o G e E l m ht hc=>B.fin k o G e E l m ht (aw _ (by have:=O m; omega)) hc) B ⟨B.size,B.defers,λx c e hs=> ?_⟩;rcases gG _ _ D0 hs with ⟨k,o,G,e',E,l,m,I,hx,bc⟩|⟨H,h2⟩
  .cases hx;have aa:=O m;have l:=(af aa).2 l;refine B.done k o x c e E l I m (aw _ ZJ) ?_;rintro ⟨j,G',e',E',a3,U,_⟩;obtain ⟨oj,hj⟩:=aq (O a3);have:=bi a3 U l I;exact bc j oj G' e' E' ZJ ((af (O a3)).1 hj) a3 U
  .obtain ⟨v,rfl,a2⟩:=h0 x c e H;rw [B.others x (λi o hi ho=>by
    obtain ⟨G,e,E,hg⟩:=ar (j:=i) ZJ;exact (h2 i o _ _ _ ((af ZJ).1 ho) hg).1)]
   exact a2
 | succ D ih =>
  intro b a w b3 av B;by_cases a4: ∀k,s<=k->k<t->b.getD k false=true
  .-- the bN is done
   have bw: ∀k,k<ops.length->b.getD k false=decide (k<t):=by
    intro k l;by_cases H:k<t
    .rcases ZI k s with h2|h2
     .rw [B.pre k h2]; simp [H]
     .rw [a4 k h2 H]; simp [H]
    .rw [B.post k ZJ]; simp [H]
   refine bo (D+1) b a w b3 bw ?_ B.below B.inv (λk o G e E l m ht hc=>B.fin k o G e E l m ht (a4 _ ZJ (by have:=O m; omega)) hc) B ⟨B.size,B.defers,λx c e hs=> ?_⟩
   .refine Nat.le_trans ?_ av;have:(List.range ops.length).filter (λk=> !b.getD k false)=(List.range ops.length).filter (λk=>decide (t<=k)):=by
     refine List.filter_congr λk l=> ?_;rw [bw k (by simpa using l)];by_cases H:k<t<;>simp [H]<;>omega
    rw [this];have bj:((List.range ops.length).filter λk=>decide (t<=k)).length=ops.length-t:=by
     rw [show ops.length=t+(ops.length-t) by omega,List.range_add,List.filter_append];simp;rw [List.filter_eq_nil_iff.2 (by intro x hx; simp at hx; simp; omega),List.filter_eq_self.2 (by intro x hx; simp at hx; obtain ⟨y,_,rfl⟩:=hx; simp)];simp
    omega
   .rcases gG _ _ D0 hs with ⟨k,o,G,e',E,l,m,I,hx,bc⟩|⟨H,h2⟩
    .cases hx;have aa:=O m;have l:=(af aa).2 l;refine B.done k o x c e E l I m (a4 _ ZJ ZJ) ?_;rintro ⟨j,G',e',E',a3,U,_⟩;obtain ⟨oj,hj⟩:=aq (O a3);have:=bi a3 U l I;exact bc j oj G' e' E' ZJ ((af (O a3)).1 hj) a3 U
    .obtain ⟨v,rfl,a2⟩:=h0 x c e H;rw [B.others x (λi o hi ho=>by
      obtain ⟨G,e,E,hg⟩:=ar (j:=i) ZJ;exact (h2 i o _ _ _ ((af ZJ).1 ho) hg).1)]
     exact a2
  .have bd: ∀k,s<=k->k<t->b.getD k false=false->(∀j,s<=j->j<k->b.getD j false=true)->k∈Region.ready .any ops.toArray b:=by
    intro k cz d0 hc bx;unfold Region.ready;rw [List.mem_filter];have l:k<ops.length:=ZJ;have a2:ops[k]?=some ops[k]:=ZD l;refine ⟨by simpa using l,?_⟩;have cf:b.getD k true=false:=by
     have:k<b.size:=ZJ;simpa [this] using hc
    simp only [cf,List.getElem?_toArray,a2,Option.map_some,Option.getD_some,Bool.not_false,Bool.true_and];rw [Array.all_eq_true'];intro e he
    cases be:Region.binds .any e with
    | false=>simp
    | true =>
     have ag:=am k _ a2 e he be;have:b.getD e.on false=true:=by
      rcases ZI e.on s with h|h
      .exact B.pre _ h
      .exact bx _ h ag
     simp [this]
   have bz: ∃k,s<=k/\k<t/\b.getD k false=false/\ ∀j,s<=j->j<k->b.getD j false=true:=by
    have cg: ∃k,s<=k/\k<t/\b.getD k false=false:=by
     rcases Classical.not_forall.1 a4 with ⟨k,l⟩;rcases Classical.not_forall.1 l with ⟨H,l⟩;rcases Classical.not_forall.1 l with ⟨h2,l⟩;exact ⟨k,H,h2,by simpa using l⟩
    obtain ⟨k,H,h2,h3⟩:=cg
    induction k using Nat.strongRecOn with
    | _ k ch =>
     by_cases hb: ∀j,s<=j->j<k->b.getD j false=true
     .exact ⟨k,H,h2,h3,hb⟩
     .rcases Classical.not_forall.1 hb with ⟨j,hj⟩;rcases Classical.not_forall.1 hj with ⟨g1,hj⟩;rcases Classical.not_forall.1 hj with ⟨g2,hj⟩;exact ch j g2 g1 ZJ (by simpa using hj)
   refine ⟨λhr=> ?_,λi hi=> ?_⟩
   .obtain ⟨k,H,h2,h3,h4⟩:=bz;have:=bd k H h2 h3 h4;rw [hr] at this; cases this
   unfold Region.ready at hi;rw [List.mem_filter] at hi;obtain ⟨ci,bf⟩:=hi;have bg:i<ops.length:=by simpa using ci
   have a2:ops[i]?=some ops[i]:=ZD bg;simp only [Bool.and_eq_true,List.getElem?_toArray,a2,Option.map_some,Option.getD_some] at bf;obtain ⟨bf,c0⟩:=bf;have ao:b.getD i false=false:=by
    have hs:i<b.size:=ZJ;simpa [hs] using bf
   rw [Array.all_eq_true'] at c0;have ab: ∀e∈ops[i].after,Region.binds .any e=true->b.getD e.on false=true:=by
    intro e he hb;have:=c0 e he;rw [hb] at this;simpa using this
   have d1:s<=i:=by
    rcases ZI i s with h|h
    .have:=B.pre i h; rw [ao] at this; cases this
    .exact h
   have d2:i<t:=by
    rcases ZI i t with h|h
    .exact h
    .exfalso;refine a4 λk cj ck=> ?_;exact nJ B.closed am (xy cc h bg cj ck) (λo ho e he hb=>by rw [a2] at ho; cases ho; exact ab e he hb)
   obtain ⟨n,rfl⟩: ∃n,i=s+n:=⟨i-s,ZJ⟩;have b4:n<t-s:=ZJ;obtain ⟨o,z⟩: ∃o,ops[s+n]?=some o:=⟨_,a2⟩;have cl:ops[s+n]=o:=by rw [a2] at z; simpa using z
   obtain ⟨Gi,ei,Ei,ah⟩:=ar b4;rw [cl] at ab;clear a2;obtain ⟨hg,I,hn,hm,d3,cm,cn⟩:=M n o Gi ei Ei z ah;have b5: ∀x,x∈o.looksAt ops.toArray-> ¬jl ges s b x:=by
    rintro x hs ⟨j,G,e,E,a3,U,c1⟩;have:=bp a3 U z hs;rw [this,ao] at c1; cases c1
   have bk: ∀x k p,x∈o.looksAt ops.toArray->k<s+n->ops[k]?=some p->p.dst=some x->b.getD k false=true:=by
    intro x k p ac u l I;obtain ⟨e',bq,br,ag⟩:=(((dH az z l).2 x I).2 ac).1 u;exact ag ▸ ab e' bq br
   have bl:FitL N ds (o.looksAt ops.toArray) (fT D0 ((bN ops s t).take n) (ges.take n)) a w:=by
    refine ⟨B.size,B.defers,λx ac c e hs=> ?_⟩;rcases gG _ _ D0 hs with ⟨k,p,G,e',E,l,m,I,hx,bc⟩|⟨H,h2⟩
    .cases hx;obtain ⟨u,l,m⟩:=an ZJ l m;exact B.done k p x c e E l I m (bk x (s+k) p ac ZJ l I) (b5 x ac)
    .obtain ⟨v,rfl,bm⟩:=h0 x c e H;by_cases hw: ∃(k:Nat) (p:Oper),k<ges.length/\ops[s+k]?=some p/\p.dst=some x
     .obtain ⟨k,p,aa,l,I⟩:=hw;have c2:n<=k:=by
       rcases ZI k n with u|c2
       .obtain ⟨G,e,E,hg⟩:=ar (j:=k) ZJ;exact absurd I (h2 k p _ _ _ (by rw [List.getElem?_take_of_lt u]; exact (af ZJ).1 l) (by rw [List.getElem?_take_of_lt u]; exact hg)).1
       .exact c2
      have q:b.getD (s+k) false=false:=by
       rcases (((dH az z l).2 x I).2 ac).2 ZJ with h|⟨e',bq,br,ag⟩
       .rw [h]; exact ao
       .cases hc:b.getD (s+k) false with
        | false=>rfl
        | true =>
         have:=B.closed (s+k) p l hc e' bq br;rw [ag,ao] at this;cases this
      rw [B.todo k p x aa l I q];exact bm
     .rw [B.others x (λk p l ho I=>hw ⟨k,p,l,ho,I⟩)];exact bm
   obtain ⟨co,cp⟩:=Gh (ops:=ops) (o:=o) bl (λd I=>CS I) hg;have bs: ∀x,x∈Ei-> ∃k p G e E,ops[s+k]?=some p/\p.dst=some x/\ges[k]?=some (G,e,E)/\b.getD (s+k) false=true/\bR (fT D0 ((bN ops s t).take n) (ges.take n)) x=some (G,e):=by
    intro x hs;obtain ⟨c,φ,S,q⟩:=cm x hs;have ac:=au ah hs z;rcases gG _ _ D0 q with ⟨k,p,G,e',E,l,m,I,hx,_⟩|⟨H,_⟩
    .obtain ⟨u,l,m⟩:=an ZJ l m;exact ⟨k,p,G,e',E,l,I,m,bk x (s+k) p ac ZJ l I,by rw [q,hx]⟩
    .obtain ⟨v,hv,_⟩:=h0 x c _ H;cases hv
   have F: ∀k,(b.setIfInBounds (s+n) true).getD k false=if k=s+n then true else b.getD k false:=by
    intro k;by_cases u:k=s+n
    .subst u; simp [b3,bg]
    .have:s+n≠k:=λe=>u e.symm;simp [u,Array.getElem?_setIfInBounds_ne this]
   have ad: ∀d,¬jl ges s (b.setIfInBounds (s+n) true) d-> ¬jl ges s b d/\ ¬d∈Ei:=by
    intro d h;refine ⟨λ⟨j,G,e,E,H,h2,h3⟩=>h ⟨j,G,e,E,H,h2,?_⟩,λI=>h ⟨n,Gi,ei,Ei,ah,I,by rw [F]; simp⟩⟩;rw [F]; split
    .rfl
    .exact h3
   have b6: ∀k p d G e E,ops[s+k]?=some p->p.dst=some d->ges[k]?=some (G,e,E)->b.getD (s+k) false=true-> ¬jl ges s b d->aF G-> ¬d∈Ei-> ∀g,C.foot e (a.tmps.getD d undef) w g-> ¬GY C (fT D0 ((bN ops s t).take n) (ges.take n)) Ei a w g:=by
    rintro k p d G e E l I m q K J ai g cq ⟨x,c,e',U,c3,cr,hf⟩;have U:=hasN_iff.1 U;obtain ⟨k',o',G',d4,E',R,A,a5,Z,cs⟩:=bs x U;rw [cs] at c3;cases c3;have ac:=au ah U z;refine B.apart k p d G e E k' o' x _ _ E' l I m q K J R A a5 Z (b5 x ac) cr (λh=> ?_) g cq hf;subst h;rw [l] at R; cases R;rw [I] at A; cases A;exact ai U
   have ae: ∀v w',C.step w w' (GY C (fT D0 ((bN ops s t).take n) (ges.take n)) Ei a w)->((C.tok o=false->C.still w w')/\(aF Gi->C.tok o=true->C.fin a w'))->nD Gi ei v w'->(aF Gi-> ∀g,C.foot ei v w' g->GY C (fT D0 ((bN ops s t).take n) (ges.take n)) Ei a w g\/w.heap.size<=g) ->
     wpAnyIn (FR r) 0 P .any ops.toArray Q D (b.setIfInBounds (s+n) true) (a.put o.dst v) w':=by
    intro v w' b7 W hs bt;refine ih _ _ _ (by simpa using b3) ?_ ?_
    .have bj:((List.range ops.length).filter λk=> !(b.setIfInBounds (s+n) true).getD k false)=((List.range ops.length).filter λk=> !b.getD k false).erase (s+n):=by
      have ct:((List.range ops.length).filter λk=> !b.getD k false).Nodup:=List.nodup_range.sublist List.filter_sublist;rw [ct.erase_eq_filter,List.filter_filter]
      congr 1
      funext k;rw [F];by_cases u:k=s+n<;>simp [u]
     rw [bj,List.length_erase_of_mem]
     .omega
     .rw [List.mem_filter]; exact ⟨by simpa using bg,by rw [ao]; rfl⟩
    .have a1: ∀x,o.dst≠some x->(a.put o.dst v).tmps.getD x undef=a.tmps.getD x undef:=by
      intro x b5
      cases A:o.dst with
      | none=>rfl
      | some d =>
       rw [A] at b5;have:d≠x:=λe=>b5 (by rw [e]);simp [Act.put,Array.getElem?_setIfInBounds_ne this]
     have Y: ∀x,o.dst=some x->(a.put o.dst v).tmps.getD x undef=v:=by
      intro x c4;rw [c4];have:x<a.tmps.size:=by
       rw [c4] at I;rw [B.size];exact blt_iff.1 I
      simp [Act.put,this]
     have aj: ∀ {k p d},ops[s+k]?=some p->p.dst=some d->k≠n->o.dst≠some d:=by
      intro k p d l A u h;have:=b2 z h l A;omega
     have c5: ∀k p d G e E,ops[s+k]?=some p->p.dst=some d->ges[k]?=some (G,e,E)->k≠n->b.getD (s+k) false=true-> ¬jl ges s b d-> ¬d∈Ei->nD G e (a.tmps.getD d undef) w':=by
      intro k p d G e E l A m u q K ai;have H:=B.done k p d G e E l A m q K;have b8:C.good (C.tok p) e:=(M k p G e E l m).2.2.2.1;have b9:C.tok p=true->C.still w w':=λhp=>by
       cases a6:C.tok o with
       | true=>exact absurd (b0 k n p o (O m) b4 l z hp a6) u
       | false=>exact W.1 a6
      exact ⟨λhc=>C.keep _ e b8 _ w w' _ B.below b7 b9 (b6 k p d G e E l A m q K hc ai) (H.1 hc),H.2⟩
     have bu: ∀k p d G e E,ops[s+k]?=some p->p.dst=some d->ges[k]?=some (G,e,E)->k≠n->b.getD (s+k) false=true-> ¬jl ges s b d-> ¬d∈Ei->aF G-> ∀g,C.foot e (a.tmps.getD d undef) w' g->C.foot e (a.tmps.getD d undef) w g:=by
      intro k p d G e E l A m u q K ai J;have b8:C.good (C.tok p) e:=(M k p G e E l m).2.2.2.1;have b9:C.tok p=true->C.still w w':=λhp=>by
       cases a6:C.tok o with
       | true=>exact absurd (b0 k n p o (O m) b4 l z hp a6) u
       | false=>exact W.1 a6
      exact C.back _ e b8 _ w w' _ B.below b7 b9 (b6 k p d G e E l A m q K J ai) ((B.done k p d G e E l A m q K).1 J)
     have bn: ∀k p d G e E,ops[s+k]?=some p->p.dst=some d->ges[k]?=some (G,e,E)->k≠n->b.getD (s+k) false=true-> ¬jl ges s b d-> ¬d∈Ei->aF G->aF Gi-> ∀g,C.foot e (a.tmps.getD d undef) w' g->C.foot ei v w' g->False:=by
      intro k p d G e E l A m u q K ai J c6 g bh cu
      replace bh:=bu k p d G e E l A m u q K ai J g bh
      rcases bt c6 g cu with h|h
      .exact b6 k p d G e E l A m q K J ai g bh h
      .have H:=(B.done k p d G e E l A m q K).1 J;have b8:C.good (C.tok p) e:=(M k p G e E l m).2.2.2.1;have:=C.bound _ e b8 _ w H g bh;omega
     refine ⟨C.rel_step w w' _ B.below b7,λk p aa l ak q=> ?_,C.inv_step _ _ _ b7 B.inv,λk p G e E l m ak q J=> ?_,?_,?_,?_,?_,?_,?_,?_,?_,?_⟩
     .rw [F] at q;by_cases u:k=n
      .subst u; simp at q
      .rw [if_neg ZJ] at q;have cv:=B.lock k p aa l ak q
       cases a6:C.tok o with
       | true=>exact absurd (b0 k n p o ZJ b4 l z ak a6) u
       | false=>exact C.lock_still _ _ (W.1 a6) cv
     .rw [F] at q;by_cases u:k=n
      .subst u;rw [z] at l; cases l;rw [ah] at m; cases m;refine C.fin_still a _ w' w' (λx hx=>a1 x λA=> ?_) (C.still_refl w') (W.2 J ak);obtain ⟨e,he,hb,ag⟩:=cd _ _ o o z ak z x hx A;have:=am _ o z e he hb;omega
      .rw [if_neg ZJ] at q;have cw:=B.fin k p G e E l m ak q J
       cases a6:C.tok o with
       | true=>exact absurd (b0 k n p o (O m) b4 l z ak a6) u
       | false =>
        refine C.fin_still a _ w w' (λx hx=>a1 x λA=> ?_) (W.1 a6) cw;obtain ⟨e,he,hb,ag⟩:=cd (s+k) (s+n) p o l ak z x hx A;have:=B.closed (s+k) p l q e he hb;rw [ag,ao] at this;cases this
     .cases A:o.dst<;>simp [Act.put,B.size]
     .cases A:o.dst<;>simp [Act.put,B.defers]
     .intro k l;rw [F,if_neg ZJ];exact B.pre k l
     .intro k l;rw [F,if_neg ZJ];exact B.post k l
     .intro k p d G e E l A m q K;obtain ⟨al,ax⟩:=ad d K;rw [F] at q;by_cases u:k=n
      .subst u;rw [z] at l; cases l;rw [ah] at m; cases m;rw [Y d A];exact hs
      .rw [if_neg ZJ] at q;rw [a1 d (aj l A u)];exact c5 k p d G e E l A m u q al ax
     .intro k p d G e E k' o' d' G' e' E' l ba m q K J R a8 a5 Z c7 ay c8 g hf b1;obtain ⟨al,ax⟩:=ad d K;obtain ⟨ap,bb⟩:=ad d' c7;rw [F] at q Z;by_cases u:k=n
      .subst u;have a9:k'≠k:=λe=>c8 e.symm;rw [if_neg ZJ] at Z;rw [z] at l; cases l;rw [ah] at m; cases m;rw [Y d ba] at hf;rw [a1 d' (aj R a8 a9)] at b1;exact bn k' o' d' G' e' E' R a8 a5 a9 Z ap bb ay J g b1 hf
      .rw [if_neg ZJ] at q;rw [a1 d (aj l ba u)] at hf;by_cases a9:k'=n
       .subst a9;rw [z] at R; cases R;rw [ah] at a5; cases a5;rw [Y d' a8] at b1;exact bn k p d G e E l ba m u q al ax J ay g hf b1
       .rw [if_neg ZJ] at Z;rw [a1 d' (aj R a8 a9)] at b1;exact B.apart k p d G e E k' o' d' G' e' E' l ba m q al J R a8 a5 Z ap ay c8 g (bu k p d G e E l ba m u q al ax J g hf) (bu k' o' d' G' e' E' R a8 a5 a9 Z ap bb ay g b1)
     .intro k p d aa l A q;rw [F] at q;by_cases u:k=n
      .subst u; simp at q
      .rw [if_neg ZJ] at q;rw [a1 d (aj l A u)];exact B.todo k p d aa l A q
     .intro x c9;rw [a1 x (c9 n o ZJ z)];exact B.others x c9
     .intro k p l q e he be;rw [F] at q ⊢;by_cases ca:e.on=s+n
      .simp [ca]
      .rw [if_neg ca];by_cases u:k=s+n
       .subst u;rw [z] at l; cases l;exact ab e he be
       .rw [if_neg u] at q;exact B.closed k p l q e he be
   unfold wpOpIn;simp only [List.getElem?_toArray,z];by_cases hc:aF Gi
   .rw [if_pos (co hc)];refine ⟨λ_ _=>trivial,?_⟩;rw [jc hn];rcases cn hc a w B.below (λht=>B.lock n o (by rw [hl]; omega) z ht ao) bl with ⟨v,w',a7,hb,W,hs,hf⟩|⟨f,vs,a7,cx⟩
    .rcases a7 with a7|⟨cb,a7⟩
     .rw [a7];exact ae v w' hb ⟨W.1,λ_=>W.2⟩ ⟨λ_=>hs,λh=>absurd hc h⟩ (λ_=>hf)
     .rw [a7];have hx:=ae v w' hb ⟨W.1,λ_=>W.2⟩ ⟨λ_=>hs,λh=>absurd hc h⟩ (λ_=>hf);rw [cb] at hx;show wpAnyIn (FR r) 0 P .any ops.toArray Q D (b.setIfInBounds (s+n) true) (a.put o.dst undef) w';rw [cb];exact hx
    .rw [a7];refine ⟨λh=>by simp [Fence.wide] at h,CallsIn.mono (jQ cx) ?_⟩;rintro e w' ⟨v,rfl,hb,W,hs,hf⟩;exact ae v w' hb ⟨W.1,λ_=>W.2⟩ ⟨λ_=>hs,λh=>absurd hc h⟩ (λ_=>hf)
   .rw [if_neg (by rw [cp hc]; simp)];exact ⟨λ_ _=>trivial,ae undef w (C.step_refl _ _) ⟨λ_=>C.still_refl _,λh=>absurd h hc⟩ ⟨λh=>absurd h hc,λ_=>rfl⟩ (λh=>absurd h hc)⟩
def RK (P:Program) (r:Option Nat) (Q:Exit->Act->World->Prop) (ops:List Oper) (s:Nat) (a:Act) (w:World):Prop :=
 ∀ (listed:Array Bool) (fuel:Nat),listed.size=ops.length->(∀k,k<ops.length->listed.getD k false=decide (k<s))->ops.length-s<=fuel->wpAnyIn (FR r) 0 P .any ops.toArray Q fuel listed a w
theorem EH {a:Act} {K K':Act->World->Prop} {R:Act->World->Prop} (b:o.wpIn (FR r) 0 P a w K (Exit.then R Q)) (h: ∀a w,K a w->K' a w):o.wpIn (FR r) 0 P a w K' Q:=by
 refine ⟨b.1,?_⟩;have b:=b.2
 generalize (o.semAt (FR r).round a.eval).run P w=x at *
 cases x with
 | ok x f =>
  cases x<;>simp only [Oper.uponIn] at b ⊢ <;>
   first
    | exact h _ _ b
    | exact ⟨b.1,CallsIn.mono b.2 (λe d c=>by cases e<;>first|exact h _ _ c|exact c)⟩
    | exact ⟨b.1,RowsIn.mono b.2 (λ_ _ c=>h _ _ c)⟩
    | exact ⟨b.1,RoundIn.mono b.2 (λe d c=>by cases e<;>first|exact h _ _ c|exact c)⟩
 | halt x f=>cases x<;>simp only [Oper.uponIn] at b ⊢ <;>exact b
def RW (P:Program) (r:Option Nat) (Q:Exit->Act->World->Prop) (N:Nat) (ds:List Deferred) (ops:List Oper) (s:Nat) (E:Env) (w:World):Prop :=
 ∀ (a:Act),Fit N ds E a->RK P r Q ops s a w
theorem dP (hm:P.follows .mixedOrders=true) (h: ∀W,ZT w W->RW P r Q N ds ops 0 E W):CW P r Q N ds (.region id ops.toArray true) E w:=by
 intro a b;refine wpIn_region_any hm ?_;have e:ops.toArray.size=ops.length:=ZM;exact h {w with drawn:=w.drawn+1} ⟨rfl,rfl,rfl,ZC,λ_ _=>rfl⟩ a b (Array.replicate ops.length false) _ ZM (λk c=>by simp [c]) (Nat.sub_le _ _)
theorem Es {W:World} (m:Mode) (t:Nat) (v:fU ops=true) (L:iL ops s t=true) (y:Nat.ble s t=true) (z:Nat.ble t ops.length=true) (hb:ZT w W)
  (h:DW P N ds m ops w (λD=> ∀a F,ZT w F->(AQ w W.drawn m).inv F->FitD N ds D a F->RK P r Q ops t a F) (bN ops s t) (lift E)):RW P r Q N ds ops s E W:=by
 have y:=Nat.le_of_ble_eq_true y;have z:=Nat.le_of_ble_eq_true z;intro a M b l A g B;obtain ⟨H,Z,hF,C⟩:=rC W.drawn h;have I:H.length=t-s:=by rw [Z]; unfold bN; simp; omega
 refine lG (N:=N) (ds:=ds) (a0:=a) (D0:=lift E) (AQ w W.drawn m) v L y z I ?_ (λi j o U _ _ _ _ h _=>by cases m<;>cases h) (λi j o U _ h=>by cases m<;>cases h) ?_ ?_ l b a W A ?_ ?_
 .intro i o G e E hi Y;have O:i<t-s:=by rw [<-I]; exact (ZE Y).1
  exact C i o G e E (by rw [fH,if_pos O]; exact hi) Y
 .intro i c e u;rw [jM] at u
  cases f:look E i with
  | none=>rw [f] at u; cases u
  | some p =>
   rw [f] at u;obtain ⟨rfl,rfl⟩:=u;exact ⟨_,rfl,M.slots i p.1 p.2 f⟩
 .intro l b a F A g B R J _ _ K;exact hF a F (by cases m<;>exact R) J K b l A g B
 .refine Nat.le_trans ?_ B;have:(List.range ops.length).filter (λk=> !b.getD k false)=(List.range ops.length).filter (λk=>decide (s<=k)):=by
   refine List.filter_congr λk n=> ?_;rw [g k (by simpa using n)];by_cases h1:k<s<;>simp [h1]<;>omega
  rw [this,show ops.length=s+(ops.length-s) by omega,List.range_add,List.filter_append];simp;rw [List.filter_eq_nil_iff.2 (by intro x hx; simp at hx; simp; omega)];refine Nat.le_trans (Nat.add_le_add_left (List.length_filter_le _ _) _) ?_;simp
 .have q: ∀k,s<=k->b.getD k false=false:=by
   intro k n;rcases ZI k ops.length with h|h
   .rw [g k h]; simp; omega
   .simp [Array.getElem?_eq_none (show b.size<=k by omega)]
  refine ⟨by cases m<;>exact hb,λk o _ _ h _=>(by cases m<;>cases h),by cases m<;>first|trivial|exact ZC,λk o _ _ _ _ _ h=>(by cases m<;>cases h),M.size,M.defers,λk n=>by rw [g k ZJ]; simp [n],λk n=>q k ZJ,?_,?_,λ_ _ _ _ _ _ _=>rfl,λ_ _=>rfl,?_⟩
  .intro k o d G e E n _ _ f;rw [q _ ZJ] at f; cases f
  .intro k o d G e E k' U d' G' e' E' n _ _ f;rw [q _ ZJ] at f; cases f
  .intro k o n f e u S;have a1:k<s:=by
    rcases ZI k s with h|h
    .exact h
    .rw [q k h] at f; cases f
   have a2:=(dH v n n).1 e u S;rw [g e.on ZJ];simp; omega
theorem Bu {F F':DE->Prop} (d: ∀D,F D->F' D) (m:Mode) (rest:List Oper): ∀(D:DE),DW P N ds m ops w F rest D->DW P N ds m ops w F' rest D:=by
 induction rest with
 | nil=>intro D h; cases m<;>exact d D h
 | cons o rest c =>
  intro D h
  cases m with
  | weak=>obtain ⟨G,e,a,b⟩:=h; exact ⟨G,e,a,c _ b⟩
  | own=>obtain ⟨G,e,s,a,b⟩:=h; exact ⟨G,e,s,a,c _ b⟩
  | cnt=>obtain ⟨G,e,a,b⟩:=h; exact ⟨G,e,a,c _ b⟩
  | free=>obtain ⟨G,e,s,a,b⟩:=h; exact ⟨G,e,s,a,c _ b⟩
theorem iP {W:World} (m:Mode) (t:Nat) (d:fU ops=true) (e:iL ops s t=true) (g:Nat.ble s t=true) (i:Nat.ble t ops.length=true) (hb:ZT w W)
  (h:DW P N ds m ops w (λD=> ∀a b,ZT w b->FitD N ds D a b->RK P r Q ops t a b) (bN ops s t) (lift E)):RW P r Q N ds ops s E W :=
 Es m t d e g i hb (Bu (λ_ j a b f _ c=>j a b f c) m _ _ h)
theorem eu (u:fU ops=true) (K:iL ops s (s+1)=true) (q:ops[s]?=some o)
  (h:TW P r (Exit.then (RK P r Q ops (s+1)) Q) N ds ops [o] E w):RW P r Q N ds ops s E w:=by
 have m:=(ZE q).1;intro a Y b g v c Z;obtain ⟨g,rfl⟩: ∃f,g=f+1:=⟨g-1,ZJ⟩;have n: ∀i,i∈Region.ready .any ops.toArray b->i=s:=by
  intro i B;unfold Region.ready at B;rw [List.mem_filter] at B;obtain ⟨L,p⟩:=B;have x:i<ops.length:=by simpa using L
  have C:=ZD x;simp only [Bool.and_eq_true,List.getElem?_toArray,C,Option.map_some,Option.getD_some] at p;obtain ⟨p,D⟩:=p;have F:b.getD i false=false:=by
   have hs:i<b.size:=ZJ;simpa [hs] using p
  rw [c i x] at F;have a0:s<=i:=by simpa using F
  rcases ZI s i with M|a1
  .rw [Array.all_eq_true'] at D;have j: ∀k o,ops[k]?=some o-> ∀e∈o.after,Region.binds .any e=true->e.on<k:=λk o y e z G=>(dH u y y).1 e z G;have l: ∀k o,ops[k]?=some o->b.getD k false=true-> ∀e∈o.after,Region.binds .any e=true->b.getD e.on false=true:=by
    intro k o y H e z G;have O:=(ZE y).1;rw [c k O] at H;have:=j k o y e z G;rw [c e.on ZJ];simp at H ⊢; omega
   have:=nJ l j (xy K M x (Nat.le_refl s) ZJ) (λo q e z G=>by
    rw [C] at q; cases q;have:=D e z;rw [G] at this;simpa using this)
   rw [c s m] at this;simp at this
  .omega
 have I:s∈Region.ready .any ops.toArray b:=by
  unfold Region.ready;rw [List.mem_filter];refine ⟨by simpa using m,?_⟩;have R:b.getD s true=false:=by
   have A:=c s m;have:s<b.size:=ZJ;simpa [this] using A
  simp only [R,List.getElem?_toArray,q,Option.map_some,Option.getD_some,Bool.not_false,Bool.true_and];rw [Array.all_eq_true'];intro e z
  cases S:Region.binds .any e with
  | false=>simp
  | true =>
   have U:=(dH u q q).1 e z S;have:b.getD e.on false=true:=by rw [c _ ZJ]; simpa using U
   simp [this]
 refine ⟨λhr=>(by rw [hr] at I; cases I),λi B=> ?_⟩;obtain rfl:=n i B;have A:=h a Y;have t: ∀k,k<ops.length->(b.setIfInBounds i true).getD k false=decide (k<i+1):=by
  intro k y;by_cases J:k=i
  .subst J; simp [v,m]
  .have:i≠k:=λe=>J e.symm;have W:=c k y;simp only [Array.getD_eq_getD_getElem?] at W ⊢;rw [Array.getElem?_setIfInBounds_ne this,W];have:(k<i)↔(k<i+1):=ZJ;simp [this]
 unfold wpOpIn;simp only [List.getElem?_toArray,q];unfold wpListIn at A
 split at A
 .rename_i d;rw [if_pos d];refine EH A λa' w' hK=> ?_;exact hK _ _ (by simpa using v) t ZJ
 .rename_i d;rw [if_neg d];exact ⟨λ_ _=>trivial,A.2 _ _ (by simpa using v) t ZJ⟩
theorem TR (h:KW N ds (Q .normal) E w):RW P r Q N ds ops ops.length E w:=by
 intro a g b c m e _;have j:Region.ready .any ops.toArray b= []:=by
  unfold Region.ready;rw [List.filter_eq_nil_iff];intro k d;have d:k<ops.length:=by simpa using d
  have n:=e k d;have:k<b.size:=ZJ;have o:b.getD k true=true:=by simpa [this,d] using n
  simp [o]
 cases c with
 | zero=>exact ⟨j,h a g⟩
 | succ f=>exact ⟨λ_=>h a g,λi l=>by rw [j] at l; cases l⟩
theorem EE (m:Mode) (hm:P.follows .mixedOrders=true) (l:fU ops=true)
  (h:DW P N ds m ops w (λD=> ∀a d,ZT w d->FitD N ds D a d->Q .normal a d) ops (lift E)):CW P r Q N ds (.region id ops.toArray true) E w:=by
 refine dP hm λW u=>iP m ops.length l ?_ (Nat.ble_eq_true_of_le ZB) (Nat.ble_eq_true_of_le ZC) u ?_
 .unfold iL;have p:(gF ops).length=ops.length:=by unfold gF; rw [iX]; simp
  rw [List.drop_eq_nil_of_le ZJ];rfl
 .have e:bN ops 0 ops.length=ops:=by unfold bN; simp
  rw [e];refine Bu (λD q a d g c b j v o x=> ?_) m ops (lift E) h;have s:Region.ready .any ops.toArray b= []:=by
   unfold Region.ready;rw [List.filter_eq_nil_iff];intro k n;have n:k<ops.length:=by simpa using n
   have y:=o k n;have:k<b.size:=ZJ;have z:b.getD k true=true:=by simpa [this,n] using y
   simp [z]
  cases j with
  | zero=>exact ⟨s,q a d g c⟩
  | succ f=>exact ⟨λ_=>q a d g c,λi t=>by rw [s] at t; cases t⟩
theorem gV (hm:P.follows .mixedOrders=true) (b:fU ops=true)
  (h:DW P N ds .weak ops w (λD=> ∀a c,ZT w c->FitD N ds D a c->Q .normal a c) ops (lift E)):CW P r Q N ds (.region id ops.toArray true) E w:=EE .weak hm b h
theorem x8 (hm:P.follows .mixedOrders=true) (b:fU ops=true)
  (h:DW P N ds .own ops w (λD=> ∀a c,ZT w c->FitD N ds D a c->Q .normal a c) ops (lift E)):CW P r Q N ds (.region id ops.toArray true) E w:=EE .own hm b h
theorem EF (hm:P.follows .mixedOrders=true) (o:fU ops=true)
  (h:DW P N ds .cnt ops w (λD=> ∀a c,ZT w c/\w.drawn<=c.drawn->FitD N ds D a c->Q .normal a c) ops (lift E)):CW P r Q N ds (.region id ops.toArray true) E w:=by
 intro a x;refine wpIn_region_any hm ?_;have e:ops.toArray.size=ops.length:=ZM;have j:iL ops 0 ops.length=true:=by
  unfold iL;have q:(gF ops).length=ops.length:=by unfold gF; rw [iX]; simp
  rw [List.drop_eq_nil_of_le ZJ];rfl
 have y:bN ops 0 ops.length=ops:=by unfold bN; simp
 have z:Below w.heap.size w {w with drawn:=w.drawn+1}:=⟨rfl,rfl,rfl,ZC,λ_ _=>rfl⟩;refine (Es .cnt ops.length o j (Nat.ble_eq_true_of_le ZB) (Nat.ble_eq_true_of_le ZC) z ?_:RW P r Q N ds ops 0 E _) a x (Array.replicate ops.length false) _ ZM (λk g=>by simp [g]) (Nat.sub_le _ _);rw [y];refine Bu (λD s a c l m d b n A p B=> ?_) .cnt ops (lift E) h;have t:Region.ready .any ops.toArray b= []:=by
  unfold Region.ready;rw [List.filter_eq_nil_iff];intro k g;have g:k<ops.length:=by simpa using g
  have C:=p k g;have:k<b.size:=ZJ;have F:b.getD k true=true:=by simpa [this,g] using C
  simp [F]
 have u:=Nat.le_trans (Nat.le_succ _) m
 cases n with
 | zero=>exact ⟨t,s a c ⟨l,u⟩ d⟩
 | succ f=>exact ⟨λ_=>s a c ⟨l,u⟩ d,λi v=>by rw [t] at v; cases v⟩
end sound
end
section
theorem nA {z:Int} (h:0<=z/\z<=255):IntKind.u8.wrap z=z:=by
 rw [IntKind.wrap_u8]; omega
section
variable {P:Program} {r:Option Nat} {Q:Exit->Act->World->Prop} {N:Nat} {ds:List Deferred} {ops rest:List Oper} {E:Env} {D:DE} {w:World} {G:Option Bool} {Fin:DE->Prop} {md:Mode}
variable {d:Option Tmp} {ty:TypeId} {pos:String} {af:Array Edge} {gu:Option (Nat×Bool)}
variable {x y z:Operand} {cx cy cz:Option Bool} {ρ:Operand->Value}
theorem EA {c:Code} (h:CW P none (Exit.noGoto Q) N ds c E w):CW P none Q N ds (.scope c) E w:=λa b=>wpIn_wide.2 (wp_scope_straight (wpIn_wide.1 (h a b)))
theorem EC {l:Nat} (h:KW N ds (Q .normal) E w):CW P r Q N ds (.label l) E w:=λa b=>wpIn_label (h a b)
theorem zP (h:KW N ds (Q .normal) E w):KW N ds (Exit.noGoto Q .normal) E w:=h
theorem zN (h:KW N ds (Q (.exit id)) E w):KW N ds (Exit.noGoto Q (.exit id)) E w:=h
theorem zO (h:KW N ds (Q .ret) E w):KW N ds (Exit.noGoto Q .ret) E w:=h
theorem bJ (v:Value) (d:gd ops E o.guard=some G) (hn: ¬aF G) (e:aC N o.dst=true) (next:TW P r Q N ds ops rest (ins E o.dst G v) w):TW P r Q N ds ops (o::rest) E w:=by
 intro a b;obtain ⟨_,c⟩:=kQ b d;unfold wpListIn;rw [if_neg (by rw [c hn]; simp)];exact ⟨λ_ _=>trivial,next _ (b.put e (λh=>absurd h hn) (λ_=>rfl))⟩
theorem kP (v:Value) (c:fD ops D o.guard=some G) (hn: ¬aF G) (d:aC N o.dst=true) (a:dX o.op=true) (next:DW P N ds md ops w Fin rest (bE D o.dst G (.ex v))):DW P N ds md ops w Fin (o::rest) D :=
 jw c d a (λb=>absurd b hn) next
theorem kG (hs:s=ops.length) (h:KW N ds (Q .normal) E w):RW P r Q N ds ops s E w:=by subst hs; exact TR h
theorem iB (h:RW P r Q N ds ops s E w):KW N ds (Exit.then (RK P r Q ops s) Q .normal) E w:=h
theorem gy (h:RW P r Q N ds ops s E w):KW N ds (RK P r Q ops s) E w:=h
theorem XD {n:Int} (a:ρ x= .int .u8 m) (b:ρ y= .int .u8 n) (hb:0<=m+n/\m+n<=255):(execOp ρ ⟨d,.binOp .add t x y t',ty,pos,af,gu⟩).run P w= .ok (.value (.int .u8 (m+n))) w:=by 
  simp only [execOp]; rw [a,b,eqGuard_add,binOp_add]
  show Result.ok (Next.value (Value.int .u8 (IntKind.u8.wrap (m+n)))) w=_
  rw [nA hb]
theorem Ot {n:Int}:Val P ⟨d,.binOp .add t x y t',ty,pos,af,gu⟩ [x,y] [.int .u8 m,.int .u8 n] (0<=m+n/\m+n<=255) (.int .u8 (m+n)) :=
 ⟨rfl,ZQ,λa ρ w h=>by
  obtain ⟨b,c⟩:=iI h;simp only [execOp]; rw [b,c,eqGuard_add,binOp_add];show Result.ok (Next.value (Value.int .u8 (IntKind.u8.wrap (m+n)))) w=_;rw [nA a]⟩
theorem Xt {n:Int} (a:ρ x= .int .u8 m) (b:ρ y= .int .u8 n) (hb:0<=m-n/\m-n<=255):(execOp ρ ⟨d,.binOp .sub t x y t',ty,pos,af,gu⟩).run P w= .ok (.value (.int .u8 (m-n))) w:=by 
  simp only [execOp]; rw [a,b,eqGuard_sub,binOp_sub]
  show Result.ok (Next.value (Value.int .u8 (IntKind.u8.wrap (m-n)))) w=_
  rw [nA hb]
theorem Oj {n:Int}:Val P ⟨d,.binOp .sub t x y t',ty,pos,af,gu⟩ [x,y] [.int .u8 m,.int .u8 n] (0<=m-n/\m-n<=255) (.int .u8 (m-n)) :=
 ⟨rfl,ZQ,λa ρ w h=>by
  obtain ⟨b,c⟩:=iI h;simp only [execOp]; rw [b,c,eqGuard_sub,binOp_sub];show Result.ok (Next.value (Value.int .u8 (IntKind.u8.wrap (m-n)))) w=_;rw [nA a]⟩
theorem Xz {s s':ByteArray} (a:ρ x= .string s) (b:ρ y= .string s'):(execOp ρ ⟨d,.binOp .lss t x y t',ty,pos,af,gu⟩).run P w= .ok (.value (.bool (Op.bytesLess s.toList s'.toList))) w:=by simp only [execOp]; rw [a,b,eqGuard_lss,binOp_string_lss]; rfl
theorem On {s s':ByteArray}:Val P ⟨d,.binOp .lss t x y t',ty,pos,af,gu⟩ [x,y] [.string s,.string s'] (True) (.bool (Op.bytesLess s.toList s'.toList)) :=
 ⟨rfl,ZQ,λ_ ρ w h=>by
  obtain ⟨a,b⟩:=iI h;simp only [execOp]; rw [a,b,eqGuard_lss,binOp_string_lss]; rfl⟩
theorem VS {l c:Nat} (g:P.underlying t=some (.slice e)) (hs:(P.info? e).map (·.size)=some sz) (h:ρ x= .slice A l c) (j:ρ y= .int k i) (hb:0<=i/\i<=(c:Int)):(execOp ρ ⟨d,.slice t x none (some y) none,ty,pos,af,gu⟩).run P w= .ok (.value (.slice A i.toNat c)) w:=by 
  simp only [execOp,Option.map_some]; rw [h,j]
  simp [Instr.sliceAt,Instr.slice,run_underlying g,Instr.sliceBounds,Instr.sliceBound,asIntOf,hb,run_sizeOf hs]
  intro _
  cases A with
  | none=>rfl
  | some a=>obtain ⟨b,o,f⟩:=a; cases f<;>simp [Addr.add]
theorem lL {l c:Nat} [Und P t (.slice e)] [Sz P e sz]:Val P ⟨d,.slice t x none (some y) none,ty,pos,af,gu⟩ [x,y] [.slice A l c,.int k i] (0<=i/\i<=(c:Int)) (.slice A i.toNat c) :=
 ⟨rfl,ZQ,λg ρ w h=>by
  obtain ⟨j,m⟩:=iI h;have n:P.underlying t=some (.slice e):=Und.q;have p:(P.info? e).map (·.size)=some sz:=Sz.q;simp only [execOp,Option.map_some]; rw [j,m];simp [Instr.sliceAt,Instr.slice,run_underlying n,Instr.sliceBounds,Instr.sliceBound,asIntOf,g,run_sizeOf p];intro _
  cases A with
  | none=>rfl
  | some a=>obtain ⟨b,o,f⟩:=a; cases f<;>simp [Addr.add]⟩
theorem VR {l c:Nat} (a:P.underlying t=some (.slice e)) (hs:(P.info? e).map (·.size)=some sz) (b:ρ x= .slice A l c) (f:ρ y= .int k i) (hb:0<=i/\i<=(l:Int)):(execOp ρ ⟨d,.slice t x (some y) none none,ty,pos,af,gu⟩).run P w= .ok (.value (.slice (if c=i.toNat then A else A.map (·.add (i.toNat*sz))) (l-i.toNat) (c-i.toNat))) w:=by 
  simp only [execOp,Option.map_some]; rw [b,f]
  simp [Instr.sliceAt,Instr.slice,run_underlying a,Instr.sliceBounds,Instr.sliceBound,asIntOf,hb,run_sizeOf hs]
theorem mW {l c:Nat} [Und P t (.slice e)] [Sz P e sz]:Val P ⟨d,.slice t x (some y) none none,ty,pos,af,gu⟩ [x,y] [.slice A l c,.int k i] (0<=i/\i<=(l:Int)) (.slice (if c=i.toNat then A else A.map (·.add (i.toNat*sz))) (l-i.toNat) (c-i.toNat)) :=
 ⟨rfl,ZQ,λa ρ w h=>by
  obtain ⟨b,f⟩:=iI h;have g:P.underlying t=some (.slice e):=Und.q;have j:(P.info? e).map (·.size)=some sz:=Sz.q;simp only [execOp,Option.map_some]; rw [b,f];simp [Instr.sliceAt,Instr.slice,run_underlying g,Instr.sliceBounds,Instr.sliceBound,asIntOf,a,run_sizeOf j]⟩
theorem Uf {l c:Nat} {k':IntKind} {j:Int} (f:P.underlying t=some (.slice e)) (hs:(P.info? e).map (·.size)=some sz) (g:ρ x= .slice A l c) (h:ρ y= .int k i) (m:ρ z= .int k' j) (hb:0<=i/\i<=j/\j<=(c:Int)):(execOp ρ ⟨d,.slice t x (some y) (some z) none,ty,pos,af,gu⟩).run P w= .ok (.value (.slice (if c=i.toNat then A else A.map (·.add (i.toNat*sz))) (j.toNat-i.toNat) (c-i.toNat))) w:=by 
  simp only [execOp,Option.map_some]; rw [g,h,m]
  have a:0<=j:=ZJ
  have b:i<=max j 0:=ZJ
  simp [Instr.sliceAt,Instr.slice,run_underlying f,Instr.sliceBounds,Instr.sliceBound,asIntOf,hb,a,b,run_sizeOf hs]
theorem zI {l c:Nat} {k':IntKind} {j:Int} [Und P t (.slice e)] [Sz P e sz]:Val P ⟨d,.slice t x (some y) (some z) none,ty,pos,af,gu⟩ [x,y,z] [.slice A l c,.int k i,.int k' j] (0<=i/\i<=j/\j<=(c:Int)) (.slice (if c=i.toNat then A else A.map (·.add (i.toNat*sz))) (j.toNat-i.toNat) (c-i.toNat)) :=
 ⟨rfl,ZQ,λa ρ w h=>by
  obtain ⟨b,f,g⟩:=WS h;have m:P.underlying t=some (.slice e):=Und.q;have n:(P.info? e).map (·.size)=some sz:=Sz.q;simp only [execOp,Option.map_some]; rw [b,f,g];have o:0<=j:=ZJ;have p:i<=max j 0:=ZJ;simp [Instr.sliceAt,Instr.slice,run_underlying m,Instr.sliceBounds,Instr.sliceBound,asIntOf,a,o,p,run_sizeOf n]⟩
theorem QD {l:Nat} (a:P.underlying t=some (.array l e)) (hs:(P.info? e).map (·.size)=some sz) (b:ρ x= .pointer (some ad)) (c:ρ y= .int k i) (f:0<=i/\i<(l:Int)):(execOp ρ ⟨d,.indexAddr t x y,ty,pos,af,gu⟩).run P w= .ok (.value (.pointer (some (ad.add (i.toNat*sz))))) w:=by simp only [execOp]; rw [b,c]; simp [Instr.indexAt,run_underlying a,asIntOf,Instr.sureAddr,f,run_sizeOf hs]
theorem sW {l:Nat} [Und P t (.array l e)] [Sz P e sz]:Val P ⟨d,.indexAddr t x y,ty,pos,af,gu⟩ [x,y] [.pointer (some ad),.int k i] (0<=i/\i<(l:Int)) (.pointer (some (ad.add (i.toNat*sz)))) :=
 ⟨rfl,ZQ,λa ρ w h=>by
  obtain ⟨b,c⟩:=iI h;have f:P.underlying t=some (.array l e):=Und.q;have g:(P.info? e).map (·.size)=some sz:=Sz.q;simp only [execOp]; rw [b,c]; simp [Instr.indexAt,run_underlying f,asIntOf,Instr.sureAddr,a,run_sizeOf g]⟩
theorem GQ {s:ByteArray} (m:gu=none) (n:aC N d=true) (o:P.underlying t=some .string) (h:P.underlying t'=some (.slice e)) (he:P.underlying e=some (.int .u8)) (p:ev E x=some (none,.string s))
  (next: ∀g c b,b.heap.size=w.heap.size+1->g=w.heap.size->ZT w b->(∀i,i<s.size->b.cell? ⟨g,i,none⟩=some (.int .u8 ((s.data.getD i 0).toNat:Int)))->TW P r Q N ds ops rest (ins E d none (.slice (some ⟨g,0,none⟩) s.size c)) b) :
  TW P r Q N ds ops (⟨d,.convert t t' x,ty,pos,af,gu⟩::rest) E w:=by
 refine ek (v:= .slice (some ⟨w.heap.size,0,none⟩) s.size (grownCap w s.size 0 e)) m n rfl (λa k=> ?_) (next w.heap.size _ (w.drew.alloc (.cells (bytesRow s (grownCap w s.size 0 e)) e ((bytesRow s (grownCap w s.size 0 e)).size,(bytesRow s (grownCap w s.size 0 e)).size+1))) ?_ rfl ?_ ?_)
 .simp only [execOp]; rw [k.eval p trivial];simp [run_bytes_of_string w t t' e s o h he]
 .simp
 .exact ((ZA).drew).alloc ZC _
 .intro i j;have l:(w.drew.alloc (.cells (bytesRow s (grownCap w s.size 0 e)) e ((bytesRow s (grownCap w s.size 0 e)).size,(bytesRow s (grownCap w s.size 0 e)).size+1))).heap[w.heap.size]?=some (.cells (bytesRow s (grownCap w s.size 0 e)) e ((bytesRow s (grownCap w s.size 0 e)).size,(bytesRow s (grownCap w s.size 0 e)).size+1)):=heap_alloc_new w.drew _;have f:=j;unfold World.cell?;rw [l];simp [bytesRow,j,Array.getElem?_append]
def oK (w0:World) (e:TypeId) (sz n:Nat) (xs:List Value):Ent:= .own (λv w=>OwnS w e sz v n xs/\ ∀g,v.ownBlock=some g->w0.heap.size<=g) (λv g=>v.ownBlock=some g)
theorem gX (w0:World) (e:TypeId) (sz n:Nat) (xs:List Value):(oK w0 e sz n xs).strong w0 :=
 ⟨λ_ _ _ _ b h=>⟨h.1.kept b,h.2⟩,λ_ _ h g a=>⟨h.2 g a,h.1.lt a⟩⟩
theorem xQ (e:Ent) (b:List Nat) (p:fD ops D o.guard=some G) (q:aC N o.dst=true) (hn:dX o.op=true) (i:e.strong w) (j:tZ ops o b=true) (k: ∀s,s∈b-> ∃c φ S,bR D s=some (c,.own φ S))
  (h:aF G-> ∀a d,ZT w d->FitL N ds (o.looksAt ops.toArray) D a d-> ∃v f,(execOp a.eval o).run P d= .ok (.value v) f/\zM w d f (Bt D b a)/\e.sat v f/\ ∀g,e.foot v g->Bt D b a g\/d.heap.size<=g)
  (next:DW P N ds .own ops w Fin rest (bE (iy D b) o.dst G e)):DW P N ds .own ops w Fin (o::rest) D :=
 ⟨G,e,b,⟨p,q,hn,i,j,k,λl a d m n=> .inl (h l a d m n)⟩,next⟩
theorem OE (e:Ent) (b:List Nat) (r:fD ops D o.guard=some G) (t:aC N o.dst=true) (hn:dX o.op=true) (j:e.strong w) (k:tZ ops o b=true) (l: ∀s,s∈b-> ∃c φ S,bR D s=some (c,.own φ S))
  (i:aF G-> ∀a d,ZT w d->FitL N ds (o.looksAt ops.toArray) D a d-> ∃f m,(execOp a.eval o).run P d= .ok (.enter f m) d/\Gives P f m d λv h=>zM w d h (Bt D b a)/\e.sat v h/\ ∀g,e.foot v g->Bt D b a g\/d.heap.size<=g)
  (next:DW P N ds .own ops w Fin rest (bE (iy D b) o.dst G e)):DW P N ds .own ops w Fin (o::rest) D :=
 ⟨G,e,b,⟨r,t,hn,j,k,l,λn a d p q=> .inr (i n a d p q)⟩,next⟩
theorem oD {w0 w w':World} {E:Nat->Prop} (hb:ZT w0 w) (h:ZT w w'):zM w0 w w' E:=⟨h.mono hb.size,λb _ hb _=>h.block b hb⟩
theorem iN {t:TypeId} (e:TypeId) {sz len:Nat} {parts:Array (Nat×Operand)} (xs:List Operand) {vs cs:List Value} (c:fD ops D gu=some G) (J:aC N d=true) (hp:parts.toList=number xs) (he:cB P t e sz=true)
  (K:DArgs (Oper.looksAt ops.toArray ⟨d,.buildSlice t len parts,ty,pos,af,gu⟩) N ds D G xs vs) (hl:len=vs.length) (o:vs.all (λv=>Nat.beq v.cells.size sz)=true) (i:Nat.ble (vs.length*sz) 16777216=true) (k:Nat.blt 0 vs.length=true) (x:(vs.map λv=>v.cells.toList).flatten=cs)
  (next:DW P N ds .own ops w Fin rest (bE D d G (oK w e sz len cs))):DW P N ds .own ops w Fin (⟨d,.buildSlice t len parts,ty,pos,af,gu⟩::rest) D:=by
 subst hl;have f:=λv y=>Nat.eq_of_beq_eq_true (List.all_eq_true.1 o v y);have l:cs.length=vs.length*sz:=by
  have m: ∀b:List Value,(∀v∈b,v.cells.size=sz)->((b.map λv=>v.cells.toList).flatten).length=b.length*sz:=by
   intro b
   induction b with
   | nil=>simp
   | cons v b z =>
    intro h;have p:=h v ZM;have A:=z (λu B=>h u (by simp [B]));simp only [List.map_cons,List.flatten_cons,List.length_append,List.length_cons,Array.length_toList];rw [Nat.succ_mul]; omega
  rw [<-x]; exact m vs f
 have n:vs.flatMap (λv=>v.cells.toList)=cs:=by rw [<-x]; simp [List.flatMap]
 refine xQ (oK w e sz vs.length cs) [] c J rfl (gX _ _ _ _ _) rfl (λs C=>by simp at C) (λE a q r F=> ?_) (by rw [fq]; exact next);refine ⟨_,_,fK hp rfl he (K (λt H=>bB ?_) a q F E) f (Nat.le_of_ble_eq_true i) (blt_iff.1 k),oD r ((ZA).alloc ZC _),⟨?_,?_⟩,?_⟩
 .simp only [Op.operands];rw [hp];simp only [number,List.map_map];rw [List.mem_map];obtain ⟨j,L,he⟩:=List.getElem_of_mem H;exact ⟨(Operand.tmp t,j),by rw [List.mem_zipIdx_iff_getElem?]; simp [he.symm],rfl⟩
 .rw [n];refine aU (Blk.new q e cs) l ?_;have p:=Nat.le_of_ble_eq_true i;obtain ⟨_,_,_,_,_,_,_,I⟩:=ma he;have:vs.length<=vs.length*sz:=Nat.le_mul_of_pos_right _ I;omega
 .intro g c;simp [Value.ownBlock] at c;subst c;exact r.size
 .intro g c;simp [Ent.foot,oK,Value.ownBlock] at c;exact .inr ZJ
theorem lQ (e:TypeId) (b:fD ops D gu=some G) (m:aC N d=true) (he:cB P t e sz=true)
  (next:DW P N ds .own ops w Fin rest (bE D d G (oK w e sz 0 []))):DW P N ds .own ops w Fin (⟨d,.buildSlice t 0 #[],ty,pos,af,gu⟩::rest) D:=by
 obtain ⟨i,n,j,k,o,rfl,l,f⟩:=ma he;refine xQ (oK w e i.size 0 []) [] b m rfl (gX _ _ _ _ _) rfl (λs f=>by simp at f) (λp a c h q=> ?_) (by rw [fq]; exact next);refine ⟨.slice (some ⟨c.heap.size,0,none⟩) 0 0,c.alloc (.cells [].toArray e),?_,oD h ((ZA).alloc ZC _),⟨?_,?_⟩,?_⟩
 .simp [execOp,Instr.buildSlice,run_underlying j,sizeOf,typeInfo,k,Instr.fill,newRow,Array.range_zero']
 .exact aU (Blk.new c e []) ZM ZJ
 .intro g b;simp [Value.ownBlock] at b;subst b;exact h.size
 .intro g b;simp [Ent.foot,oK,Value.ownBlock] at b;exact .inr ZJ
theorem xS {bytes m:Nat} {st:Tmp} {xs:List Value} (news:List Value) (f:fD ops D gu=some G) (R:aC N d=true) (S:bZ P t e sz bytes=true) (hs:bR D st=some (none,oK w e sz n xs)) (z:tZ ops ⟨d,.call ⟨.builtin .append,#[.tmp st,x],#[t,t]⟩,ty,pos,af,gu⟩ [st]=true)
  (U:aF G-> ∀a p,ZT w p->FitL N ds (Oper.looksAt ops.toArray ⟨d,.call ⟨.builtin .append,#[.tmp st,x],#[t,t]⟩,ty,pos,af,gu⟩) D a p-> ∃A c,a.eval x= .slice A m c/\ ∀j u,news[j]?=some u-> ∃I,A=some I/\p.cell? (I.add j)=some u)
  (hl:news.length=m*sz) (h1: ∀u∈news,u.oneCell'=true) (hb:(n+m)*bytes<=140737488355328) (B:1<=bytes)
  (next:DW P N ds .own ops w Fin rest (bE (iy D [st]) d G (oK w e sz (n+m) (xs++news)))):DW P N ds .own ops w Fin (⟨d,.call ⟨.builtin .append,#[.tmp st,x],#[t,t]⟩,ty,pos,af,gu⟩::rest) D:=by
 refine xQ (oK w e sz (n+m) (xs++news)) [st] f R rfl (gX _ _ _ _ _) z (λs q=>⟨none,_,_,by simp at q; subst q; exact hs⟩) (λJ a p i C=> ?_) next
 have k:OwnS p e sz (a.eval (.tmp st)) n xs/\ ∀g,(a.eval (.tmp st)).ownBlock=some g->w.heap.size<=g :=
  (C.slots st (bB ZP) none _ hs).1 trivial
 obtain ⟨A,c,r,l⟩:=U J a p i C;obtain ⟨E,v,K,L,F,H⟩:=lJ (ty:=ty) (c:=c) S k.1 hl l h1 hb B;refine ⟨E,v,?_,⟨?_,?_⟩,⟨L,?_⟩,?_⟩
 .simp only [execOp,resolve,invoke,builtin,Sem.run_bind,Sem.run_pure,Result.andThen_ok,List.map_toArray,List.map_cons,List.map_nil,r,K]
 .exact (ZA).grown F i.size k.2
 .intro b M y O;refine F.block b y (λh=>O ⟨st,none,_,by simp [oP],hs,trivial,?_⟩);exact h.symm
 .intro g f;rcases H with h|h
  .exact k.2 g (by rw [<-h]; exact f)
  .rw [f] at h; simp at h; have:=i.size; omega
 .intro g f;rcases H with h|h
  .exact .inl ⟨st,none,_,by simp [oP],hs,trivial,by show (a.eval (.tmp st)).ownBlock=some g; rw [<-h]; exact f⟩
  .rw [f] at h; simp at h; exact .inr ZJ
theorem jW {t e:TypeId} {sz bytes n m c:Nat} {st:Tmp} {xs:List Value} {A:Option Addr} (news:List Value) (q:fD ops D gu=some G) (r:aC N d=true) (s:bZ P t e sz bytes=true) (hs:bR D st=some (none,oK w e sz n xs)) (g:tZ ops ⟨d,.call ⟨.builtin .append,#[.tmp st,x],#[t,t]⟩,ty,pos,af,gu⟩ [st]=true)
  (v:dev D x=some (cx,.ex (.slice A m c))) (y:aF G->aF cx) (hn: ∀j u,news[j]?=some u-> ∃b,A=some b/\w.cell? (b.add j)=some u)
  (hl:news.length=m*sz) (h1: ∀u∈news,u.oneCell'=true) (hb:(n+m)*bytes<=140737488355328) (h:1<=bytes)
  (next:DW P N ds .own ops w Fin rest (bE (iy D [st]) d G (oK w e sz (n+m) (xs++news)))):DW P N ds .own ops w Fin (⟨d,.call ⟨.builtin .append,#[.tmp st,x],#[t,t]⟩,ty,pos,af,gu⟩::rest) D :=
 xS news q r s hs g (λk a z f l=>⟨A,c,l.eval v ZP (y k),λj u p=>by
  obtain ⟨b,h1,i⟩:=hn j u p;exact ⟨b,h1,(f.cell (block_lt_of_cell i)).trans i⟩⟩) hl h1 hb h next
theorem nY {e':TypeId} {bytes m:Nat} {st sx:Tmp} {xs:List Value} (news:List Value) (x:fD ops D gu=some G) (y:aC N d=true) (z:bZ P t e sz bytes=true) (hs:bR D st=some (none,oK w e sz n xs)) (c:tZ ops ⟨d,.call ⟨.builtin .append,#[.tmp st,.tmp sx],#[t,t]⟩,ty,pos,af,gu⟩ [st]=true)
  (B:bR D sx=some (cx,oK w e' sz m news)) (C:aF G->aF cx)
  (h1: ∀u∈news,u.oneCell'=true) (hb:(n+m)*bytes<=140737488355328) (f:1<=bytes) (hl:news.length=m*sz)
  (next:DW P N ds .own ops w Fin rest (bE (iy D [st]) d G (oK w e sz (n+m) (xs++news)))):DW P N ds .own ops w Fin (⟨d,.call ⟨.builtin .append,#[.tmp st,.tmp sx],#[t,t]⟩,ty,pos,af,gu⟩::rest) D :=
 xS news x y z hs c (λh a i k l=>by
  have p:=(l.slots sx (bB ZP) cx _ B).1 (C h);obtain ⟨A,b,h1,_,_,q⟩:=p.1.form;refine ⟨A,b,h1,λj u r=> ?_⟩;obtain ⟨g,s,_,v,_⟩:=q j u r;exact ⟨_,s,by
   have e:Addr.add ⟨g,0,none⟩ j=⟨g,j,none⟩:=by unfold Addr.add; split<;>simp_all
   rw [e]; exact v⟩) hl h1 hb f next
theorem uD {φ:Value->World->Prop} {S:Value->Nat->Prop} {st:Tmp} (c:fD ops D gu=some G) (n:aC N d=true) (hs:bR D st=some (cx,.own φ S)) (j:aF G->aF cx) (e:(Ent.own φ S).strong w) (f:tZ ops ⟨d,.assign (.tmp st),ty,pos,af,gu⟩ [st]=true)
  (next:DW P N ds .own ops w Fin rest (bE (iy D [st]) d G (.own φ S))):DW P N ds .own ops w Fin (⟨d,.assign (.tmp st),ty,pos,af,gu⟩::rest) D :=
 xQ (.own φ S) [st] c n rfl e f (λs b=>⟨cx,φ,S,by simp at b; subst b; exact hs⟩) (λi a k l m =>
  have h:=(m.slots st (bB ZQ) cx _ hs).1 (j i)
  ⟨a.tmps.getD st undef,k,rfl,⟨ZA,λ_ _ _ _=>rfl⟩,h,λg c=> .inl ⟨st,cx,_,by simp [oP],hs,j i,c⟩⟩) next
theorem Wj {φ:Value->World->Prop} {S:Value->Nat->Prop} {st:Tmp} (c:fD ops D gu=some G) (n:aC N d=true) (hs:bR D st=some (cx,.own φ S)) (j:aF G->aF cx) (e:(Ent.own φ S).strong w) (f:tZ ops ⟨d,.move (.tmp st),ty,pos,af,gu⟩ [st]=true)
  (next:DW P N ds .own ops w Fin rest (bE (iy D [st]) d G (.own φ S))):DW P N ds .own ops w Fin (⟨d,.move (.tmp st),ty,pos,af,gu⟩::rest) D :=
 xQ (.own φ S) [st] c n rfl e f (λs b=>⟨cx,φ,S,by simp at b; subst b; exact hs⟩) (λi a k l m =>
  have h:=(m.slots st (bB ZQ) cx _ hs).1 (j i)
  ⟨a.tmps.getD st undef,k,rfl,⟨ZA,λ_ _ _ _=>rfl⟩,h,λg c=> .inl ⟨st,cx,_,by simp [oP],hs,j i,c⟩⟩) next
end
end
section
class Mx (P:Program):Prop where
 q:P.follows .mixedOrders=true
class Sr (P:Program) (t:TypeId) (n:outParam Nat):Prop where
 u: ∃fs,P.underlying t=some (.struct fs)
 s:(P.info? t).map (·.size)=some n
section
variable {P:Program} {r:Option Nat} {Q:Exit->Act->World->Prop} {N:Nat} {ds:List Deferred} {ops rest:List Oper} {E:Env} {D:DE} {w:World} {G:Option Bool} {Fin:DE->Prop} {md:Mode}
variable {d:Option Tmp} {ty:TypeId} {pos:String} {af:Array Edge} {gu:Option (Nat×Bool)}
variable {x y z:Operand} {cx cy cz:Option Bool} {ρ:Operand->Value}
theorem aB {p q:Prop} (next:q) (imp:q->p:=by
  intro hq
  repeat (first
   | ((first|apply aM bX|apply aM eQ|apply aM ve|apply aM Iz|apply aM IA|apply aM IB|apply aM Eh|apply aM Eg|apply aM IC|apply aM uY|apply aM Iy|apply aM zJ|apply aM V.lenSlice|apply aM mo|apply aM V.indexAddr|apply aM qa|apply aM (uB rfl)|apply aM vS); exact rfl; (first|exact ⟨ct,trivial⟩|exact ⟨ct,ct,trivial⟩|exact ⟨id,trivial⟩|(clear hq; repeat (first|exact trivial|(apply And.intro; (first|exact ct|exact id|exact cZ|(simp_all [aF]; done)))))); (first|exact λ_=>trivial|exact λ_=>rfl|(clear hq; intro h; (try dsimp only); (first|omega|(simp [aF] at h; omega)))))
   | (apply zK; exact rfl; exact rfl; exact rfl; (first|exact ct|exact id|exact cZ|(clear hq; simp_all [aF]; done)); exact rfl; (first|exact pT|exact Cw|exact Cv|exact qA|exact uR))
   | (apply jS; exact rfl; exact rfl; exact rfl; (first|exact ct|exact id|exact cZ|(clear hq; simp_all [aF]; done)); exact rfl; (first|exact pT|exact Cw|exact Cv|exact qA|exact uR))
   | ((first|apply aM Bj|apply aM Bi|apply aM mi); exact rfl; (first|exact ⟨ct,trivial⟩|exact ⟨ct,ct,trivial⟩|exact ⟨id,trivial⟩|(clear hq; repeat (first|exact trivial|(apply And.intro; (first|exact ct|exact id|exact cZ|(simp_all [aF]; done)))))); (first|exact λ_=>trivial|exact λ_=>rfl|(clear hq; intro h; (try dsimp only); (first|omega|(simp [aF] at h; omega)))))
   | ((first|apply aM Bl); exact rfl; (first|exact ⟨ct,trivial⟩|exact ⟨ct,ct,trivial⟩|exact ⟨id,trivial⟩|(clear hq; repeat (first|exact trivial|(apply And.intro; (first|exact ct|exact id|exact cZ|(simp_all [aF]; done)))))); (first|exact λ_=>trivial|exact λ_=>rfl|(clear hq; intro h; (try dsimp only); (first|omega|(simp [aF] at h; omega)))))
   | (apply zL; exact rfl; exact rfl; exact Und.q; exact rfl; (first|exact ct|exact id|exact cZ|(clear hq; simp_all [aF]; done)))
   | refine dG ?_
   | refine fQ ?_
   | refine dK ?_
   | refine aL ?_
   | refine oh ?_
   | refine tT ?_
   | refine pJ ?_
   | refine Eu ?_
   | refine fB ?_
   | refine qj ?_
   | refine kV ?_
   | refine iO ?_
   | (refine zQ ?_ ?_; exact rfl)
   | refine zR ?_
   | refine EA ?_
   | refine zP ?_
   | refine zN ?_
   | refine zO ?_
   | refine EC ?_
   )
  exact hq):p:=imp next
theorem jE {p q:Prop} (next:q) (imp:q->p:=by
  intro hq
  repeat (first
   | ((first|apply bM bX|apply bM eQ|apply bM ve|apply bM Iz|apply bM IA|apply bM IB|apply bM Eh|apply bM Eg|apply bM IC|apply bM uY|apply bM Iy|apply bM zJ|apply bM V.lenSlice|apply bM mo|apply bM V.indexAddr|apply bM qa|apply bM (uB rfl)|apply bM vS); exact rfl; (first|exact ⟨ct,trivial⟩|exact ⟨ct,ct,trivial⟩|exact ⟨id,trivial⟩|(clear hq; repeat (first|exact trivial|(apply And.intro; (first|exact ct|exact id|exact cZ|(simp_all [aF]; done)))))); (first|exact λ_=>trivial|exact λ_=>rfl|(clear hq; intro h; (try dsimp only); (first|omega|(simp [aF] at h; omega)))))
   | (apply zT; exact rfl; exact rfl; exact rfl; (first|exact ct|exact id|exact cZ|(clear hq; simp_all [aF]; done)); exact rfl; (first|exact pT|exact Cw|exact Cv|exact qA|exact uR))
   | (apply xV; exact rfl; exact rfl; exact rfl; (first|exact ct|exact id|exact cZ|(clear hq; simp_all [aF]; done)); exact rfl; (first|exact pT|exact Cw|exact Cv|exact qA|exact uR))
   | ((first|apply bM Bj|apply bM Bi|apply bM mi); exact rfl; (first|exact ⟨ct,trivial⟩|exact ⟨ct,ct,trivial⟩|exact ⟨id,trivial⟩|(clear hq; repeat (first|exact trivial|(apply And.intro; (first|exact ct|exact id|exact cZ|(simp_all [aF]; done)))))); (first|exact λ_=>trivial|exact λ_=>rfl|(clear hq; intro h; (try dsimp only); (first|omega|(simp [aF] at h; omega)))))
   | ((first|apply bM Bl); exact rfl; (first|exact ⟨ct,trivial⟩|exact ⟨ct,ct,trivial⟩|exact ⟨id,trivial⟩|(clear hq; repeat (first|exact trivial|(apply And.intro; (first|exact ct|exact id|exact cZ|(simp_all [aF]; done)))))); (first|exact λ_=>trivial|exact λ_=>rfl|(clear hq; intro h; (try dsimp only); (first|omega|(simp [aF] at h; omega)))))
   )
  exact hq):p:=imp next
theorem CU: ∀ {E a:Env} {i:Nat} {c:Option Bool} {v:Value},look (E++a) i=some (c,v)->look E i=some (c,v)\/look a i=some (c,v)
 | [],_,_,_,_,h=> .inr h
 | (j,d,e)::E,a,i,c,v,h=>by
  simp only [List.cons_append,look] at h ⊢
  cases b:Nat.beq j i with
  | true=>rw [b] at h; exact .inl h
  | false=>rw [b] at h; exact CU h
theorem Fit.app {E E':Env} {a:Act} (h:Fit N ds E a) (d:Fit N ds E' a):Fit N ds (E++E') a:=⟨h.size,h.defers,λi c v b=>(CU b).elim (h.slots i c v) (d.slots i c v)⟩
theorem Ov (is:List Nat) {E':Env} (hp:PF.pick E is=some E') (h:TW P r Q N ds ops rest E' w):TW P r Q N ds ops rest E w:=λa b=>h a (b.pick hp)
theorem dC (is:List Nat) {E':Env} (hp:PF.pick E is=some E') (h:CW P r Q N ds c E' w):CW P r Q N ds c E w:=Bw is E' hp h
theorem aG [One P t] (h:(gd ops E gu,aC N d,ev E x)=(some G,true,some (cx,.pointer (some ad)))) (hc:w.cell? ad=some v)
  (next:TW P r Q N ds ops rest (ins E d G v) w) (ix:aF G->aF cx:=by first|exact ct|exact id|exact cZ|(simp_all [aF]; done)):TW P r Q N ds ops (⟨d,.load t x,ty,pos,af,gu⟩::rest) E w:=by
 simp only [Prod.mk.injEq] at h;exact QK h.1 h.2.1 One.q h.2.2 ix (λ_=>hc) next
theorem dF [One P t] (h:(fD ops D gu,aC N d,dev D x)=(some G,true,some (cx,.ex (.pointer (some ad))))) (hc:w.cell? ad=some v)
  (next:DW P N ds md ops w Fin rest (bE D d G (.ex v))) (ix:aF G->aF cx:=by first|exact ct|exact id|exact cZ|(simp_all [aF]; done)):DW P N ds md ops w Fin (⟨d,.load t x,ty,pos,af,gu⟩::rest) D:=by
 simp only [Prod.mk.injEq] at h;exact QU h.1 h.2.1 One.q h.2.2 ix (λ_=>hc) next
def evs (E:Env):List Operand->Option (List Value)
 | []=>some []
 | x::xs=>match ev E x with
  | some (none,v)=>match evs E xs with
   | some vs=>some (v::vs)
   | none=>none
  | _=>none
theorem fJ: ∀ {b:List Operand} {a:List Value},evs E b=some a->Args N ds E G b a
 | [],a,h=>by simp [evs] at h; subst h; exact aJ
 | x::b,a,h=>by
  simp only [evs] at h
  split at h
  .rename_i v c
   split at h
   .rename_i e d;simp only [Option.some.injEq] at h;subst h;exact aA c ct (fJ d)
   .cases h
  .cases h
theorem aN {k:FuncId} (h:(aC N d,evs E xs)=(true,some vs)) (hc:Gives P k vs.toArray w R)
  (next: ∀v w',R v w'->TW P r Q N ds ops rest (ins E d none v) w') (he:enters P k=true:=by kernel_rfl):TW P r Q N ds ops (⟨d,.call ⟨.value (.func k),xs.toArray,ts⟩,ty,pos,af,none⟩::rest) E w:=by
 simp only [Prod.mk.injEq] at h;exact fE rfl h.1 he rfl (fJ h.2) (by simpa using hc) next
def J9 (D:DE):List Operand->Option (List Value)
 | []=>some []
 | x::xs=>match dev D x with
  | some (none,.ex v)=>match J9 D xs with
   | some vs=>some (v::vs)
   | none=>none
  | _=>none
theorem uu {L:List Nat}: ∀ {b:List Operand} {a:List Value},J9 D b=some a->DArgs L N ds D G b a
 | [],a,h=>by simp [J9] at h; subst h; exact dR
 | x::b,a,h=>by
  simp only [J9] at h
  split at h
  .rename_i v c
   split at h
   .rename_i e d;simp only [Option.some.injEq] at h;subst h;exact cO c ct (uu d)
   .cases h
  .cases h
theorem xW {k:FuncId} (e:Ent) (hm:e.mono) (h:(fD ops D gu,aC N d,J9 D xs)=(some G,true,some vs))
  (hc:aF G-> ∀w',ZT w w'->Gives P k vs.toArray w' λv w''=>ZT w' w''/\e.sat v w'')
  (next:DW P N ds .weak ops w Fin rest (bE D d G e)) (he:enters P k=true:=by kernel_rfl):DW P N ds .weak ops w Fin (⟨d,.call ⟨.value (.func k),xs.toArray,ts⟩,ty,pos,af,gu⟩::rest) D:=by
 simp only [Prod.mk.injEq] at h;exact vY e hm h.1 h.2.1 he rfl ct (uu h.2.2) (λg w' hb=>by simpa using hc g w' hb) next
theorem fP [Sr P t n] (h:(gd ops E gu,aC N d,ev E x)=(some G,true,some (cx,.pointer (some ad)))) (hc: ∀j v,cs[j]?=some v->w.cell? (ad.add j)=some v)
  (next:TW P r Q N ds ops rest (ins E d G (.agg cs.toArray)) w) (hl:cs.length=n:=by rfl) (ix:aF G->aF cx:=by first|exact ct|exact id|exact cZ|(simp_all [aF]; done)):TW P r Q N ds ops (⟨d,.load t x,ty,pos,af,gu⟩::rest) E w:=by
 simp only [Prod.mk.injEq] at h;obtain ⟨fs,hu⟩:=Sr.u (P:=P) (t:=t);exact Ow cs h.1 h.2.1 hu Sr.s h.2.2 ix (λ_=>hc) hl next
theorem jY [Sr P t n] (h:(fD ops D gu,aC N d,dev D x)=(some G,true,some (cx,.ex (.pointer (some ad))))) (hc: ∀j v,cs[j]?=some v->w.cell? (ad.add j)=some v)
  (next:DW P N ds md ops w Fin rest (bE D d G (.ex (.agg cs.toArray)))) (hl:cs.length=n:=by rfl) (ix:aF G->aF cx:=by first|exact ct|exact id|exact cZ|(simp_all [aF]; done)):DW P N ds md ops w Fin (⟨d,.load t x,ty,pos,af,gu⟩::rest) D:=by
 simp only [Prod.mk.injEq] at h;obtain ⟨fs,hu⟩:=Sr.u (P:=P) (t:=t);exact OJ cs h.1 h.2.1 hu Sr.s h.2.2 ix (λ_=>hc) hl next
theorem qG {K:Act->World->Prop} (is:List Nat) {E':Env} (hp:lH D is=some E') (h: ∀b,ZT w b->KW N ds K E' b):DW P N ds md ops w (λD=> ∀a b,ZT w b->FitD N ds D a b->K a b) [] D:=gJ (Bv is E' hp h)
theorem gv {f:FuncId} {fn:Func} (hf_:P.funcs[f]?=some fn) (hn_:fn.ntmps=N)
  (h:CW P none (bodyPost P fn λe w'=> ∃v,e= .returned v/\R v w') N [] c (mJ vs 0) w) (hb:fn.body=some c:=by rfl) (hle:Nat.ble vs.length N=true:=by rfl):Gives P f vs.toArray w R:=M4 _ hf_ hb hn_ hle rfl h
theorem Tv {f:FuncId} {fn:Func} (hf_:P.funcs[f]?=some fn) (hn_:fn.ntmps=N)
  (h:CW P none (bodyPostM (FR none) 0 P fn λe w'=> ∃v,e= .returned v/\R v w') N [] c (mJ vs 0) w) (hb:fn.body=some c:=by rfl) (hle:Nat.ble vs.length N=true:=by rfl):Gives P f vs.toArray w R:=JU _ hf_ hb hn_ hle rfl h
theorem dA {K:Env} (ks:List Nat) (F:α->Env) (J:α->World->Prop) (m:α->Nat) (x0:α) (h0:J x0 w)
  (round: ∀x w,J x w->CW P r (Exit.then (λa' w'=> ∃x',Fit N ds (F x'++K) a'/\J x' w'/\m x'<m x) Q) N ds c (F x++K) w)
  (hK:PF.pick E ks=some K:=by rfl) (hE:PF.pick E ((F x0).map (·.1))=some (F x0):=by rfl):CW P r Q N ds (.loop c) E w :=
 IQ (λx=>F x++K) J m x0 h0 (λ_ ha=>(ha.pick hE).app (ha.pick hK)) round
theorem cK {F:α->Env} {K:Env} {J:α->World->Prop} {m:α->Nat} {x:α} (x':α) (hJ:J x' w) (hm:m x'<m x:=by (try dsimp only); omega)
  (hp:PF.pick E ((F x'++K).map (·.1))=some (F x'++K):=by rfl):KW N ds (Exit.then (λa' w'=> ∃x',Fit N ds (F x'++K) a'/\J x' w'/\m x'<m x) Q .normal) E w :=
 λ_ ha=>⟨x',ha.pick hp,hJ,hm⟩
variable {fn:Func} {R:Value->World->Prop} {s t:Nat} {v u:Value}
theorem aO (h:(fn.results,look E s)=(#[.tmp s],some (none,v))) (b:R v w):KW N [] (bodyPost P fn (λe a=> ∃v,e= .returned v/\R v a) .ret) E w:=by
 simp only [Prod.mk.injEq] at h;exact WG h.1 h.2 b
theorem rD (h:(fn.results,look E s,look E t)=(#[.tmp s,.tmp t],some (none,v),some (none,u))) (b:R (.tuple #[v,u]) w):KW N [] (bodyPost P fn (λe a=> ∃v,e= .returned v/\R v a) .ret) E w:=by
 simp only [Prod.mk.injEq] at h;exact WF h.1 h.2.1 h.2.2 b
end
end
structure Ty.Now {α:Type} (T:Ty α):Prop where
 pos:0<T.n
 now: ∀F w cs x,T.rep F w cs x->T.rep (λk=>k<w.heap.size) w cs x
theorem fV:Ty.Now aS:=⟨ZL,λ_ _ _ _ h=>h⟩
theorem lh:Ty.Now eT:=⟨ZL,λ_ _ _ _ h=>h⟩
theorem Km:Ty.Now boolT:=⟨ZL,λ_ _ _ _ h=>h⟩
theorem SL.now {α:Type} {T:Ty α} (e:T.Now) {F:Nat->Prop} {w:World} {v:Value} {l:List α} (h:SL T F w v l):SL T (λk=>k<w.heap.size) w v l:=by
 obtain ⟨A,a,rfl,f,g,j⟩:=h;refine ⟨A,a,rfl,f,g,λi x m=> ?_⟩;obtain ⟨n,b,o,r,c,d⟩:=j i x m;refine ⟨n,b,o,?_,c,e.now _ _ _ _ d⟩;have p:=T.len _ _ _ _ d;have q:0<b.length:=by rw [p]; exact e.pos
 have:=block_lt_of_cell (c 0 b[0] (ZD q))
 rwa [add_block,add_block] at this
theorem iQ (c:T.Now):Ty.Now (sliceT T):=⟨by show 0<1; decide,λF w d x ⟨v,a,b⟩=>⟨v,a,SL.now c b⟩⟩
theorem SL.step (a:T.Now) {w':World} (h:SL T F w v l) (hb:ZT w w'):SL T (λk=>k<w'.heap.size) w' v l:=(h.below hb).now a
theorem SL.form (h:SL T F w v l): ∃A a,v= .slice A l.length a/\l.length<=a:=by
 obtain ⟨A,a,rfl,b,_⟩:=h;exact ⟨A,a,rfl,b⟩
theorem SL.at (h:SL T F w (.slice A n cap) l) {i:Nat} {x:α} (o:l[i]?=some x) :
  ∃ a b,A=some a/\F a.block/\T.rep F w b x/\ ∀j u,b[j]?=some u->w.cell? ((a.add (i*T.n)).add j)=some u:=by
 obtain ⟨p,c,d,_,_,e⟩:=h;obtain ⟨rfl,_,rfl⟩:=d;obtain ⟨a,b,f,g,k,m⟩:=e i x o;exact ⟨a,b,f,g,m,k⟩
theorem SL.addr (h:SL T F w (.slice A n cap) l) (hl:0<l.length): ∃a,A=some a:=by
 obtain ⟨a,_,b,_⟩:=h.at (ZD hl);exact ⟨a,b⟩
theorem SL.getI {l:List Int} (h:SL aS F w (.slice (some ad) n cap) l) {i:Nat} {x:Int} (d:l[i]?=some x):w.cell? (ad.add ((i:Int).toNat*1))=some (ZU x):=by
 obtain ⟨a,b,c,_⟩:=h.int d;cases b;exact c
theorem SL.rngI {l:List Int} (h:SL aS F w v l) {i:Nat} {x:Int} (c:l[i]?=some x):fF x:=by
 obtain ⟨A,a,rfl,_⟩:=h.form;obtain ⟨_,_,_,b⟩:=h.int c;exact b
theorem SL.row {l:List (List α)} (h:SL (sliceT T) F w (.slice (some ad) n cap) l) {i:Nat} {r:List α} (e:l[i]?=some r) :
  ∃ v,w.cell? (ad.add ((i:Int).toNat*1))=some v/\SL T F w v r:=by
 obtain ⟨a,f,b,_,⟨v,rfl,c⟩,d⟩:=h.at e;cases b;refine ⟨v,?_,c⟩;have:=d 0 v rfl;exact this
end Go.PF
