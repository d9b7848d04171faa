/- Texts of this claim,joined. -/
import Derived.Test.YtobaafdejnimkaaGreatDoorQA
import Derived.Scope
import Derived.Laws.IdiomStrings
import Derived.Laws.Strings3
import Derived.Laws.Runes
import Derived.DataElems
import Derived.Laws.MakeOwn
import Derived.Laws.Small
set_option linter.unusedSimpArgs false
set_option linter.unusedVariables false
set_option maxRecDepth 100000
set_option maxHeartbeats 4000000
namespace Go.PF
open Go.RowKit
theorem rM: ∀(D:DE) (s:List Nat) (i:Nat),eH (jr D s) i=if oQ s i=true then none else eH D i
 | [],s,i=>by simp [jr,eH]
 | (j,c,e)::D,s,i=>by
  have ih:=rM D s i;simp only [jr]
  cases hj:oQ s j with
  | true =>
   simp only [ih,eH];by_cases hji:j=i
   ·subst hji; rw [eu]; simp [hj]
   ·rw [kC hji]
  | false =>
   simp only [eH];by_cases hji:j=i
   ·subst hji; rw [eu]; simp [hj]
   ·rw [kC hji]; exact ih
theorem hasN_iff {s:List Nat} {i:Nat}:oQ s i=true↔i∈s:=by
 induction s with
 | nil=>simp [oQ]
 | cons j t ih =>
  simp only [oQ,List.mem_cons];by_cases hji:j=i
  ·subst hji; rw [eu]; simp
  ·rw [kC hji,ih];exact ⟨fun h=> .inr h,fun h=>h.resolve_left (fun e=>hji e.symm)⟩
theorem kU {α:Type} {p:α->Bool}: ∀ {l:List α} {i j:Nat} {a b:α},(l.filter p).length<=1->l[i]?=some a->p a=true->l[j]?=some b->p b=true->i=j
 | [],i,j,a,b,_,h,_,_,_=>by simp at h
 | x::l,0,0,a,b,_,_,_,_,_=>rfl
 | x::l,0,j+1,a,b,hl,ha,hpa,hb,hpb=>by
  simp at ha hb; subst ha;rw [List.filter_cons_of_pos hpa] at hl;have:b∈l.filter p:=List.mem_filter.2 ⟨ZF hb,hpb⟩;have:=List.length_pos_of_mem this
  rw [List.length_cons] at hl; omega
 | x::l,i+1,0,a,b,hl,ha,hpa,hb,hpb=>by
  simp at ha hb; subst hb;rw [List.filter_cons_of_pos hpb] at hl;have:a∈l.filter p:=List.mem_filter.2 ⟨ZF ha,hpa⟩;have:=List.length_pos_of_mem this
  rw [List.length_cons] at hl; omega
 | x::l,i+1,j+1,a,b,hl,ha,hpa,hb,hpb=>by
  simp at ha hb;have hl':(l.filter p).length<=1:=by
   by_cases hx:p x=true
   ·rw [List.filter_cons_of_pos hx,List.length_cons] at hl; omega
   ·rw [List.filter_cons_of_neg hx] at hl; exact hl
  rw [kU hl' ha hpa hb hpb]
structure Disc (w0:World) where
 rel:World->Prop
 tok:Oper->Bool
 lock:World->Prop
 still:World->World->Prop
 lock_still: ∀w w',still w w'->lock w->lock w'
 still_refl: ∀w,still w w
 fin:World->Prop
 fin_still: ∀w w',still w w'->fin w->fin w'
 good:Bool->Ent->Prop
 foot:Ent->Value->Nat->Prop
 step:World->World->(Nat->Prop)->Prop
 foot_ex: ∀v u g,¬foot (.ex v) u g
 step_refl: ∀w E,step w w E
 rel_step: ∀w w' E,rel w->step w w' E->rel w'
 keep: ∀b e,good b e-> ∀v w w' E,rel w->step w w' E->(b=true->still w w')->(∀g,foot e v g-> ¬E g)->e.sat v w->e.sat v w'
 bound: ∀b e,good b e-> ∀v w,e.sat v w-> ∀g,foot e v g->g<w.heap.size
 inv:World->Prop
 inv_step: ∀w w' E,step w w' E->inv w->inv w'
def M8 (w0:World):Disc w0 where
 rel:=Below w0.heap.size w0
 tok:=fun _=>false
 lock:=fun _=>True
 still:=fun _ _=>True
 lock_still:=fun _ _ _ h=>h
 still_refl:=fun _=>trivial
 fin:=fun _=>True
 fin_still:=fun _ _ _ h=>h
 good:=fun _=>Ent.mono
 foot:=fun _ _ _=>False
 step:=fun w w' _=>Below w.heap.size w w'
 foot_ex:=fun _ _ _ h=>h
 step_refl:=fun w _=>Below.refl _ w
 rel_step:=fun w w' _ hb h=>hb.trans (h.mono hb.size)
 keep:=fun _ e hm v w w' E _ hs _ _ h=>qp hm hs h
 bound:=fun _ _ _ _ _ _ _ h=>h.elim
 inv:=fun _=>True
 inv_step:=fun _ _ _ _ _=>trivial
def OV (w0:World) (d0:Nat):Disc w0 where
 rel:=Below w0.heap.size w0
 tok:=fun _=>false
 lock:=fun _=>True
 still:=fun _ _=>True
 lock_still:=fun _ _ _ h=>h
 still_refl:=fun _=>trivial
 fin:=fun _=>True
 fin_still:=fun _ _ _ h=>h
 good:=fun _=>Ent.mono
 foot:=fun _ _ _=>False
 step:=fun w w' _=>Below w.heap.size w w'/\w.drawn<=w'.drawn
 foot_ex:=fun _ _ _ h=>h
 step_refl:=fun w _=>⟨Below.refl _ w,ZC⟩
 rel_step:=fun w w' _ hb h=>hb.trans (h.1.mono hb.size)
 keep:=fun _ e hm v w w' E _ hs _ _ h=>qp hm hs.1 h
 bound:=fun _ _ _ _ _ _ _ h=>h.elim
 inv:=fun w=>d0<=w.drawn
 inv_step:=fun _ _ _ h h'=>Nat.le_trans h' h.2
def OC (w0:World):Disc w0 where
 rel:=Below w0.heap.size w0
 tok:=fun _=>false
 lock:=fun _=>True
 still:=fun _ _=>True
 lock_still:=fun _ _ _ h=>h
 still_refl:=fun _=>trivial
 fin:=fun _=>True
 fin_still:=fun _ _ _ h=>h
 good:=fun _=>Ent.strong w0
 foot:=Ent.foot
 step:=wy w0
 foot_ex:=fun _ _ _ h=>h
 step_refl:=fun w _=>⟨Below.refl _ w,fun _ _ _ _=>rfl⟩
 rel_step:=fun w w' _ hb h=>hb.trans h.1
 keep:=fun _ e hs v w w' E _ hst _ hE h=>by
  cases e with
  | ex u=>exact h
  | pr φ=>exact hs v w w' hst.1 h
  | own φ S =>
   refine hs.1 v w w' hst.1 (fun g hg=> ?_) h
   obtain ⟨h1,h2⟩:=hs.2 v w h g hg
   exact hst.2 g h1 h2 (hE g hg)
 bound:=fun _ e hs v w h g hg=>by
  cases e with
  | ex u=>exact hg.elim
  | pr φ=>exact hg.elim
  | own φ S=>exact (hs.2 v w h g hg).2
 inv:=fun _=>True
 inv_step:=fun _ _ _ _ _=>trivial
section sound
variable {P:Program} {r:Option Nat} {Q:Exit->Act->World->Prop} {N:Nat} {ds:List Deferred} {ops:List Oper} {w0:World}
abbrev Lay:=Option Bool×Ent×List Nat
def Disc.Lo (dc:Disc w0) (o:Oper) (w w':World):Prop:=(dc.tok o=false->dc.still w w')/\(dc.tok o=true->dc.fin w')
def BS (dc:Disc w0) (D:DE) (eats:List Nat) (a:Act) (g:Nat):Prop:= ∃s c e,oQ eats s=true/\eH D s=some (c,e)/\aV c/\dc.foot e (a.tmps.getD s undef) g
def uN (P:Program) (N:Nat) (ds:List Deferred) (ops:List Oper) (dc:Disc w0) (o:Oper) (D:DE) (G:Option Bool) (e:Ent) (eats:List Nat):Prop :=
 iY ops D o.guard=some G/\be N o.dst=true/\eD o.op=true/\dc.good (dc.tok o) e/\uR ops o eats=true/\(∀s,s∈eats-> ∃c φ S,eH D s=some (c,.own φ S)) /\
 (aV G-> ∀a w,dc.rel w->(dc.tok o=true->dc.lock w)->FitL N ds (o.looksAt ops.toArray) D a w ->
  (∃v w',((execOp a.eval o).run P w= .ok (.value v) w'∨(o.dst=none/\(execOp a.eval o).run P w= .ok .skip w'))/\dc.step w w' (BS dc D eats a)/\dc.Lo o w w'/\e.sat v w'/\ ∀g,dc.foot e v g->BS dc D eats a g∨w.heap.size<=g) ∨
  (∃f vs,(execOp a.eval o).run P w= .ok (.enter f vs) w/\Gives P f vs w fun v w'=>dc.step w w' (BS dc D eats a)/\dc.Lo o w w'/\e.sat v w'/\ ∀g,dc.foot e v g->BS dc D eats a g∨w.heap.size<=g))
def xh (w0:World) (d0:Nat):Mode->Disc w0
 | .weak=>M8 w0
 | .own=>OC w0
 | .cnt=>OV w0 d0
def gz (D:DE):List Oper->List Lay->DE
 | o::os,(G,e,s)::ges=>gz (dM (jr D s) o.dst G e) os ges
 | _,_=>D
theorem uL {Fin:DE->Prop} {m:Mode} (d0:Nat): ∀ {rest:List Oper} {D:DE},DW P N ds m ops w0 Fin rest D ->
  ∃ ges:List Lay,ges.length=rest.length/\Fin (gz D rest ges) /\
   ∀ i o G e s,rest[i]?=some o->ges[i]?=some (G,e,s)->uN P N ds ops (xh w0 d0 m) o (gz D (rest.take i) (ges.take i)) G e s
 | [],D,h=>⟨[],rfl,by cases m<;>exact h,fun i o G e s h1 _=>by simp at h1⟩
 | o::rest,D,h=>by
  have key: ∃G e s,uN P N ds ops (xh w0 d0 m) o D G e s/\DW P N ds m ops w0 Fin rest (dM (jr D s) o.dst G e):=by
   cases m with
   | weak =>
    obtain ⟨G,e,⟨h1,h2,h3,h4,h5⟩,h6⟩:=h;refine ⟨G,e,[],⟨h1,h2,h3,h4,rfl,fun s hs=>by simp at hs,fun hG a w hb _ ha=> ?_⟩,by rw [iC]; exact h6⟩;rcases h5 hG a w hb ha with ⟨v,w',q1,q2,q3⟩|⟨f,vs,q1,q2⟩
    ·exact .inl ⟨v,w',.inl q1,q2,⟨fun _=>trivial,fun _=>trivial⟩,q3,fun g hg=>hg.elim⟩
    ·exact .inr ⟨f,vs,q1,q2.mono fun v w' ⟨q3,q4⟩=>⟨q3,⟨fun _=>trivial,fun _=>trivial⟩,q4,fun g hg=>hg.elim⟩⟩
   | own =>
    obtain ⟨G,e,s,⟨h1,h2,h3,h4,h5,h6,h7⟩,h8⟩:=h;refine ⟨G,e,s,⟨h1,h2,h3,h4,h5,h6,fun hG a w hb _ ha=> ?_⟩,h8⟩;rcases h7 hG a w hb ha with ⟨v,w',q1,q2,q3,q4⟩|⟨f,vs,q1,q2⟩
    ·exact .inl ⟨v,w',.inl q1,q2,⟨fun _=>trivial,fun _=>trivial⟩,q3,q4⟩
    ·exact .inr ⟨f,vs,q1,q2.mono fun v w' ⟨q3,q4,q5⟩=>⟨q3,⟨fun _=>trivial,fun _=>trivial⟩,q4,q5⟩⟩
   | cnt =>
    obtain ⟨G,e,⟨h1,h2,h3,h4,h5⟩,h6⟩:=h;refine ⟨G,e,[],⟨h1,h2,h3,h4,rfl,fun s hs=>by simp at hs,fun hG a w hb _ ha=> ?_⟩,by rw [iC]; exact h6⟩;rcases h5 hG a w hb ha with ⟨v,w',q1,q2,q3⟩|⟨f,vs,q1,q2⟩
    ·exact .inl ⟨v,w',.inl q1,q2,⟨fun _=>trivial,fun _=>trivial⟩,q3,fun g hg=>hg.elim⟩
    ·exact .inr ⟨f,vs,q1,q2.mono fun v w' ⟨q3,q4⟩=>⟨q3,⟨fun _=>trivial,fun _=>trivial⟩,q4,fun g hg=>hg.elim⟩⟩
  obtain ⟨G,e,s,h1,h2⟩:=key;obtain ⟨ges,hl,hF,hi⟩:=uL d0 h2;refine ⟨(G,e,s)::ges,by simp [hl],hF,?_⟩;intro i o' G' e' s' ho he
  cases i with
  | zero =>
   simp at ho he;obtain ⟨rfl,rfl,rfl⟩:=he;subst ho
   simpa [gz] using h1
  | succ i =>
   simp at ho he;simpa [gz] using hi i o' G' e' s' ho he
theorem iB {s:Nat} {x:Option Bool×Ent}: ∀(os:List Oper) (ges:List Lay) (D:DE),eH (gz D os ges) s=some x ->
  (∃(k:Nat) (o:Oper) (G:Option Bool) (e:Ent) (E:List Nat),os[k]?=some o/\ges[k]?=some (G,e,E)/\o.dst=some s/\x=(G,e)/\ ∀(j:Nat) (o':Oper) (G':Option Bool) (e':Ent) (E':List Nat),k<j->os[j]?=some o'->ges[j]?=some (G',e',E')-> ¬s∈E') ∨
  (eH D s=some x/\(∀(k:Nat) (o:Oper) (G:Option Bool) (e:Ent) (E:List Nat),os[k]?=some o->ges[k]?=some (G,e,E)->o.dst≠some s/\ ¬s∈E))
 | [],ges,D,h=> .inr ⟨by simpa [gz] using h,fun k o G e E hk=>by simp at hk⟩
 | o::os,[],D,h=> .inr ⟨by simpa [gz] using h,fun k o G e E _ hg=>by simp at hg⟩
 | o::os,(G,e,E)::ges,D,h=>by
  rw [gz] at h;rcases iB os ges _ h with ⟨k,o',G',e',E',h1,h2,h3,h4,h5⟩|⟨h1,h2⟩
  ·refine .inl ⟨k+1,o',G',e',E',by simpa using h1,by simpa using h2,h3,h4,fun j o'' G'' e'' E'' hj ho hg=> ?_⟩;obtain ⟨j,rfl⟩: ∃i,j=i+1:=⟨j-1,by omega⟩;exact h5 j o'' G'' e'' E'' (by omega) (by simpa using ho) (by simpa using hg)
  ·have hd:(o.dst=some s/\x=(G,e))∨(o.dst≠some s/\eH (jr D E) s=some x):=by
    cases hdst:o.dst with
    | none=>rw [hdst] at h1; exact .inr ⟨by simp,h1⟩
    | some d =>
     rw [hdst] at h1;simp only [dM,eH] at h1;by_cases hds:d=s
     ·subst hds; rw [eu] at h1; simp at h1; exact .inl ⟨rfl,h1.symm⟩
     ·rw [kC hds] at h1; exact .inr ⟨fun e=>hds (by simpa using e),h1⟩
   rcases hd with ⟨hd,hx⟩|⟨hd,hx⟩
   ·refine .inl ⟨0,o,G,e,E,rfl,rfl,hd,hx,fun j o' G' e' E' hj ho hg=> ?_⟩;obtain ⟨j,rfl⟩: ∃i,j=i+1:=⟨j-1,by omega⟩;exact (h2 j o' G' e' E' (by simpa using ho) (by simpa using hg)).2
   ·rw [rM] at hx
    split at hx
    ·cases hx
    ·rename_i hE;refine .inr ⟨hx,fun k o' G' e' E' ho hg=> ?_⟩
     cases k with
     | zero =>
      simp at ho hg;obtain ⟨rfl,rfl,rfl⟩:=hg;subst ho
      exact ⟨hd,fun hm=>hE (hasN_iff.2 hm)⟩
     | succ k=>exact h2 k o' G' e' E' (by simpa using ho) (by simpa using hg)
inductive Reach (ops:List Oper):Nat->Nat->Prop
 | one {i:Nat} {o:Oper} {e:Edge}:ops[i]?=some o->e∈o.after->Region.binds .any e=true->Reach ops i e.on
 | more {i k:Nat} {o:Oper} {e:Edge}:ops[i]?=some o->e∈o.after->Region.binds .any e=true->Reach ops e.on k->Reach ops i k
def oM (acc:List Nat) (o:Oper):Nat:=o.after.toList.foldl (fun m e=>if Region.binds .any e then m ||| (1 <<< e.on) ||| acc.getD e.on 0 else m) 0
def nL:List Nat->List Oper->List Nat
 | acc,[]=>acc
 | acc,o::os=>nL (acc++ [oM acc o]) os
def ko (ops:List Oper):List Nat:=nL [] ops
def rP (ops:List Oper) (s t:Nat):Bool:=((ko ops).drop t).all fun m=>Nat.beq ((m >>> s) &&& ((1 <<< (t-s))-1)) ((1 <<< (t-s))-1)
theorem yG {acc:List Nat} {o:Oper} {k:Nat} (h:(oM acc o).testBit k=true): ∃e∈o.after,Region.binds .any e=true/\(e.on=k∨(acc.getD e.on 0).testBit k=true):=by
 have key: ∀(l:List Edge) (m:Nat),(l.foldl (fun m e=>if Region.binds .any e then m ||| (1 <<< e.on) ||| acc.getD e.on 0 else m) m).testBit k=true->m.testBit k=true∨ ∃e∈l,Region.binds .any e=true/\(e.on=k∨(acc.getD e.on 0).testBit k=true):=by
  intro l
  induction l with
  | nil=>intro m h; exact .inl h
  | cons e l ih =>
   intro m h;rw [List.foldl_cons] at h;rcases ih _ h with h1|⟨e',h1,h2⟩
   ·split at h1
    ·rename_i hb;rw [Nat.testBit_or,Nat.testBit_or,Bool.or_eq_true,Bool.or_eq_true] at h1;rcases h1 with (h1|h1)|h1
     ·exact .inl h1
     ·refine .inr ⟨e,by simp,hb,.inl ?_⟩;rw [Nat.one_shiftLeft,Nat.testBit_two_pow] at h1;exact of_decide_eq_true h1
     ·exact .inr ⟨e,by simp,hb,.inr h1⟩
    ·exact .inl h1
   ·exact .inr ⟨e',by simp [h1],h2⟩
 rcases key _ 0 h with h1|⟨e,h1,h2⟩
 ·simp at h1
 ·exact ⟨e,by simpa using h1,h2⟩
theorem oz: ∀(os:List Oper) (acc:List Nat),(∀i,acc.length<=i->ops[i]?=os[i-acc.length]?)->(∀i k,(acc.getD i 0).testBit k=true->Reach ops i k)-> ∀i k,((nL acc os).getD i 0).testBit k=true->Reach ops i k
 | [],acc,_,h,i,k,hk=>h i k hk
 | o::os,acc,ho,h,i,k,hk=>by
  refine oz os (acc++ [oM acc o]) (fun i hi=> ?_) (fun i k hk=> ?_) i k hk
  ·simp at hi;rw [ho i (by omega)];have:i-acc.length=(i-(acc++ [oM acc o]).length)+1:=by simp; omega
   rw [this]; simp
  ·by_cases hi:i<acc.length
   ·refine h i k ?_;rw [List.getD_eq_getElem?_getD,List.getElem?_append_left hi,<-List.getD_eq_getElem?_getD] at hk; exact hk
   ·by_cases hi2:i=acc.length
    ·subst hi2;have e:(acc++ [oM acc o]).getD acc.length 0=oM acc o:=by simp
     rw [e] at hk;have hop:ops[acc.length]?=some o:=by rw [ho _ ZC]; simp
     obtain ⟨e,h1,h2,h3|h3⟩:=yG hk
     ·rw [<-h3]; exact .one hop h1 h2
     ·exact .more hop h1 h2 (h _ _ h3)
    ·have:(acc++ [oM acc o]).getD i 0=0:=by
      rw [List.getD_eq_getElem?_getD,List.getElem?_eq_none (by simp; omega)]; rfl
     rw [this] at hk; simp at hk
theorem rC {i k:Nat} (h:((ko ops).getD i 0).testBit k=true):Reach ops i k:=oz ops [] (fun i _=>by simp) (fun i k h=>by simp at h) i k h
theorem kJ: ∀(os:List Oper) (acc:List Nat),(nL acc os).length=acc.length+os.length
 | [],acc=>by simp [nL]
 | o::os,acc=>by rw [nL,kJ os]; simp; omega
theorem uq {s t:Nat} (h:rP ops s t=true) {i k:Nat} (hti:t<=i) (hi:i<ops.length) (hsk:s<=k) (hkt:k<t):Reach ops i k:=by
 unfold rP at h;rw [List.all_eq_true] at h;have hlen:(ko ops).length=ops.length:=by unfold ko; rw [kJ]; simp
 have hm:(ko ops).getD i 0∈(ko ops).drop t:=by
  rw [List.mem_iff_getElem?];refine ⟨i-t,?_⟩;rw [List.getElem?_drop,show t+(i-t)=i by omega,List.getD_eq_getElem?_getD,ZD (by omega)];rfl
 have h1:=Nat.eq_of_beq_eq_true (h _ hm);refine rC ?_;have h2:((((ko ops).getD i 0) >>> s) &&& ((1 <<< (t-s))-1)).testBit (k-s)=true:=by
  rw [h1,Nat.one_shiftLeft,Nat.testBit_two_pow_sub_one];simp; omega
 rw [Nat.testBit_and,Bool.and_eq_true,Nat.testBit_shiftRight] at h2;rw [show s+(k-s)=k by omega] at h2;exact h2.1
theorem lY {listed:Array Bool} (hc: ∀k o,ops[k]?=some o->listed.getD k false=true-> ∀e∈o.after,Region.binds .any e=true->listed.getD e.on false=true) (hb: ∀k o,ops[k]?=some o-> ∀e∈o.after,Region.binds .any e=true->e.on<k)
  {i k:Nat} (h:Reach ops i k):(∀o,ops[i]?=some o-> ∀e∈o.after,Region.binds .any e=true->listed.getD e.on false=true)->listed.getD k false=true:=by
 induction h with
 | one h1 h2 h3=>intro hd; exact hd _ h1 _ h2 h3
 | @more i k o e h1 h2 h3 _ ih =>
  intro hd;exact ih (fun o' ho'=>hc _ o' ho' (hd _ h1 _ h2 h3))
def jJ (ges:List Lay) (s:Nat) (listed:Array Bool) (d:Nat):Prop:= ∃j G e E,ges[j]?=some (G,e,E)/\d∈E/\listed.getD (s+j) false=true
structure DInv (N:Nat) (ds:List Deferred) (ops:List Oper) (dc:Disc w0) (s:Nat) (ges:List Lay) (a0:Act) (listed:Array Bool) (a:Act) (w:World):Prop where
 below:dc.rel w
 lock: ∀k o,k<ges.length->ops[s+k]?=some o->dc.tok o=true->listed.getD (s+k) false=false->dc.lock w
 inv:dc.inv w
 fin: ∀k o G e E,ops[s+k]?=some o->ges[k]?=some (G,e,E)->dc.tok o=true->listed.getD (s+k) false=true->aV G->dc.fin w
 size:a.tmps.size=N
 defers:a.defers=ds
 pre: ∀k,k<s->listed.getD k false=true
 post: ∀k,s+ges.length<=k->listed.getD k false=false
 done: ∀k o d G e E,ops[s+k]?=some o->o.dst=some d->ges[k]?=some (G,e,E)->listed.getD (s+k) false=true-> ¬jJ ges s listed d->qA G e (a.tmps.getD d undef) w
 apart: ∀k o d G e E k' o' d' G' e' E',ops[s+k]?=some o->o.dst=some d->ges[k]?=some (G,e,E)->listed.getD (s+k) false=true-> ¬jJ ges s listed d->aV G ->
  ops[s+k']?=some o'->o'.dst=some d'->ges[k']?=some (G',e',E')->listed.getD (s+k') false=true-> ¬jJ ges s listed d'->aV G'->k≠k'-> ∀g,dc.foot e (a.tmps.getD d undef) g->dc.foot e' (a.tmps.getD d' undef) g->False
 todo: ∀k o d,k<ges.length->ops[s+k]?=some o->o.dst=some d->listed.getD (s+k) false=false->a.tmps.getD d undef=a0.tmps.getD d undef
 others: ∀x,(∀(k:Nat) (o:Oper),k<ges.length->ops[s+k]?=some o->o.dst≠some x)->a.tmps.getD x undef=a0.tmps.getD x undef
 closed: ∀k o,ops[k]?=some o->listed.getD k false=true-> ∀e∈o.after,Region.binds .any e=true->listed.getD e.on false=true
def dX (ops:List Oper) (s t:Nat):List Oper:=(ops.drop s).take (t-s)
theorem gD {s t k:Nat}:(dX ops s t)[k]?=if k<t-s then ops[s+k]? else none:=by
 unfold dX;rw [List.getElem?_take]
 split
 ·rw [List.getElem?_drop]
 ·rfl
theorem um {D0:DE} {ges:List Lay} {a0:Act} {s t:Nat} (dc:Disc w0) (hlex:mq ops=true) (hcut:rP ops s t=true) (hst:s<=t) (htl:t<=ops.length) (hl:ges.length=t-s)
  (hstep: ∀i o G e E,ops[s+i]?=some o->ges[i]?=some (G,e,E)->uN P N ds ops dc o (gz D0 ((dX ops s t).take i) (ges.take i)) G e E)
  (htok: ∀i j o o',i<t-s->j<t-s->ops[s+i]?=some o->ops[s+j]?=some o'->dc.tok o=true->dc.tok o'=true->i=j)
  (h0: ∀i c e,eH D0 i=some (c,e)-> ∃v,e= .ex v/\qA c e (a0.tmps.getD i undef) w0)
  (hfin: ∀(fuel:Nat) (listed:Array Bool) (a:Act) (w:World),listed.size=ops.length->(∀k,k<ops.length->listed.getD k false=decide (k<t))->ops.length-t<=fuel->dc.rel w->dc.inv w->(∀k o G e E,ops[s+k]?=some o->ges[k]?=some (G,e,E)->dc.tok o=true->aV G->dc.fin w)->FitD N ds (gz D0 (dX ops s t) ges) a w->wpAnyIn (FR r) 0 P .any ops.toArray Q fuel listed a w) :
  ∀ (fuel:Nat) (listed:Array Bool) (a:Act) (w:World),listed.size=ops.length->((List.range ops.length).filter fun k=> !listed.getD k false).length<=fuel->DInv N ds ops dc s ges a0 listed a w ->
   wpAnyIn (FR r) 0 P .any ops.toArray Q fuel listed a w:=by
 have hback: ∀k o,ops[k]?=some o-> ∀e∈o.after,Region.binds .any e=true->e.on<k:=fun k o hk e he hb=>(dZ hlex hk hk).1 e he hb;have hin: ∀ {k:Nat} {o:Oper},k<t-s->(ops[s+k]?=some o↔(dX ops s t)[k]?=some o):=fun hk=>by rw [gD,if_pos hk]
 have huniq: ∀ {x k i:Nat} {o o':Oper},ops[k]?=some o->o.dst=some x->ops[i]?=some o'->o'.dst=some x->i=k:=by
  intro x k i o o' hk hd ho' hd';rcases ((dZ hlex ho' hk).2 x hd).1 with h|h
  ·exact h.symm
  ·exact absurd hd' h
 have hgl: ∀ {j:Nat} {L:Lay},ges[j]?=some L->j<t-s:=fun hg=>by rw [<-hl]; exact (ZE hg).1
 have hopl: ∀ {j:Nat},j<t-s-> ∃o,ops[s+j]?=some o:=fun hj=>⟨_,ZD (by omega)⟩;have hgel: ∀ {j:Nat},j<t-s-> ∃G e E,ges[j]?=some (G,e,E):=fun hj=>⟨_,_,_,ZD (by omega)⟩;have hlooks: ∀ {j x:Nat} {G e E} {o:Oper},ges[j]?=some (G,e,E)->x∈E->ops[s+j]?=some o->x∈o.looksAt ops.toArray:=by
  intro j x G e E o hg hs ho;have h5:=(hstep j o G e E ho hg).2.2.2.2.1;unfold uR at h5;rw [List.all_eq_true] at h5;have h6:=h5 x hs;simp only [Bool.and_eq_true] at h6;simpa using h6.1
 have hsole: ∀ {j i x:Nat} {G e E} {o:Oper},ges[j]?=some (G,e,E)->x∈E->ops[i]?=some o->x∈o.looksAt ops.toArray->s+j=i:=by
  intro j i x G e E o hg hs ho hlk;obtain ⟨oj,hj⟩:=hopl (hgl hg);have h5:=(hstep j oj G e E hj hg).2.2.2.2.1;unfold uR at h5;rw [List.all_eq_true] at h5;have h6:=h5 x hs;simp only [Bool.and_eq_true] at h6;exact kU (p:=fun p=>(p.looksAt ops.toArray).contains x) (Nat.le_of_ble_eq_true h6.2) hj h6.1 ho (by simpa using hlk)
 have htake: ∀ {i k:Nat} {o:Oper} {L:Lay},i<=t-s->((dX ops s t).take i)[k]?=some o->(ges.take i)[k]?=some L->k<i/\ops[s+k]?=some o/\ges[k]?=some L:=by
  intro i k o L hi h1 h2;have hki:k<i:=by have:=(ZE h1).1; simp at this; omega
  rw [List.getElem?_take_of_lt hki] at h1 h2;exact ⟨hki,(hin (by omega)).2 h1,h2⟩
 have heat: ∀ {j k x:Nat} {G e E} {o:Oper},ges[j]?=some (G,e,E)->x∈E->ops[k]?=some o->o.dst=some x->s<=k/\k<s+j:=by
  intro j k x G e E o hg hs hk hd;obtain ⟨oj,hj⟩:=hopl (hgl hg);obtain ⟨c,φ,S,hlk⟩:=(hstep j oj G e E hj hg).2.2.2.2.2.1 x hs;rcases iB _ _ D0 hlk with ⟨k',o',G',e',E',hk',hge,hd',hx,_⟩|⟨h1,_⟩
  ·obtain ⟨h1,h2,_⟩:=htake (by have:=hgl hg; omega) hk' hge;have:=huniq h2 hd' hk hd;omega
  ·obtain ⟨v,hv,_⟩:=h0 x c _ h1;cases hv
 intro fuel
 induction fuel with
 | zero =>
  intro listed a w hsz hcount hI;have hall: ∀k,k<ops.length->listed.getD k false=true:=by
   intro k hk
   cases hc:listed.getD k false with
   | true=>rfl
   | false =>
    exfalso;have:k∈(List.range ops.length).filter fun k=> !listed.getD k false:=by rw [List.mem_filter]; exact ⟨by simpa using hk,by rw [hc]; rfl⟩
    have hnil:(List.range ops.length).filter (fun k=> !listed.getD k false)= []:=List.eq_nil_of_length_eq_zero (by omega);rw [hnil] at this;cases this
  have htt:t=ops.length:=by
   rcases ZI t ops.length with h|h
   ·have:=hI.post t (by omega);rw [hall t h] at this; cases this
   ·omega
  refine hfin 0 listed a w hsz (fun k hk=>by rw [hall k hk]; simp; omega) (by omega) hI.below hI.inv (fun k o G e E hk hge ht hc=>hI.fin k o G e E hk hge ht (hall _ (by have:=hgl hge; omega)) hc) ⟨hI.size,hI.defers,fun x c e hs=> ?_⟩;rcases iB _ _ D0 hs with ⟨k,o,G,e',E,hk,hge,hd,hx,hno⟩|⟨h1,h2⟩
  ·cases hx;have hkl:=hgl hge;have hk:=(hin hkl).2 hk;refine hI.done k o x c e E hk hd hge (hall _ (by omega)) ?_;rintro ⟨j,G',e',E',hgj,hsE,_⟩;obtain ⟨oj,hj⟩:=hopl (hgl hgj);have:=heat hgj hsE hk hd;exact hno j oj G' e' E' (by omega) ((hin (hgl hgj)).1 hj) hgj hsE
  ·obtain ⟨v,rfl,hok⟩:=h0 x c e h1;rw [hI.others x (fun i o hi ho=>by
    obtain ⟨G,e,E,hg⟩:=hgel (j:=i) (by omega);exact (h2 i o _ _ _ ((hin (by omega)).1 ho) hg).1)]
   exact hok
 | succ fuel ih =>
  intro listed a w hsz hcount hI;by_cases hdone: ∀k,s<=k->k<t->listed.getD k false=true
  ·-- the dX is done
   have hlt: ∀k,k<ops.length->listed.getD k false=decide (k<t):=by
    intro k hk;by_cases h1:k<t
    ·rcases ZI k s with h2|h2
     ·rw [hI.pre k h2]; simp [h1]
     ·rw [hdone k h2 h1]; simp [h1]
    ·rw [hI.post k (by omega)]; simp [h1]
   refine hfin (fuel+1) listed a w hsz hlt ?_ hI.below hI.inv (fun k o G e E hk hge ht hc=>hI.fin k o G e E hk hge ht (hdone _ (by omega) (by have:=hgl hge; omega)) hc) ⟨hI.size,hI.defers,fun x c e hs=> ?_⟩
   ·refine Nat.le_trans ?_ hcount;have:(List.range ops.length).filter (fun k=> !listed.getD k false)=(List.range ops.length).filter (fun k=>decide (t<=k)):=by
     refine List.filter_congr fun k hk=> ?_;rw [hlt k (by simpa using hk)];by_cases h1:k<t<;>simp [h1]<;>omega
    rw [this];have hsub:((List.range ops.length).filter fun k=>decide (t<=k)).length=ops.length-t:=by
     rw [show ops.length=t+(ops.length-t) by omega,List.range_add,List.filter_append];simp;rw [List.filter_eq_nil_iff.2 (by intro x hx; simp at hx; simp; omega),List.filter_eq_self.2 (by intro x hx; simp at hx; obtain ⟨y,_,rfl⟩:=hx; simp)];simp
    omega
   ·rcases iB _ _ D0 hs with ⟨k,o,G,e',E,hk,hge,hd,hx,hno⟩|⟨h1,h2⟩
    ·cases hx;have hkl:=hgl hge;have hk:=(hin hkl).2 hk;refine hI.done k o x c e E hk hd hge (hdone _ (by omega) (by omega)) ?_;rintro ⟨j,G',e',E',hgj,hsE,_⟩;obtain ⟨oj,hj⟩:=hopl (hgl hgj);have:=heat hgj hsE hk hd;exact hno j oj G' e' E' (by omega) ((hin (hgl hgj)).1 hj) hgj hsE
    ·obtain ⟨v,rfl,hok⟩:=h0 x c e h1;rw [hI.others x (fun i o hi ho=>by
      obtain ⟨G,e,E,hg⟩:=hgel (j:=i) (by omega);exact (h2 i o _ _ _ ((hin (by omega)).1 ho) hg).1)]
     exact hok
  ·have hready: ∀k,s<=k->k<t->listed.getD k false=false->(∀j,s<=j->j<k->listed.getD j false=true)->k∈Region.ready .any ops.toArray listed:=by
    intro k hsk hkt hc hbef;unfold Region.ready;rw [List.mem_filter];have hk:k<ops.length:=by omega
    have hok:ops[k]?=some ops[k]:=ZD hk;refine ⟨by simpa using hk,?_⟩;have hc':listed.getD k true=false:=by
     have:k<listed.size:=by omega
     simpa [this] using hc
    simp only [hc',List.getElem?_toArray,hok,Option.map_some,Option.getD_some,Bool.not_false,Bool.true_and];rw [Array.all_eq_true'];intro e he
    cases hbi:Region.binds .any e with
    | false=>simp
    | true =>
     have hon:=hback k _ hok e he hbi;have:listed.getD e.on false=true:=by
      rcases ZI e.on s with h|h
      ·exact hI.pre _ h
      ·exact hbef _ h hon
     simp [this]
   have hmin: ∃k,s<=k/\k<t/\listed.getD k false=false/\ ∀j,s<=j->j<k->listed.getD j false=true:=by
    have hex: ∃k,s<=k/\k<t/\listed.getD k false=false:=by
     rcases Classical.not_forall.1 hdone with ⟨k,hk⟩;rcases Classical.not_forall.1 hk with ⟨h1,hk⟩;rcases Classical.not_forall.1 hk with ⟨h2,hk⟩;exact ⟨k,h1,h2,by simpa using hk⟩
    obtain ⟨k,h1,h2,h3⟩:=hex
    induction k using Nat.strongRecOn with
    | _ k ihk =>
     by_cases hb: ∀j,s<=j->j<k->listed.getD j false=true
     ·exact ⟨k,h1,h2,h3,hb⟩
     ·rcases Classical.not_forall.1 hb with ⟨j,hj⟩;rcases Classical.not_forall.1 hj with ⟨g1,hj⟩;rcases Classical.not_forall.1 hj with ⟨g2,hj⟩;exact ihk j g2 g1 (by omega) (by simpa using hj)
   refine ⟨fun hr=> ?_,fun i hi=> ?_⟩
   ·obtain ⟨k,h1,h2,h3,h4⟩:=hmin;have:=hready k h1 h2 h3 h4;rw [hr] at this; cases this
   unfold Region.ready at hi;rw [List.mem_filter] at hi;obtain ⟨hi1,hi2⟩:=hi;have hil:i<ops.length:=by simpa using hi1
   have hok:ops[i]?=some ops[i]:=ZD hil;simp only [Bool.and_eq_true,List.getElem?_toArray,hok,Option.map_some,Option.getD_some] at hi2;obtain ⟨hi2,hi3⟩:=hi2;have hni:listed.getD i false=false:=by
    have hs:i<listed.size:=by omega
    simpa [hs] using hi2
   rw [Array.all_eq_true'] at hi3;have hdeps: ∀e∈ops[i].after,Region.binds .any e=true->listed.getD e.on false=true:=by
    intro e he hb;have:=hi3 e he;rw [hb] at this;simpa using this
   have hsi:s<=i:=by
    rcases ZI i s with h|h
    ·have:=hI.pre i h; rw [hni] at this; cases this
    ·exact h
   have hit:i<t:=by
    rcases ZI i t with h|h
    ·exact h
    ·exfalso;refine hdone fun k hk1 hk2=> ?_;exact lY hI.closed hback (uq hcut h hil hk1 hk2) (fun o ho e he hb=>by rw [hok] at ho; cases ho; exact hdeps e he hb)
   obtain ⟨n,rfl⟩: ∃n,i=s+n:=⟨i-s,by omega⟩;have hnl:n<t-s:=by omega
   obtain ⟨o,hok'⟩: ∃o,ops[s+n]?=some o:=⟨_,hok⟩;have hoo:ops[s+n]=o:=by rw [hok] at hok'; simpa using hok'
   obtain ⟨Gi,ei,Ei,hgi⟩:=hgel hnl;rw [hoo] at hdeps;clear hok;obtain ⟨hg,hd,hn,hm,hso,heo,hop⟩:=hstep n o Gi ei Ei hok' hgi;have hne: ∀x,x∈o.looksAt ops.toArray-> ¬jJ ges s listed x:=by
    rintro x hs ⟨j,G,e,E,hgj,hsE,hlj⟩;have:=hsole hgj hsE hok' hs;rw [this,hni] at hlj; cases hlj
   have hsee: ∀x k p,x∈o.looksAt ops.toArray->k<s+n->ops[k]?=some p->p.dst=some x->listed.getD k false=true:=by
    intro x k p hsL hki hk hd;obtain ⟨e',he',hb',hon⟩:=(((dZ hlex hok' hk).2 x hd).2 hsL).1 hki;exact hon ▸ hdeps e' he' hb'
   have hfit:FitL N ds (o.looksAt ops.toArray) (gz D0 ((dX ops s t).take n) (ges.take n)) a w:=by
    refine ⟨hI.size,hI.defers,fun x hsL c e hs=> ?_⟩;rcases iB _ _ D0 hs with ⟨k,p,G,e',E,hk,hge,hd,hx,hno⟩|⟨h1,h2⟩
    ·cases hx;obtain ⟨hki,hk,hge⟩:=htake (by omega) hk hge;exact hI.done k p x c e E hk hd hge (hsee x (s+k) p hsL (by omega) hk hd) (hne x hsL)
    ·obtain ⟨v,rfl,hok0⟩:=h0 x c e h1;by_cases hw: ∃(k:Nat) (p:Oper),k<ges.length/\ops[s+k]?=some p/\p.dst=some x
     ·obtain ⟨k,p,hkl,hk,hd⟩:=hw;have hik:n<=k:=by
       rcases ZI k n with hki|hik
       ·obtain ⟨G,e,E,hg⟩:=hgel (j:=k) (by omega);exact absurd hd (h2 k p _ _ _ (by rw [List.getElem?_take_of_lt hki]; exact (hin (by omega)).1 hk) (by rw [List.getElem?_take_of_lt hki]; exact hg)).1
       ·exact hik
      have hlk:listed.getD (s+k) false=false:=by
       rcases (((dZ hlex hok' hk).2 x hd).2 hsL).2 (by omega) with h|⟨e',he',hb',hon⟩
       ·rw [h]; exact hni
       ·cases hc:listed.getD (s+k) false with
        | false=>rfl
        | true =>
         have:=hI.closed (s+k) p hk hc e' he' hb';rw [hon,hni] at this;cases this
      rw [hI.todo k p x hkl hk hd hlk];exact hok0
     ·rw [hI.others x (fun k p hk ho hd=>hw ⟨k,p,hk,ho,hd⟩)];exact hok0
   obtain ⟨hw1,hw2⟩:=Bo (ops:=ops) (o:=o) hfit (fun d hd=>yH hd) hg;have heatk: ∀x,x∈Ei-> ∃k p G e E,ops[s+k]?=some p/\p.dst=some x/\ges[k]?=some (G,e,E)/\listed.getD (s+k) false=true/\eH (gz D0 ((dX ops s t).take n) (ges.take n)) x=some (G,e):=by
    intro x hs;obtain ⟨c,φ,S,hlk⟩:=heo x hs;have hsL:=hlooks hgi hs hok';rcases iB _ _ D0 hlk with ⟨k,p,G,e',E,hk,hge,hd,hx,_⟩|⟨h1,_⟩
    ·obtain ⟨hki,hk,hge⟩:=htake (by omega) hk hge;exact ⟨k,p,G,e',E,hk,hd,hge,hsee x (s+k) p hsL (by omega) hk hd,by rw [hlk,hx]⟩
    ·obtain ⟨v,hv,_⟩:=h0 x c _ h1;cases hv
   have hset: ∀k,(listed.setIfInBounds (s+n) true).getD k false=if k=s+n then true else listed.getD k false:=by
    intro k;by_cases hki:k=s+n
    ·subst hki; simp [hsz,hil]
    ·have:s+n≠k:=fun e=>hki e.symm;simp [hki,Array.getElem?_setIfInBounds_ne this]
   have heaten: ∀d,¬jJ ges s (listed.setIfInBounds (s+n) true) d-> ¬jJ ges s listed d/\ ¬d∈Ei:=by
    intro d h;refine ⟨fun ⟨j,G,e,E,h1,h2,h3⟩=>h ⟨j,G,e,E,h1,h2,?_⟩,fun hd=>h ⟨n,Gi,ei,Ei,hgi,hd,by rw [hset]; simp⟩⟩;rw [hset]; split
    ·rfl
    ·exact h3
   have hEat: ∀k p d G e E,ops[s+k]?=some p->p.dst=some d->ges[k]?=some (G,e,E)->listed.getD (s+k) false=true-> ¬jJ ges s listed d->aV G-> ¬d∈Ei-> ∀g,dc.foot e (a.tmps.getD d undef) g-> ¬BS dc (gz D0 ((dX ops s t).take n) (ges.take n)) Ei a g:=by
    rintro k p d G e E hk hd hge hlk hnk hcG hdE g hfg ⟨x,c,e',hsE,hls,hcc,hf⟩;have hsE:=hasN_iff.1 hsE;obtain ⟨k',o',G',e'',E',hk',hd',hge',hlk',hdl⟩:=heatk x hsE;rw [hdl] at hls;cases hls;have hsL:=hlooks hgi hsE hok';refine hI.apart k p d G e E k' o' x _ _ E' hk hd hge hlk hnk hcG hk' hd' hge' hlk' (hne x hsL) hcc (fun h=> ?_) g hfg hf;subst h;rw [hk] at hk'; cases hk';rw [hd] at hd'; cases hd';exact hdE hsE
   have hnext: ∀v w',dc.step w w' (BS dc (gz D0 ((dX ops s t).take n) (ges.take n)) Ei a)->((dc.tok o=false->dc.still w w')/\(aV Gi->dc.tok o=true->dc.fin w'))->qA Gi ei v w'->(aV Gi-> ∀g,dc.foot ei v g->BS dc (gz D0 ((dX ops s t).take n) (ges.take n)) Ei a g∨w.heap.size<=g) ->
     wpAnyIn (FR r) 0 P .any ops.toArray Q fuel (listed.setIfInBounds (s+n) true) (a.put o.dst v) w':=by
    intro v w' hst hlo hs hfoot;refine ih _ _ _ (by simpa using hsz) ?_ ?_
    ·have hsub:((List.range ops.length).filter fun k=> !(listed.setIfInBounds (s+n) true).getD k false)=((List.range ops.length).filter fun k=> !listed.getD k false).erase (s+n):=by
      have hnd:((List.range ops.length).filter fun k=> !listed.getD k false).Nodup:=List.nodup_range.sublist List.filter_sublist;rw [hnd.erase_eq_filter,List.filter_filter]
      congr 1
      funext k;rw [hset];by_cases hki:k=s+n<;>simp [hki]
     rw [hsub,List.length_erase_of_mem]
     ·omega
     ·rw [List.mem_filter]; exact ⟨by simpa using hil,by rw [hni]; rfl⟩
    ·have hput: ∀x,o.dst≠some x->(a.put o.dst v).tmps.getD x undef=a.tmps.getD x undef:=by
      intro x hne
      cases hd':o.dst with
      | none=>rfl
      | some d =>
       rw [hd'] at hne;have:d≠x:=fun e=>hne (by rw [e]);simp [Act.put,Array.getElem?_setIfInBounds_ne this]
     have hputsame: ∀x,o.dst=some x->(a.put o.dst v).tmps.getD x undef=v:=by
      intro x hs';rw [hs'];have:x<a.tmps.size:=by
       rw [hs'] at hd;rw [hI.size];exact blt_iff.1 hd
      simp [Act.put,this]
     have hdst: ∀ {k p d},ops[s+k]?=some p->p.dst=some d->k≠n->o.dst≠some d:=by
      intro k p d hk hd' hki h;have:=huniq hok' h hk hd';omega
     have hold: ∀k p d G e E,ops[s+k]?=some p->p.dst=some d->ges[k]?=some (G,e,E)->k≠n->listed.getD (s+k) false=true-> ¬jJ ges s listed d-> ¬d∈Ei->qA G e (a.tmps.getD d undef) w':=by
      intro k p d G e E hk hd' hge hki hlk hnk hdE;have h1:=hI.done k p d G e E hk hd' hge hlk hnk;have hme:dc.good (dc.tok p) e:=(hstep k p G e E hk hge).2.2.2.1;have hsti:dc.tok p=true->dc.still w w':=fun hp=>by
       cases hto:dc.tok o with
       | true=>exact absurd (htok k n p o (hgl hge) hnl hk hok' hp hto) hki
       | false=>exact hlo.1 hto
      exact ⟨fun hc=>dc.keep _ e hme _ w w' _ hI.below hst hsti (hEat k p d G e E hk hd' hge hlk hnk hc hdE) (h1.1 hc),h1.2⟩
     have hnew: ∀k p d G e E,ops[s+k]?=some p->p.dst=some d->ges[k]?=some (G,e,E)->k≠n->listed.getD (s+k) false=true-> ¬jJ ges s listed d-> ¬d∈Ei->aV G->aV Gi-> ∀g,dc.foot e (a.tmps.getD d undef) g->dc.foot ei v g->False:=by
      intro k p d G e E hk hd' hge hki hlk hnk hdE hcG hcGi g hf1 hf2;rcases hfoot hcGi g hf2 with h|h
      ·exact hEat k p d G e E hk hd' hge hlk hnk hcG hdE g hf1 h
      ·have h1:=(hI.done k p d G e E hk hd' hge hlk hnk).1 hcG;have hme:dc.good (dc.tok p) e:=(hstep k p G e E hk hge).2.2.2.1;have:=dc.bound _ e hme _ w h1 g hf1;omega
     refine ⟨dc.rel_step w w' _ hI.below hst,fun k p hkl hk htk hlk=> ?_,dc.inv_step _ _ _ hst hI.inv,fun k p G e E hk hge htk hlk hcG=> ?_,?_,?_,?_,?_,?_,?_,?_,?_,?_⟩
     ·rw [hset] at hlk;by_cases hki:k=n
      ·subst hki; simp at hlk
      ·rw [if_neg (by omega)] at hlk;have hlw:=hI.lock k p hkl hk htk hlk
       cases hto:dc.tok o with
       | true=>exact absurd (htok k n p o (by omega) hnl hk hok' htk hto) hki
       | false=>exact dc.lock_still _ _ (hlo.1 hto) hlw
     ·rw [hset] at hlk;by_cases hki:k=n
      ·subst hki;rw [hok'] at hk; cases hk;rw [hgi] at hge; cases hge;exact hlo.2 hcG htk
      ·rw [if_neg (by omega)] at hlk;have hfw:=hI.fin k p G e E hk hge htk hlk hcG
       cases hto:dc.tok o with
       | true=>exact absurd (htok k n p o (hgl hge) hnl hk hok' htk hto) hki
       | false=>exact dc.fin_still _ _ (hlo.1 hto) hfw
     ·cases hd':o.dst<;>simp [Act.put,hI.size]
     ·cases hd':o.dst<;>simp [Act.put,hI.defers]
     ·intro k hk;rw [hset,if_neg (by omega)];exact hI.pre k hk
     ·intro k hk;rw [hset,if_neg (by omega)];exact hI.post k hk
     ·intro k p d G e E hk hd' hge hlk hnk;obtain ⟨hnk1,hnk2⟩:=heaten d hnk;rw [hset] at hlk;by_cases hki:k=n
      ·subst hki;rw [hok'] at hk; cases hk;rw [hgi] at hge; cases hge;rw [hputsame d hd'];exact hs
      ·rw [if_neg (by omega)] at hlk;rw [hput d (hdst hk hd' hki)];exact hold k p d G e E hk hd' hge hki hlk hnk1 hnk2
     ·intro k p d G e E k' o' d' G' e' E' hk hd1 hge hlk hnk hcG hk' hd1' hge' hlk' hnk' hcG' hkk g hf hf';obtain ⟨hnk1,hnk2⟩:=heaten d hnk;obtain ⟨hnk1',hnk2'⟩:=heaten d' hnk';rw [hset] at hlk hlk';by_cases hki:k=n
      ·subst hki;have hki':k'≠k:=fun e=>hkk e.symm;rw [if_neg (by omega)] at hlk';rw [hok'] at hk; cases hk;rw [hgi] at hge; cases hge;rw [hputsame d hd1] at hf;rw [hput d' (hdst hk' hd1' hki')] at hf';exact hnew k' o' d' G' e' E' hk' hd1' hge' hki' hlk' hnk1' hnk2' hcG' hcG g hf' hf
      ·rw [if_neg (by omega)] at hlk;rw [hput d (hdst hk hd1 hki)] at hf;by_cases hki':k'=n
       ·subst hki';rw [hok'] at hk'; cases hk';rw [hgi] at hge'; cases hge';rw [hputsame d' hd1'] at hf';exact hnew k p d G e E hk hd1 hge hki hlk hnk1 hnk2 hcG hcG' g hf hf'
       ·rw [if_neg (by omega)] at hlk';rw [hput d' (hdst hk' hd1' hki')] at hf';exact hI.apart k p d G e E k' o' d' G' e' E' hk hd1 hge hlk hnk1 hcG hk' hd1' hge' hlk' hnk1' hcG' hkk g hf hf'
     ·intro k p d hkl hk hd' hlk;rw [hset] at hlk;by_cases hki:k=n
      ·subst hki; simp at hlk
      ·rw [if_neg (by omega)] at hlk;rw [hput d (hdst hk hd' hki)];exact hI.todo k p d hkl hk hd' hlk
     ·intro x hns;rw [hput x (hns n o (by omega) hok')];exact hI.others x hns
     ·intro k p hk hlk e he hbi;rw [hset] at hlk ⊢;by_cases hei:e.on=s+n
      ·simp [hei]
      ·rw [if_neg hei];by_cases hki:k=s+n
       ·subst hki;rw [hok'] at hk; cases hk;exact hdeps e he hbi
       ·rw [if_neg hki] at hlk;exact hI.closed k p hk hlk e he hbi
   unfold wpOpIn;simp only [List.getElem?_toArray,hok'];by_cases hc:aV Gi
   ·rw [if_pos (hw1 hc)];refine ⟨fun _ _=>trivial,?_⟩;rw [iH hn];rcases hop hc a w hI.below (fun ht=>hI.lock n o (by rw [hl]; omega) hok' ht hni) hfit with ⟨v,w',hrun,hb,hlo,hs,hf⟩|⟨f,vs,hrun,hgv⟩
    ·rcases hrun with hrun|⟨hdn,hrun⟩
     ·rw [hrun];exact hnext v w' hb ⟨hlo.1,fun _=>hlo.2⟩ ⟨fun _=>hs,fun h=>absurd hc h⟩ (fun _=>hf)
     ·rw [hrun];have hx:=hnext v w' hb ⟨hlo.1,fun _=>hlo.2⟩ ⟨fun _=>hs,fun h=>absurd hc h⟩ (fun _=>hf);rw [hdn] at hx;show wpAnyIn (FR r) 0 P .any ops.toArray Q fuel (listed.setIfInBounds (s+n) true) (a.put o.dst undef) w';rw [hdn];exact hx
    ·rw [hrun];refine ⟨fun h=>by simp [Fence.wide] at h,CallsIn.mono (jh hgv) ?_⟩;rintro e w' ⟨v,rfl,hb,hlo,hs,hf⟩;exact hnext v w' hb ⟨hlo.1,fun _=>hlo.2⟩ ⟨fun _=>hs,fun h=>absurd hc h⟩ (fun _=>hf)
   ·rw [if_neg (by rw [hw2 hc]; simp)];exact ⟨fun _ _=>trivial,hnext undef w (dc.step_refl _ _) ⟨fun _=>dc.still_refl _,fun h=>absurd h hc⟩ ⟨fun h=>absurd h hc,fun _=>rfl⟩ (fun h=>absurd h hc)⟩
def RK (P:Program) (r:Option Nat) (Q:Exit->Act->World->Prop) (ops:List Oper) (s:Nat) (a:Act) (w:World):Prop :=
 ∀ (listed:Array Bool) (fuel:Nat),listed.size=ops.length->(∀k,k<ops.length->listed.getD k false=decide (k<s))->ops.length-s<=fuel->wpAnyIn (FR r) 0 P .any ops.toArray Q fuel listed a w
theorem zP {o:Oper} {a:Act} {w:World} {K K':Act->World->Prop} {R:Act->World->Prop} (hh:o.wpIn (FR r) 0 P a w K (Exit.then R Q)) (h: ∀a w,K a w->K' a w):o.wpIn (FR r) 0 P a w K' Q:=by
 unfold Oper.wpIn at *;refine ⟨hh.1,?_⟩;have hh:=hh.2
 generalize (o.semAt (FR r).round a.eval).run P w=x at *
 cases x with
 | ok x w' =>
  cases x<;>simp only [Oper.uponIn] at hh ⊢ <;>
   first
    | exact h _ _ hh
    | exact ⟨hh.1,CallsIn.mono hh.2 (fun e w'' he=>by cases e<;>first|exact h _ _ he|exact he)⟩
    | exact ⟨hh.1,RowsIn.mono hh.2 (fun _ _ he=>h _ _ he)⟩
    | exact ⟨hh.1,RoundIn.mono hh.2 (fun e w'' he=>by cases e<;>first|exact h _ _ he|exact he)⟩
 | halt x w'=>cases x<;>simp only [Oper.uponIn] at hh ⊢ <;>exact hh
def RW (P:Program) (r:Option Nat) (Q:Exit->Act->World->Prop) (N:Nat) (ds:List Deferred) (ops:List Oper) (s:Nat) (E:Env) (w:World):Prop :=
 ∀ (a:Act),Fit N ds E a->RK P r Q ops s a w
theorem dE {id:Nat} {E:Env} {w:World} (hm:P.follows .mixedOrders=true) (h: ∀W,Below w.heap.size w W->RW P r Q N ds ops 0 E W):CW P r Q N ds (.region id ops.toArray true) E w:=by
 intro a ha;refine wpIn_region_any hm ?_;have e:ops.toArray.size=ops.length:=by simp
 rw [e];exact h {w with drawn:=w.drawn+1} ⟨rfl,rfl,rfl,ZC,fun _ _=>rfl⟩ a ha (Array.replicate ops.length false) _ (by simp) (fun k hk=>by simp [hk]) (Nat.sub_le _ _)
theorem IC {E:Env} {w W:World} {s:Nat} (m:Mode) (t:Nat) (hlex:mq ops=true) (hcut:rP ops s t=true) (hst:Nat.ble s t=true) (htl:Nat.ble t ops.length=true) (hb:Below w.heap.size w W)
  (h:DW P N ds m ops w (fun D=> ∀a w',Below w.heap.size w w'->(xh w W.drawn m).inv w'->FitD N ds D a w'->RK P r Q ops t a w') (dX ops s t) (lift E)):RW P r Q N ds ops s E W:=by
 have hst:=Nat.le_of_ble_eq_true hst;have htl:=Nat.le_of_ble_eq_true htl;intro a ha listed fuel hsz hls hfu;obtain ⟨ges,hl,hF,hstep⟩:=uL W.drawn h;have hl':ges.length=t-s:=by rw [hl]; unfold dX; simp; omega
 refine um (N:=N) (ds:=ds) (w0:=w) (a0:=a) (D0:=lift E) (ges:=ges) (xh w W.drawn m) hlex hcut hst htl hl' ?_ (fun i j o o' _ _ _ _ h _=>by cases m<;>cases h) ?_ ?_ fuel listed a W hsz ?_ ?_
 ·intro i o G e E hi hg;have hil:i<t-s:=by rw [<-hl']; exact (ZE hg).1
  exact hstep i o G e E (by rw [gD,if_pos hil]; exact hi) hg
 ·intro i c e he;rw [oV] at he
  cases hlk:look E i with
  | none=>rw [hlk] at he; cases he
  | some p =>
   rw [hlk] at he;simp only [Option.map_some,Option.some.injEq,Prod.mk.injEq] at he;obtain ⟨rfl,rfl⟩:=he;exact ⟨_,rfl,ha.slots i p.1 p.2 hlk⟩
 ·intro fuel listed a w' hsz hls hfu hb' hinv _ hfit;exact hF a w' (by cases m<;>exact hb') hinv hfit listed fuel hsz hls hfu
 ·refine Nat.le_trans ?_ hfu;have:(List.range ops.length).filter (fun k=> !listed.getD k false)=(List.range ops.length).filter (fun k=>decide (s<=k)):=by
   refine List.filter_congr fun k hk=> ?_;rw [hls k (by simpa using hk)];by_cases h1:k<s<;>simp [h1]<;>omega
  rw [this,show ops.length=s+(ops.length-s) by omega,List.range_add,List.filter_append];simp;rw [List.filter_eq_nil_iff.2 (by intro x hx; simp at hx; simp; omega)];refine Nat.le_trans (Nat.add_le_add_left (List.length_filter_le _ _) _) ?_;simp
 ·have hnl: ∀k,s<=k->listed.getD k false=false:=by
   intro k hk;rcases ZI k ops.length with h|h
   ·rw [hls k h]; simp; omega
   ·simp [Array.getElem?_eq_none (show listed.size<=k by omega)]
  refine ⟨by cases m<;>exact hb,fun k o _ _ h _=>(by cases m<;>cases h),by cases m<;>first|trivial|exact ZC,fun k o _ _ _ _ _ h=>(by cases m<;>cases h),ha.size,ha.defers,fun k hk=>by rw [hls k (by omega)]; simp [hk],fun k hk=>hnl k (by omega),?_,?_,fun _ _ _ _ _ _ _=>rfl,fun _ _=>rfl,?_⟩
  ·intro k o d G e E hk _ _ hlk;rw [hnl _ (by omega)] at hlk; cases hlk
  ·intro k o d G e E k' o' d' G' e' E' hk _ _ hlk;rw [hnl _ (by omega)] at hlk; cases hlk
  ·intro k o hk hlk e he hbi;have hks:k<s:=by
    rcases ZI k s with h|h
    ·exact h
    ·rw [hnl k h] at hlk; cases hlk
   have hon:=(dZ hlex hk hk).1 e he hbi;rw [hls e.on (by omega)];simp; omega
theorem C8 {w:World} {F F':DE->Prop} (hF: ∀D,F D->F' D) (m:Mode) (rest:List Oper): ∀(D:DE),DW P N ds m ops w F rest D->DW P N ds m ops w F' rest D:=by
 induction rest with
 | nil=>intro D h; cases m<;>exact hF D h
 | cons o rest ih =>
  intro D h
  cases m with
  | weak=>obtain ⟨G,e,h1,h2⟩:=h; exact ⟨G,e,h1,ih _ h2⟩
  | own=>obtain ⟨G,e,s,h1,h2⟩:=h; exact ⟨G,e,s,h1,ih _ h2⟩
  | cnt=>obtain ⟨G,e,h1,h2⟩:=h; exact ⟨G,e,h1,ih _ h2⟩
theorem dL {E:Env} {w W:World} {s:Nat} (m:Mode) (t:Nat) (hlex:mq ops=true) (hcut:rP ops s t=true) (hst:Nat.ble s t=true) (htl:Nat.ble t ops.length=true) (hb:Below w.heap.size w W)
  (h:DW P N ds m ops w (fun D=> ∀a w',Below w.heap.size w w'->FitD N ds D a w'->RK P r Q ops t a w') (dX ops s t) (lift E)):RW P r Q N ds ops s E W :=
 IC m t hlex hcut hst htl hb (C8 (fun _ hD a w' hb' _ hfit=>hD a w' hb' hfit) m _ _ h)
theorem bV {E:Env} {w:World} {s:Nat} {o:Oper} (hlex:mq ops=true) (hcut:rP ops s (s+1)=true) (ho:ops[s]?=some o)
  (h:TW P r (Exit.then (RK P r Q ops (s+1)) Q) N ds ops [o] E w):RW P r Q N ds ops s E w:=by
 have hsl:s<ops.length:=(ZE ho).1;intro a ha listed fuel hsz hls hfu;obtain ⟨fuel,rfl⟩: ∃f,fuel=f+1:=⟨fuel-1,by omega⟩;have hready: ∀i,i∈Region.ready .any ops.toArray listed->i=s:=by
  intro i hi;unfold Region.ready at hi;rw [List.mem_filter] at hi;obtain ⟨hi1,hi2⟩:=hi;have hil:i<ops.length:=by simpa using hi1
  have hok:ops[i]?=some ops[i]:=ZD hil;simp only [Bool.and_eq_true,List.getElem?_toArray,hok,Option.map_some,Option.getD_some] at hi2;obtain ⟨hi2,hi3⟩:=hi2;have hni:listed.getD i false=false:=by
   have hs:i<listed.size:=by omega
   simpa [hs] using hi2
  rw [hls i hil] at hni;have hsi:s<=i:=by simpa using hni
  rcases ZI s i with hlt|hge
  ·exfalso;rw [Array.all_eq_true'] at hi3;have hback: ∀k o,ops[k]?=some o-> ∀e∈o.after,Region.binds .any e=true->e.on<k:=fun k o hk e he hb=>(dZ hlex hk hk).1 e he hb;have hclosed: ∀k o,ops[k]?=some o->listed.getD k false=true-> ∀e∈o.after,Region.binds .any e=true->listed.getD e.on false=true:=by
    intro k o hk hlk e he hb;have hkl:=(ZE hk).1;rw [hls k hkl] at hlk;have:=hback k o hk e he hb;rw [hls e.on (by omega)];simp at hlk ⊢; omega
   have:=lY hclosed hback (uq hcut hlt hil (Nat.le_refl s) (by omega)) (fun o ho e he hb=>by
    rw [hok] at ho; cases ho;have:=hi3 e he;rw [hb] at this;simpa using this)
   rw [hls s hsl] at this;simp at this
  ·omega
 have hin:s∈Region.ready .any ops.toArray listed:=by
  unfold Region.ready;rw [List.mem_filter];refine ⟨by simpa using hsl,?_⟩;have hc':listed.getD s true=false:=by
   have h1:=hls s hsl;have:s<listed.size:=by omega
   simpa [this] using h1
  simp only [hc',List.getElem?_toArray,ho,Option.map_some,Option.getD_some,Bool.not_false,Bool.true_and];rw [Array.all_eq_true'];intro e he
  cases hbi:Region.binds .any e with
  | false=>simp
  | true =>
   have hon:=(dZ hlex ho ho).1 e he hbi;have:listed.getD e.on false=true:=by rw [hls _ (by omega)]; simpa using hon
   simp [this]
 refine ⟨fun hr=>(by rw [hr] at hin; cases hin),fun i hi=> ?_⟩;obtain rfl:=hready i hi;have h1:=h a ha;have hset: ∀k,k<ops.length->(listed.setIfInBounds i true).getD k false=decide (k<i+1):=by
  intro k hk;by_cases hki:k=i
  ·subst hki; simp [hsz,hsl]
  ·have:i≠k:=fun e=>hki e.symm;have h2:=hls k hk;simp only [Array.getD_eq_getD_getElem?] at h2 ⊢;rw [Array.getElem?_setIfInBounds_ne this,h2];have:(k<i)↔(k<i+1):=by omega
   simp [this]
 unfold wpOpIn;simp only [List.getElem?_toArray,ho];unfold wpListIn at h1
 split at h1
 ·rename_i hwant;rw [if_pos hwant];refine zP h1 fun a' w' hK=> ?_;exact hK _ _ (by simpa using hsz) hset (by omega)
 ·rename_i hwant;rw [if_neg hwant];exact ⟨fun _ _=>trivial,h1.2 _ _ (by simpa using hsz) hset (by omega)⟩
theorem ME {E:Env} {w:World} (h:KW N ds (Q .normal) E w):RW P r Q N ds ops ops.length E w:=by
 intro a ha listed fuel hsz hls _;have hr:Region.ready .any ops.toArray listed= []:=by
  unfold Region.ready;rw [List.filter_eq_nil_iff];intro k hk;have hk:k<ops.length:=by simpa using hk
  have h1:=hls k hk;have:k<listed.size:=by omega
  have h2:listed.getD k true=true:=by simpa [this,hk] using h1
  simp [h2]
 cases fuel with
 | zero=>exact ⟨hr,h a ha⟩
 | succ f=>exact ⟨fun _=>h a ha,fun i hi=>by rw [hr] at hi; cases hi⟩
theorem IW (m:Mode) {id:Nat} {E:Env} {w:World} (hm:P.follows .mixedOrders=true) (hlex:mq ops=true)
  (h:DW P N ds m ops w (fun D=> ∀a w',Below w.heap.size w w'->FitD N ds D a w'->Q .normal a w') ops (lift E)):CW P r Q N ds (.region id ops.toArray true) E w:=by
 refine dE hm fun W hb=>dL m ops.length hlex ?_ (Nat.ble_eq_true_of_le ZB) (Nat.ble_eq_true_of_le ZC) hb ?_
 ·unfold rP;have hlen:(ko ops).length=ops.length:=by unfold ko; rw [kJ]; simp
  rw [List.drop_eq_nil_of_le (by omega)];rfl
 ·have e:dX ops 0 ops.length=ops:=by unfold dX; simp
  rw [e];refine C8 (fun D hD a w' hb' hfit listed fuel hsz hls hfu=> ?_) m ops (lift E) h;have hr:Region.ready .any ops.toArray listed= []:=by
   unfold Region.ready;rw [List.filter_eq_nil_iff];intro k hk;have hk:k<ops.length:=by simpa using hk
   have h1:=hls k hk;have:k<listed.size:=by omega
   have h2:listed.getD k true=true:=by simpa [this,hk] using h1
   simp [h2]
  cases fuel with
  | zero=>exact ⟨hr,hD a w' hb' hfit⟩
  | succ f=>exact ⟨fun _=>hD a w' hb' hfit,fun i hi=>by rw [hr] at hi; cases hi⟩
theorem bg {id:Nat} {E:Env} {w:World} (hm:P.follows .mixedOrders=true) (hlex:mq ops=true)
  (h:DW P N ds .weak ops w (fun D=> ∀a w',Below w.heap.size w w'->FitD N ds D a w'->Q .normal a w') ops (lift E)):CW P r Q N ds (.region id ops.toArray true) E w:=IW .weak hm hlex h
end sound
end Go.PF
namespace Go.PF
open Go.RowKit
section
variable {P:Program} {r:Option Nat} {Q:Exit->Act->World->Prop} {N:Nat} {ds:List Deferred} {ops rest:List Oper} {E:Env} {D:DE} {w:World} {G:Option Bool} {Fin:DE->Prop} {md:Mode}
variable {d:Option Tmp} {ty:TypeId} {pos:String} {af:Array Edge} {gu:Option (Nat×Bool)}
variable {x y z:Operand} {cx cy cz:Option Bool} {ρ:Operand->Value}
theorem IQ {c:Code} (h:CW P none (Exit.noGoto Q) N ds c E w):CW P none Q N ds (.scope c) E w:=fun a ha=>wpIn_wide.2 (wp_scope_straight (wpIn_wide.1 (h a ha)))
theorem IV {l:Nat} (h:KW N ds (Q .normal) E w):CW P r Q N ds (.label l) E w:=fun a ha=>wpIn_label (h a ha)
theorem EE (h:KW N ds (Q .normal) E w):KW N ds (Exit.noGoto Q .normal) E w:=h
theorem EC {id:Nat} (h:KW N ds (Q (.exit id)) E w):KW N ds (Exit.noGoto Q (.exit id)) E w:=h
theorem ED (h:KW N ds (Q .ret) E w):KW N ds (Exit.noGoto Q .ret) E w:=h
theorem bT {o:Oper} (v:Value) (hg:gd ops E o.guard=some G) (hn: ¬aV G) (hd:be N o.dst=true) (next:TW P r Q N ds ops rest (ins E o.dst G v) w):TW P r Q N ds ops (o::rest) E w:=by
 intro a ha;obtain ⟨_,h2⟩:=jM ha hg;unfold wpListIn;rw [if_neg (by rw [h2 hn]; simp)];exact ⟨fun _ _=>trivial,next _ (ha.put hd (fun h=>absurd h hn) (fun _=>rfl))⟩
theorem cZ {o:Oper} (v:Value) (hg:iY ops D o.guard=some G) (hn: ¬aV G) (hd:be N o.dst=true) (hno:eD o.op=true) (next:DW P N ds md ops w Fin rest (dM D o.dst G (.ex v))):DW P N ds md ops w Fin (o::rest) D :=
 mi hg hd hno (fun hG=>absurd hG hn) next
theorem ed {s:Nat} (hs:s=ops.length) (h:KW N ds (Q .normal) E w):RW P r Q N ds ops s E w:=by subst hs; exact ME h
theorem dJ {s:Nat} (h:RW P r Q N ds ops s E w):KW N ds (Exit.then (RK P r Q ops s) Q .normal) E w:=h
theorem ek {s:Nat} (h:RW P r Q N ds ops s E w):KW N ds (RK P r Q ops s) E w:=h
theorem Mv {s:ByteArray} {k k':IntKind} {i j:Int} {t:TypeId} (ht:P.underlying t=some .string) (hx:ρ x= .string s) (hy:ρ y= .int k i) (hz:ρ z= .int k' j) (hb:0<=i/\i<=j/\j<=(s.size:Int)):(execOp ρ ⟨d,.slice t x (some y) (some z) none,ty,pos,af,gu⟩).run P w= .ok (.value (.string (s.extract i.toNat j.toNat))) w:=by simp only [execOp,Option.map_some,Option.map_none]; rw [hx,hy,hz]; simp [run_sliceAt_string w t _ _ _ _ ht,run_slice_string w t s k k' i j ht hb.1 hb.2.1 hb.2.2]
theorem BJ {s:ByteArray} {k k':IntKind} {i j:Int} {t:TypeId} [Und P t .string]:Val P ⟨d,.slice t x (some y) (some z) none,ty,pos,af,gu⟩ [x,y,z] [.string s,.int k i,.int k' j] (0<=i/\i<=j/\j<=(s.size:Int)) (.string (s.extract i.toNat j.toNat)) :=
 ⟨rfl,by simp [Op.operands,Call.operands],fun hb ρ w h=>by
  obtain ⟨hx,hy,hz⟩:=OJ h;have ht:P.underlying t=some .string:=Und.q;simp only [execOp,Option.map_some,Option.map_none]; rw [hx,hy,hz]; simp [run_sliceAt_string w t _ _ _ _ ht,run_slice_string w t s k k' i j ht hb.1 hb.2.1 hb.2.2]⟩
theorem NF {A:Option Addr} {l c sz:Nat} {k:IntKind} {i:Int} {t e:TypeId} (ht:P.underlying t=some (.slice e)) (hs:(P.info? e).map (·.size)=some sz) (hx:ρ x= .slice A l c) (hy:ρ y= .int k i) (hb:0<=i/\i<=(c:Int)):(execOp ρ ⟨d,.slice t x none (some y) none,ty,pos,af,gu⟩).run P w= .ok (.value (.slice A i.toNat c)) w:=by 
  simp only [execOp,Option.map_some,Option.map_none]; rw [hx,hy]
  simp [Instr.sliceAt,Instr.slice,run_underlying ht,Instr.sliceBounds,Instr.sliceBound,asIntOf,hb,run_sizeOf hs]
  intro _
  cases A with
  | none=>rfl
  | some a=>obtain ⟨b,o,f⟩:=a; cases f<;>simp [Addr.add]
theorem zD {A:Option Addr} {l c sz:Nat} {k:IntKind} {i:Int} {t e:TypeId} [Und P t (.slice e)] [Sz P e sz]:Val P ⟨d,.slice t x none (some y) none,ty,pos,af,gu⟩ [x,y] [.slice A l c,.int k i] (0<=i/\i<=(c:Int)) (.slice A i.toNat c) :=
 ⟨rfl,by simp [Op.operands,Call.operands],fun hb ρ w h=>by
  obtain ⟨hx,hy⟩:=jc h;have ht:P.underlying t=some (.slice e):=Und.q;have hs:(P.info? e).map (·.size)=some sz:=Sz.q;simp only [execOp,Option.map_some,Option.map_none]; rw [hx,hy];simp [Instr.sliceAt,Instr.slice,run_underlying ht,Instr.sliceBounds,Instr.sliceBound,asIntOf,hb,run_sizeOf hs];intro _
  cases A with
  | none=>rfl
  | some a=>obtain ⟨b,o,f⟩:=a; cases f<;>simp [Addr.add]⟩
theorem NE {A:Option Addr} {l c sz:Nat} {k:IntKind} {i:Int} {t e:TypeId} (ht:P.underlying t=some (.slice e)) (hs:(P.info? e).map (·.size)=some sz) (hx:ρ x= .slice A l c) (hy:ρ y= .int k i) (hb:0<=i/\i<=(l:Int)):(execOp ρ ⟨d,.slice t x (some y) none none,ty,pos,af,gu⟩).run P w= .ok (.value (.slice (if c=i.toNat then A else A.map (·.add (i.toNat*sz))) (l-i.toNat) (c-i.toNat))) w:=by 
  simp only [execOp,Option.map_some,Option.map_none]; rw [hx,hy]
  simp [Instr.sliceAt,Instr.slice,run_underlying ht,Instr.sliceBounds,Instr.sliceBound,asIntOf,hb,run_sizeOf hs]
theorem Iu {A:Option Addr} {l c sz:Nat} {k:IntKind} {i:Int} {t e:TypeId} [Und P t (.slice e)] [Sz P e sz]:Val P ⟨d,.slice t x (some y) none none,ty,pos,af,gu⟩ [x,y] [.slice A l c,.int k i] (0<=i/\i<=(l:Int)) (.slice (if c=i.toNat then A else A.map (·.add (i.toNat*sz))) (l-i.toNat) (c-i.toNat)) :=
 ⟨rfl,by simp [Op.operands,Call.operands],fun hb ρ w h=>by
  obtain ⟨hx,hy⟩:=jc h;have ht:P.underlying t=some (.slice e):=Und.q;have hs:(P.info? e).map (·.size)=some sz:=Sz.q;simp only [execOp,Option.map_some,Option.map_none]; rw [hx,hy];simp [Instr.sliceAt,Instr.slice,run_underlying ht,Instr.sliceBounds,Instr.sliceBound,asIntOf,hb,run_sizeOf hs]⟩
theorem J3 {ad:Addr} {l sz:Nat} {t e:TypeId} {k:IntKind} {i:Int} (ht:P.underlying t=some (.array l e)) (hs:(P.info? e).map (·.size)=some sz) (hx:ρ x= .pointer (some ad)) (hy:ρ y= .int k i) (hi:0<=i/\i<(l:Int)):(execOp ρ ⟨d,.indexAddr t x y,ty,pos,af,gu⟩).run P w= .ok (.value (.pointer (some (ad.add (i.toNat*sz))))) w:=by simp only [execOp]; rw [hx,hy]; simp [Instr.indexAt,run_underlying ht,asIntOf,Instr.sureAddr,hi,run_sizeOf hs]
theorem bH {ad:Addr} {l sz:Nat} {t e:TypeId} {k:IntKind} {i:Int} [Und P t (.array l e)] [Sz P e sz]:Val P ⟨d,.indexAddr t x y,ty,pos,af,gu⟩ [x,y] [.pointer (some ad),.int k i] (0<=i/\i<(l:Int)) (.pointer (some (ad.add (i.toNat*sz)))) :=
 ⟨rfl,by simp [Op.operands,Call.operands],fun hi ρ w h=>by
  obtain ⟨hx,hy⟩:=jc h;have ht:P.underlying t=some (.array l e):=Und.q;have hs:(P.info? e).map (·.size)=some sz:=Sz.q;simp only [execOp]; rw [hx,hy]; simp [Instr.indexAt,run_underlying ht,asIntOf,Instr.sureAddr,hi,run_sizeOf hs]⟩
theorem uD {s:ByteArray} {t t' e:TypeId} (hg:gu=none) (hd:be N d=true) (ht:P.underlying t=some .string) (ht':P.underlying t'=some (.slice e)) (he:P.underlying e=some (.int .u8)) (hx:ev E x=some (none,.string s))
  (next: ∀g c w',w'.heap.size=w.heap.size+1->g=w.heap.size->Below w.heap.size w w'->(∀i,i<s.size->w'.cell? ⟨g,i,none⟩=some (.int .u8 ((s.data.getD i 0).toNat:Int)))->TW P r Q N ds ops rest (ins E d none (.slice (some ⟨g,0,none⟩) s.size c)) w') :
  TW P r Q N ds ops (⟨d,.convert t t' x,ty,pos,af,gu⟩::rest) E w:=by
 refine iq (v:= .slice (some ⟨w.heap.size,0,none⟩) s.size (grownCap w s.size 0 e)) hg hd rfl (fun a ha=> ?_) (next w.heap.size _ (w.drew.alloc (.cells (bytesRow s (grownCap w s.size 0 e)) e ((bytesRow s (grownCap w s.size 0 e)).size,(bytesRow s (grownCap w s.size 0 e)).size+1))) ?_ rfl ?_ ?_)
 ·simp only [execOp]; rw [ha.eval hx trivial];simp [run_bytes_of_string w t t' e s ht ht' he]
 ·simp
 ·exact ((ZA).drew).alloc ZC _
 ·intro i hi;have h1:(w.drew.alloc (.cells (bytesRow s (grownCap w s.size 0 e)) e ((bytesRow s (grownCap w s.size 0 e)).size,(bytesRow s (grownCap w s.size 0 e)).size+1))).heap[w.heap.size]?=some (.cells (bytesRow s (grownCap w s.size 0 e)) e ((bytesRow s (grownCap w s.size 0 e)).size,(bytesRow s (grownCap w s.size 0 e)).size+1)):=heap_alloc_new w.drew _;have hi':i<s.data.size:=hi;unfold World.cell?;rw [h1];simp [bytesRow,hi,Array.getElem?_append,Array.getElem?_eq_getElem hi']
def rW (w0:World) (e:TypeId) (sz n:Nat) (xs:List Value):Ent:= .own (fun v w=>OwnS w e sz v n xs/\ ∀g,v.ownBlock=some g->w0.heap.size<=g) (fun v g=>v.ownBlock=some g)
theorem mO (w0:World) (e:TypeId) (sz n:Nat) (xs:List Value):(rW w0 e sz n xs).strong w0 :=
 ⟨fun _ _ _ _ hk h=>⟨h.1.kept hk,h.2⟩,fun _ _ h g hg=>⟨h.2 g hg,h.1.lt hg⟩⟩
theorem uI {o:Oper} (e:Ent) (eats:List Nat) (hg:iY ops D o.guard=some G) (hd:be N o.dst=true) (hn:eD o.op=true) (hst:e.strong w) (hso:uR ops o eats=true) (heo: ∀s,s∈eats-> ∃c φ S,eH D s=some (c,.own φ S))
  (hrun:aV G-> ∀a w',Below w.heap.size w w'->FitL N ds (o.looksAt ops.toArray) D a w'-> ∃v w'',(execOp a.eval o).run P w'= .ok (.value v) w''/\wy w w' w'' (IL D eats a)/\e.sat v w''/\ ∀g,e.foot v g->IL D eats a g∨w'.heap.size<=g)
  (next:DW P N ds .own ops w Fin rest (dM (jr D eats) o.dst G e)):DW P N ds .own ops w Fin (o::rest) D :=
 ⟨G,e,eats,⟨hg,hd,hn,hst,hso,heo,fun hG a w' hb ha=> .inl (hrun hG a w' hb ha)⟩,next⟩
theorem NM {o:Oper} (e:Ent) (eats:List Nat) (hg:iY ops D o.guard=some G) (hd:be N o.dst=true) (hn:eD o.op=true) (hst:e.strong w) (hso:uR ops o eats=true) (heo: ∀s,s∈eats-> ∃c φ S,eH D s=some (c,.own φ S))
  (hrun:aV G-> ∀a w',Below w.heap.size w w'->FitL N ds (o.looksAt ops.toArray) D a w'-> ∃f vs,(execOp a.eval o).run P w'= .ok (.enter f vs) w'/\Gives P f vs w' fun v w''=>wy w w' w'' (IL D eats a)/\e.sat v w''/\ ∀g,e.foot v g->IL D eats a g∨w'.heap.size<=g)
  (next:DW P N ds .own ops w Fin rest (dM (jr D eats) o.dst G e)):DW P N ds .own ops w Fin (o::rest) D :=
 ⟨G,e,eats,⟨hg,hd,hn,hst,hso,heo,fun hG a w' hb ha=> .inr (hrun hG a w' hb ha)⟩,next⟩
theorem qW {w0 w w':World} {E:Nat->Prop} (hb:Below w0.heap.size w0 w) (h:Below w.heap.size w w'):wy w0 w w' E:=⟨h.mono hb.size,fun b _ hb _=>h.block b hb⟩
theorem uV {t:TypeId} (e:TypeId) {sz len:Nat} {parts:Array (Nat×Operand)} (xs:List Operand) {vs cs:List Value} (hg:iY ops D gu=some G) (hd:be N d=true) (hp:parts.toList=number xs) (he:dA P t e sz=true)
  (hx:DArgs (Oper.looksAt ops.toArray ⟨d,.buildSlice t len parts,ty,pos,af,gu⟩) N ds D G xs vs) (hl:len=vs.length) (hsz:vs.all (fun v=>Nat.beq v.cells.size sz)=true) (hsm:Nat.ble (vs.length*sz) 16777216=true) (hpos:Nat.blt 0 vs.length=true) (hc:(vs.map fun v=>v.cells.toList).flatten=cs)
  (next:DW P N ds .own ops w Fin rest (dM D d G (rW w e sz len cs))):DW P N ds .own ops w Fin (⟨d,.buildSlice t len parts,ty,pos,af,gu⟩::rest) D:=by
 subst hl;have hv': ∀v∈vs,v.cells.size=sz:=fun v hm=>Nat.eq_of_beq_eq_true (List.all_eq_true.1 hsz v hm);have hcl:cs.length=vs.length*sz:=by
  have key: ∀us:List Value,(∀v∈us,v.cells.size=sz)->((us.map fun v=>v.cells.toList).flatten).length=us.length*sz:=by
   intro us
   induction us with
   | nil=>simp
   | cons v us ih =>
    intro h;have h1:=h v (by simp);have h2:=ih (fun u hu=>h u (by simp [hu]));simp only [List.map_cons,List.flatten_cons,List.length_append,List.length_cons,h2,Array.length_toList,h1];rw [Nat.succ_mul]; omega
  rw [<-hc]; exact key vs hv'
 have hfl:vs.flatMap (fun v=>v.cells.toList)=cs:=by rw [<-hc]; simp [List.flatMap]
 refine uI (rW w e sz vs.length cs) [] hg hd rfl (mO _ _ _ _ _) rfl (fun s hs=>by simp at hs) (fun hG a w' hb ha=> ?_) (by rw [iC]; exact next);refine ⟨_,_,iO hp rfl he (hx (fun t ht=>dP ?_) a w' ha hG) hv' (Nat.le_of_ble_eq_true hsm) (blt_iff.1 hpos),qW hb ((ZA).alloc ZC _),⟨?_,?_⟩,?_⟩
 ·simp only [Op.operands];rw [hp];simp only [number,List.map_map];rw [List.mem_map];obtain ⟨j,hj,he⟩:=List.getElem_of_mem ht;exact ⟨(Operand.tmp t,j),by rw [List.mem_zipIdx_iff_getElem?]; simp [he.symm],rfl⟩
 ·rw [hfl];refine bu (Blk.new w' e cs) hcl ?_;have h1:=Nat.le_of_ble_eq_true hsm;obtain ⟨_,_,_,_,_,_,_,h0⟩:=kP he;have:vs.length<=vs.length*sz:=Nat.le_mul_of_pos_right _ h0;omega
 ·intro g hg;simp [Value.ownBlock] at hg;subst hg;exact hb.size
 ·intro g hg;simp [Ent.foot,rW,Value.ownBlock] at hg;exact .inr (by omega)
theorem IF {t:TypeId} (e:TypeId) {sz:Nat} (hg:iY ops D gu=some G) (hd:be N d=true) (he:dA P t e sz=true)
  (next:DW P N ds .own ops w Fin rest (dM D d G (rW w e sz 0 []))):DW P N ds .own ops w Fin (⟨d,.buildSlice t 0 #[],ty,pos,af,gu⟩::rest) D:=by
 obtain ⟨i,zv,hu,hi,hz,rfl,hzs,hs⟩:=kP he;refine uI (rW w e i.size 0 []) [] hg hd rfl (mO _ _ _ _ _) rfl (fun s hs=>by simp at hs) (fun hG a w' hb ha=> ?_) (by rw [iC]; exact next);refine ⟨.slice (some ⟨w'.heap.size,0,none⟩) 0 0,w'.alloc (.cells [].toArray e),?_,qW hb ((ZA).alloc ZC _),⟨?_,?_⟩,?_⟩
 ·simp [execOp,Instr.buildSlice,run_underlying hu,sizeOf,typeInfo,hi,Instr.fill,newRow,Array.range_zero']
 ·exact bu (Blk.new w' e []) (by simp) (by omega)
 ·intro g hg;simp [Value.ownBlock] at hg;subst hg;exact hb.size
 ·intro g hg;simp [Ent.foot,rW,Value.ownBlock] at hg;exact .inr (by omega)
theorem BR {t e:TypeId} {sz bytes n m:Nat} {st:Tmp} {xs:List Value} (news:List Value) (hg:iY ops D gu=some G) (hd:be N d=true) (ho:eZ P t e sz bytes=true) (hs:eH D st=some (none,rW w e sz n xs)) (hso:uR ops ⟨d,.call ⟨.builtin .append,#[.tmp st,x],#[t,t]⟩,ty,pos,af,gu⟩ [st]=true)
  (hx:aV G-> ∀a w',Below w.heap.size w w'->FitL N ds (Oper.looksAt ops.toArray ⟨d,.call ⟨.builtin .append,#[.tmp st,x],#[t,t]⟩,ty,pos,af,gu⟩) D a w'-> ∃A c,a.eval x= .slice A m c/\ ∀j u,news[j]?=some u-> ∃ad,A=some ad/\w'.cell? (ad.add j)=some u)
  (hl:news.length=m*sz) (h1: ∀u∈news,u.oneCell'=true) (hb:(n+m)*bytes<=140737488355328) (hb0:1<=bytes)
  (next:DW P N ds .own ops w Fin rest (dM (jr D [st]) d G (rW w e sz (n+m) (xs++news)))):DW P N ds .own ops w Fin (⟨d,.call ⟨.builtin .append,#[.tmp st,x],#[t,t]⟩,ty,pos,af,gu⟩::rest) D:=by
 refine uI (rW w e sz (n+m) (xs++news)) [st] hg hd rfl (mO _ _ _ _ _) hso (fun s hs'=>⟨none,_,_,by simp at hs'; subst hs'; exact hs⟩) (fun hG a w' hb' ha=> ?_) next
 have hst:OwnS w' e sz (a.eval (.tmp st)) n xs/\ ∀g,(a.eval (.tmp st)).ownBlock=some g->w.heap.size<=g :=
  (ha.slots st (dP (o:=⟨d,.call ⟨.builtin .append,#[.tmp st,x],#[t,t]⟩,ty,pos,af,gu⟩) (by simp [Op.operands,Call.operands])) none _ hs).1 trivial
 obtain ⟨A,c,hev,hcell⟩:=hx hG a w' hb' ha;obtain ⟨v',w'',a1,a2,a3,a5⟩:=o9 (ty:=ty) (c:=c) ho hst.1 hl hcell h1 hb hb0;refine ⟨v',w'',?_,⟨?_,?_⟩,⟨a2,?_⟩,?_⟩
 ·simp only [execOp,resolve,invoke,builtin,Sem.run_bind,Sem.run_pure,Result.andThen_ok,List.map_toArray,List.map_cons,List.map_nil,hev,a1]
 ·exact (ZA).grown a3 hb'.size hst.2
 ·intro b hb1 hb2 hE;refine a3.block b hb2 (fun h=>hE ⟨st,none,_,by simp [oQ,eu],hs,trivial,?_⟩);exact h.symm
 ·intro g hg;rcases a5 with h|h
  ·exact hst.2 g (by rw [<-h]; exact hg)
  ·rw [hg] at h; simp at h; have:=hb'.size; omega
 ·intro g hg;rcases a5 with h|h
  ·exact .inl ⟨st,none,_,by simp [oQ,eu],hs,trivial,by show (a.eval (.tmp st)).ownBlock=some g; rw [<-h]; exact hg⟩
  ·have hg:v'.ownBlock=some g:=hg;rw [hg] at h; simp at h; exact .inr (by omega)
theorem EB {t e:TypeId} {sz bytes n m c:Nat} {st:Tmp} {xs:List Value} {A:Option Addr} (news:List Value) (hg:iY ops D gu=some G) (hd:be N d=true) (ho:eZ P t e sz bytes=true) (hs:eH D st=some (none,rW w e sz n xs)) (hso:uR ops ⟨d,.call ⟨.builtin .append,#[.tmp st,x],#[t,t]⟩,ty,pos,af,gu⟩ [st]=true)
  (hx:dev D x=some (cx,.ex (.slice A m c))) (ix:aV G->aV cx) (hn: ∀j u,news[j]?=some u-> ∃ad,A=some ad/\w.cell? (ad.add j)=some u)
  (hl:news.length=m*sz) (h1: ∀u∈news,u.oneCell'=true) (hb:(n+m)*bytes<=140737488355328) (hb0:1<=bytes)
  (next:DW P N ds .own ops w Fin rest (dM (jr D [st]) d G (rW w e sz (n+m) (xs++news)))):DW P N ds .own ops w Fin (⟨d,.call ⟨.builtin .append,#[.tmp st,x],#[t,t]⟩,ty,pos,af,gu⟩::rest) D :=
 BR news hg hd ho hs hso (fun hG a w' hb' ha=>⟨A,c,ha.eval (o:=⟨d,.call ⟨.builtin .append,#[.tmp st,x],#[t,t]⟩,ty,pos,af,gu⟩) hx (by simp [Op.operands,Call.operands]) (ix hG),fun j u hj=>by
  obtain ⟨ad,h1,h2⟩:=hn j u hj;exact ⟨ad,h1,(hb'.cell (block_lt_of_cell h2)).trans h2⟩⟩) hl h1 hb hb0 next
theorem MN {φ:Value->World->Prop} {S:Value->Nat->Prop} {st:Tmp} (hg:iY ops D gu=some G) (hd:be N d=true) (hs:eH D st=some (cx,.own φ S)) (ix:aV G->aV cx) (hst:(Ent.own φ S).strong w) (hso:uR ops ⟨d,.assign (.tmp st),ty,pos,af,gu⟩ [st]=true)
  (next:DW P N ds .own ops w Fin rest (dM (jr D [st]) d G (.own φ S))):DW P N ds .own ops w Fin (⟨d,.assign (.tmp st),ty,pos,af,gu⟩::rest) D :=
 uI (.own φ S) [st] hg hd rfl hst hso (fun s hs'=>⟨cx,φ,S,by simp at hs'; subst hs'; exact hs⟩) (fun hG a w' hb' ha =>
  have h:=(ha.slots st (dP (o:=⟨d,.assign (.tmp st),ty,pos,af,gu⟩) (by simp [Op.operands])) cx _ hs).1 (ix hG)
  ⟨a.tmps.getD st undef,w',rfl,⟨ZA,fun _ _ _ _=>rfl⟩,h,fun g hg=> .inl ⟨st,cx,_,by simp [oQ,eu],hs,ix hG,hg⟩⟩) next
theorem Oa {φ:Value->World->Prop} {S:Value->Nat->Prop} {st:Tmp} (hg:iY ops D gu=some G) (hd:be N d=true) (hs:eH D st=some (cx,.own φ S)) (ix:aV G->aV cx) (hst:(Ent.own φ S).strong w) (hso:uR ops ⟨d,.move (.tmp st),ty,pos,af,gu⟩ [st]=true)
  (next:DW P N ds .own ops w Fin rest (dM (jr D [st]) d G (.own φ S))):DW P N ds .own ops w Fin (⟨d,.move (.tmp st),ty,pos,af,gu⟩::rest) D :=
 uI (.own φ S) [st] hg hd rfl hst hso (fun s hs'=>⟨cx,φ,S,by simp at hs'; subst hs'; exact hs⟩) (fun hG a w' hb' ha =>
  have h:=(ha.slots st (dP (o:=⟨d,.move (.tmp st),ty,pos,af,gu⟩) (by simp [Op.operands])) cx _ hs).1 (ix hG)
  ⟨a.tmps.getD st undef,w',rfl,⟨ZA,fun _ _ _ _=>rfl⟩,h,fun g hg=> .inl ⟨st,cx,_,by simp [oQ,eu],hs,ix hG,hg⟩⟩) next
end
end Go.PF
namespace Go.PF
open Go.RowKit
structure Ty.Now {α:Type} (T:Ty α):Prop where
 pos:0<T.n
 now: ∀F w cs x,T.rep F w cs x->T.rep (fun k=>k<w.heap.size) w cs x
theorem dV:Ty.Now bC:=⟨by decide,fun _ _ _ _ h=>h⟩
theorem mG:Ty.Now strT:=⟨by decide,fun _ _ _ _ h=>h⟩
theorem Es:Ty.Now boolT:=⟨by decide,fun _ _ _ _ h=>h⟩
theorem SL.now {α:Type} {T:Ty α} (hT:T.Now) {F:Nat->Prop} {w:World} {v:Value} {l:List α} (h:SL T F w v l):SL T (fun k=>k<w.heap.size) w v l:=by
 obtain ⟨A,cap,rfl,h1,h2,h3⟩:=h;refine ⟨A,cap,rfl,h1,h2,fun i x hx=> ?_⟩;obtain ⟨ad,cs,ha,hF,hc,hr⟩:=h3 i x hx;refine ⟨ad,cs,ha,?_,hc,hT.now _ _ _ _ hr⟩;have hl:=T.len _ _ _ _ hr;have h0:0<cs.length:=by rw [hl]; exact hT.pos
 have:=block_lt_of_cell (hc 0 cs[0] (ZD h0))
 rwa [add_block,add_block] at this
theorem lU {α:Type} {T:Ty α} (hT:T.Now):Ty.Now (sliceT T):=⟨by show 0<1; decide,fun F w cs x ⟨v,h1,h2⟩=>⟨v,h1,SL.now hT h2⟩⟩
theorem SL.step {α:Type} {T:Ty α} (hT:T.Now) {F:Nat->Prop} {w w':World} {v:Value} {l:List α} (h:SL T F w v l) (hb:Below w.heap.size w w'):SL T (fun k=>k<w'.heap.size) w' v l:=(h.below hb).now hT
theorem SL.form {α:Type} {T:Ty α} {F:Nat->Prop} {w:World} {v:Value} {l:List α} (h:SL T F w v l): ∃A cap,v= .slice A l.length cap/\l.length<=cap:=by
 obtain ⟨A,cap,rfl,h1,_⟩:=h;exact ⟨A,cap,rfl,h1⟩
theorem SL.at {α:Type} {T:Ty α} {F:Nat->Prop} {w:World} {A:Option Addr} {n cap:Nat} {l:List α} (h:SL T F w (.slice A n cap) l) {i:Nat} {x:α} (hx:l[i]?=some x) :
  ∃ ad cs,A=some ad/\F ad.block/\T.rep F w cs x/\ ∀j u,cs[j]?=some u->w.cell? ((ad.add (i*T.n)).add j)=some u:=by
 obtain ⟨A',cap',hv,_,_,h3⟩:=h;simp only [Value.slice.injEq] at hv;obtain ⟨rfl,_,rfl⟩:=hv;obtain ⟨ad,cs,ha,hF,hc,hr⟩:=h3 i x hx;exact ⟨ad,cs,ha,hF,hr,hc⟩
theorem SL.addr {α:Type} {T:Ty α} {F:Nat->Prop} {w:World} {A:Option Addr} {n cap:Nat} {l:List α} (h:SL T F w (.slice A n cap) l) (hl:0<l.length): ∃ad,A=some ad:=by
 obtain ⟨ad,_,h1,_⟩:=h.at (ZD hl);exact ⟨ad,h1⟩
theorem SL.getI {F:Nat->Prop} {w:World} {ad:Addr} {n cap:Nat} {l:List Int} (h:SL bC F w (.slice (some ad) n cap) l) {i:Nat} {x:Int} (hx:l[i]?=some x):w.cell? (ad.add ((i:Int).toNat*1))=some (.int .i64 x):=by
 obtain ⟨ad',h1,h2,_⟩:=h.int hx;cases h1;exact h2
theorem SL.rngI {F:Nat->Prop} {w:World} {v:Value} {l:List Int} (h:SL bC F w v l) {i:Nat} {x:Int} (hx:l[i]?=some x):eB x:=by
 obtain ⟨A,cap,rfl,_⟩:=h.form;obtain ⟨_,_,_,h3⟩:=h.int hx;exact h3
theorem SL.row {α:Type} {T:Ty α} {F:Nat->Prop} {w:World} {ad:Addr} {n cap:Nat} {l:List (List α)} (h:SL (sliceT T) F w (.slice (some ad) n cap) l) {i:Nat} {r:List α} (hr:l[i]?=some r) :
  ∃ v,w.cell? (ad.add ((i:Int).toNat*1))=some v/\SL T F w v r:=by
 obtain ⟨ad',cs,h1,_,⟨v,rfl,hv⟩,hc⟩:=h.at hr;cases h1;refine ⟨v,?_,hv⟩;have:=hc 0 v rfl;rw [Addr.add_add,Nat.add_zero] at this;exact this
end Go.PF
namespace Go.PF
open Go.RowKit
def nk (m n:Nat):Nat:=(BitVec.ofNat 32 m &&& ~~~ (BitVec.ofNat 32 n)).toNat
theorem zA {m n:Nat} (i:Nat):(nk m n).testBit i=(decide (i<32)&&m.testBit i&& !(n.testBit i)):=by
 unfold nk;rw [<-BitVec.getLsbD,BitVec.getLsbD_and,BitVec.getLsbD_not,BitVec.getLsbD_ofNat,BitVec.getLsbD_ofNat];by_cases h:i<32<;>simp [h]
theorem CO (m n:Nat):nk m n<2 ^ 32:=(BitVec.ofNat 32 m &&& ~~~ (BitVec.ofNat 32 n)).isLt
theorem Eu {m n:Nat} (hm:m<2 ^ 32):nk m n=0↔ ∀i,m.testBit i=true->n.testBit i=true:=by
 constructor
 ·intro h i hi;have h1:=zA (m:=m) (n:=n) i;rw [h,Nat.zero_testBit,hi] at h1;have h2:i<32:=by
   rcases ZI i 32 with h|h
   ·exact h
   ·rw [Nat.testBit_lt_two_pow (Nat.lt_of_lt_of_le hm (Nat.pow_le_pow_right (by decide) h))] at hi; cases hi
  simpa [h2] using h1.symm
 ·intro h;apply Nat.eq_of_testBit_eq;intro i;rw [zA,Nat.zero_testBit]
  cases hi:m.testBit i with
  | false=>simp
  | true=>simp [h i hi]
theorem wrap32 {z:Nat} (h:z<2 ^ 32):IntKind.u32.wrap (z:Int)=z:=by
 rw [IntKind.wrap_u32]; omega
theorem ofInt32 (m:Nat):BitVec.ofInt IntKind.u32.bits (m:Int)=BitVec.ofNat 32 m:=BitVec.ofInt_ofNat ..
theorem uZ {m n:Nat} (hm:m<2 ^ 32) (hn:n<2 ^ 32):Op.intBits .and .u32 (m:Int) (n:Int)=pure (.int .u32 ((m &&& n:Nat):Int)):=by
 have h:(BitVec.ofNat 32 m &&& BitVec.ofNat 32 n).toNat=m &&& n:=by
  rw [BitVec.toNat_and,BitVec.toNat_ofNat,BitVec.toNat_ofNat,Nat.mod_eq_of_lt hm,Nat.mod_eq_of_lt hn]
 unfold Op.intBits;simp only [ofInt32];show (pure (Value.int .u32 (IntKind.u32.wrap (((BitVec.ofNat 32 m &&& BitVec.ofNat 32 n).toNat:Nat):Int))):Sem Value)=_;rw [h,wrap32 (Nat.lt_of_le_of_lt Nat.and_le_left hm)]
theorem xM {m n:Nat} (hm:m<2 ^ 32) (hn:n<2 ^ 32):Op.intBits .or .u32 (m:Int) (n:Int)=pure (.int .u32 ((m ||| n:Nat):Int)):=by
 have h:(BitVec.ofNat 32 m ||| BitVec.ofNat 32 n).toNat=m ||| n:=by
  rw [BitVec.toNat_or,BitVec.toNat_ofNat,BitVec.toNat_ofNat,Nat.mod_eq_of_lt hm,Nat.mod_eq_of_lt hn]
 unfold Op.intBits;simp only [ofInt32];show (pure (Value.int .u32 (IntKind.u32.wrap (((BitVec.ofNat 32 m ||| BitVec.ofNat 32 n).toNat:Nat):Int))):Sem Value)=_;rw [h,wrap32 (Nat.or_lt_two_pow hm hn)]
theorem sZ {m n:Nat}:Op.intBits .andNot .u32 (m:Int) (n:Int)=pure (.int .u32 ((nk m n:Nat):Int)):=by
 unfold Op.intBits;simp only [ofInt32];show (pure (Value.int .u32 (IntKind.u32.wrap (((BitVec.ofNat 32 m &&& ~~~ (BitVec.ofNat 32 n)).toNat:Nat):Int))):Sem Value)=_;have:=wrap32 (CO m n);unfold nk at this ⊢;rw [this]
section
variable {P:Program} {r:Option Nat} {Q:Exit->Act->World->Prop} {N:Nat} {ds:List Deferred} {ops rest:List Oper} {E:Env} {D:DE} {w:World} {G:Option Bool} {Fin:DE->Prop} {md:Mode}
variable {d:Option Tmp} {ty:TypeId} {pos:String} {af:Array Edge} {gu:Option (Nat×Bool)}
variable {x y z:Operand} {cx cy cz:Option Bool} {ρ:Operand->Value}
def pJ (P:Program) (t:TypeId):Bool:=match P.underlying t with
 | none|some (.interface _)=>false
 | _=>true
theorem O0 {k:IntKind} {m n:Int} {ts:Array TypeId}  (hx:ρ x= .int k m) (hy:ρ y= .int k n):(execOp ρ ⟨d,.call ⟨.builtin .max,#[x,y],ts⟩,ty,pos,af,gu⟩).run P w= .ok (.value (.int k (max m n))) w:=by 
  have e:(if n>m then n else m)=max m n:=by omega
  simp [execOp,resolve,invoke,builtin,hx,hy,run_max_int2,e]
theorem nA {k:IntKind} {m n:Int} {ts:Array TypeId}:Val P ⟨d,.call ⟨.builtin .max,#[x,y],ts⟩,ty,pos,af,gu⟩ [x,y] [.int k m,.int k n] (True) (.int k (max m n)) :=
 ⟨rfl,by simp [Op.operands,Call.operands],fun _ ρ w h=>by
  obtain ⟨hx,hy⟩:=jc h;have e:(if n>m then n else m)=max m n:=by omega
  simp [execOp,resolve,invoke,builtin,hx,hy,run_max_int2,e]⟩
theorem OZ {k:IntKind} {m n:Int} {ts:Array TypeId}  (hx:ρ x= .int k m) (hy:ρ y= .int k n):(execOp ρ ⟨d,.call ⟨.builtin .min,#[x,y],ts⟩,ty,pos,af,gu⟩).run P w= .ok (.value (.int k (min m n))) w:=by 
  have e:(if n<m then n else m)=min m n:=by omega
  simp [execOp,resolve,invoke,builtin,hx,hy,run_min_int2,e]
theorem kD {k:IntKind} {m n:Int} {ts:Array TypeId}:Val P ⟨d,.call ⟨.builtin .min,#[x,y],ts⟩,ty,pos,af,gu⟩ [x,y] [.int k m,.int k n] (True) (.int k (min m n)) :=
 ⟨rfl,by simp [Op.operands,Call.operands],fun _ ρ w h=>by
  obtain ⟨hx,hy⟩:=jc h;have e:(if n<m then n else m)=min m n:=by omega
  simp [execOp,resolve,invoke,builtin,hx,hy,run_min_int2,e]⟩
theorem N8 {m n:Nat} {t t':TypeId}  (hx:ρ x= .int .u32 (m:Int)) (hy:ρ y= .int .u32 (n:Int)) (hb:m<2 ^ 32/\n<2 ^ 32):(execOp ρ ⟨d,.binOp .and t x y t',ty,pos,af,gu⟩).run P w= .ok (.value (.int .u32 ((m &&& n:Nat):Int))) w:=by simp only [execOp]; rw [hx,hy,eqGuard_and,binOp_and,uZ hb.1 hb.2]; rfl
theorem J7 {m n:Nat} {t t':TypeId}:Val P ⟨d,.binOp .and t x y t',ty,pos,af,gu⟩ [x,y] [.int .u32 (m:Int),.int .u32 (n:Int)] (m<2 ^ 32/\n<2 ^ 32) (.int .u32 ((m &&& n:Nat):Int)) :=
 ⟨rfl,by simp [Op.operands,Call.operands],fun hb ρ w h=>by
  obtain ⟨hx,hy⟩:=jc h;simp only [execOp]; rw [hx,hy,eqGuard_and,binOp_and,uZ hb.1 hb.2]; rfl⟩
theorem OX {m n:Nat} {t t':TypeId}  (hx:ρ x= .int .u32 (m:Int)) (hy:ρ y= .int .u32 (n:Int)) (hb:m<2 ^ 32/\n<2 ^ 32):(execOp ρ ⟨d,.binOp .or t x y t',ty,pos,af,gu⟩).run P w= .ok (.value (.int .u32 ((m ||| n:Nat):Int))) w:=by simp only [execOp]; rw [hx,hy,eqGuard_or,binOp_or,xM hb.1 hb.2]; rfl
theorem BK {m n:Nat} {t t':TypeId}:Val P ⟨d,.binOp .or t x y t',ty,pos,af,gu⟩ [x,y] [.int .u32 (m:Int),.int .u32 (n:Int)] (m<2 ^ 32/\n<2 ^ 32) (.int .u32 ((m ||| n:Nat):Int)) :=
 ⟨rfl,by simp [Op.operands,Call.operands],fun hb ρ w h=>by
  obtain ⟨hx,hy⟩:=jc h;simp only [execOp]; rw [hx,hy,eqGuard_or,binOp_or,xM hb.1 hb.2]; rfl⟩
theorem Mx {m n:Nat} {t t':TypeId}  (hx:ρ x= .int .u32 (m:Int)) (hy:ρ y= .int .u32 (n:Int)):(execOp ρ ⟨d,.binOp .andNot t x y t',ty,pos,af,gu⟩).run P w= .ok (.value (.int .u32 ((nk m n:Nat):Int))) w:=by simp only [execOp]; rw [hx,hy,eqGuard_andNot,binOp_andNot,sZ]; rfl
theorem uA {m n:Nat} {t t':TypeId}:Val P ⟨d,.binOp .andNot t x y t',ty,pos,af,gu⟩ [x,y] [.int .u32 (m:Int),.int .u32 (n:Int)] (True) (.int .u32 ((nk m n:Nat):Int)) :=
 ⟨rfl,by simp [Op.operands,Call.operands],fun _ ρ w h=>by
  obtain ⟨hx,hy⟩:=jc h;simp only [execOp]; rw [hx,hy,eqGuard_andNot,binOp_andNot,sZ]; rfl⟩
theorem N5 {k:IntKind} {n:Nat} {t t':TypeId}  (hx:ρ x= .int .u32 1) (hy:ρ y= .int k (n:Int)) (hb:n<32):(execOp ρ ⟨d,.binOp .shl t x y t',ty,pos,af,gu⟩).run P w= .ok (.value (.int .u32 ((1 <<< n:Nat):Int))) w:=by 
  have h1: ¬((n:Int)<0):=by omega
  have h2:min n IntKind.u32.bits=n:=Nat.min_eq_left (by show n<=32; omega)
  have h3:(1:Int)*(2:Int) ^ n=((1 <<< n:Nat):Int):=by rw [Nat.one_shiftLeft,Int.one_mul]; push_cast; rfl
  have h4:(1 <<< n:Nat)<2 ^ 32:=by rw [Nat.one_shiftLeft]; exact Nat.pow_lt_pow_right (by decide) hb
  simp only [execOp]; rw [hx,hy,eqGuard_shl,binOp_shl]
  simp only [Op.shift,if_neg h1,Int.toNat_natCast,h2,h3,wrap32 h4]; rfl
theorem qd {k:IntKind} {n:Nat} {t t':TypeId}:Val P ⟨d,.binOp .shl t x y t',ty,pos,af,gu⟩ [x,y] [.int .u32 1,.int k (n:Int)] (n<32) (.int .u32 ((1 <<< n:Nat):Int)) :=
 ⟨rfl,by simp [Op.operands,Call.operands],fun hb ρ w h=>by
  obtain ⟨hx,hy⟩:=jc h;have h1: ¬((n:Int)<0):=by omega
  have h2:min n IntKind.u32.bits=n:=Nat.min_eq_left (by show n<=32; omega);have h3:(1:Int)*(2:Int) ^ n=((1 <<< n:Nat):Int):=by rw [Nat.one_shiftLeft,Int.one_mul]; push_cast; rfl
  have h4:(1 <<< n:Nat)<2 ^ 32:=by rw [Nat.one_shiftLeft]; exact Nat.pow_lt_pow_right (by decide) hb
  simp only [execOp]; rw [hx,hy,eqGuard_shl,binOp_shl];simp only [Op.shift,if_neg h1,Int.toNat_natCast,h2,h3,wrap32 h4]; rfl⟩
theorem NZ {k:IntKind} {n:Nat} {t t':TypeId}  (hx:ρ x= .int .i64 1) (hy:ρ y= .int k (n:Int)) (hb:n<62):(execOp ρ ⟨d,.binOp .shl t x y t',ty,pos,af,gu⟩).run P w= .ok (.value (.int .i64 ((2 ^ n:Nat):Int))) w:=by 
  have h1: ¬((n:Int)<0):=by omega
  have h2:min n IntKind.i64.bits=n:=Nat.min_eq_left (by show n<=64; omega)
  have h3:(1:Int)*(2:Int) ^ n=((2 ^ n:Nat):Int):=by rw [Int.one_mul]; push_cast; rfl
  have h4:(2 ^ n:Nat)<=2 ^ 61:=Nat.pow_le_pow_right (by decide) (by omega)
  have h5:IntKind.i64.wrap ((2 ^ n:Nat):Int)=((2 ^ n:Nat):Int):=dO (by generalize (2 ^ n:Nat)=q at *; omega)
  simp only [execOp]; rw [hx,hy,eqGuard_shl,binOp_shl]
  simp only [Op.shift,if_neg h1,Int.toNat_natCast,h2,h3,h5]; rfl
theorem J5 {k:IntKind} {n:Nat} {t t':TypeId}:Val P ⟨d,.binOp .shl t x y t',ty,pos,af,gu⟩ [x,y] [.int .i64 1,.int k (n:Int)] (n<62) (.int .i64 ((2 ^ n:Nat):Int)) :=
 ⟨rfl,by simp [Op.operands,Call.operands],fun hb ρ w h=>by
  obtain ⟨hx,hy⟩:=jc h;have h1: ¬((n:Int)<0):=by omega
  have h2:min n IntKind.i64.bits=n:=Nat.min_eq_left (by show n<=64; omega);have h3:(1:Int)*(2:Int) ^ n=((2 ^ n:Nat):Int):=by rw [Int.one_mul]; push_cast; rfl
  have h4:(2 ^ n:Nat)<=2 ^ 61:=Nat.pow_le_pow_right (by decide) (by omega);have h5:IntKind.i64.wrap ((2 ^ n:Nat):Int)=((2 ^ n:Nat):Int):=dO (by generalize (2 ^ n:Nat)=q at *; omega);simp only [execOp]; rw [hx,hy,eqGuard_shl,binOp_shl];simp only [Op.shift,if_neg h1,Int.toNat_natCast,h2,h3,h5]; rfl⟩
theorem KI {vx:Value} {t:TypeId} (ht:pJ P t=true) (hx:ρ x=vx):(execOp ρ ⟨d,.makeInterface t x,ty,pos,af,gu⟩).run P w= .ok (.value (.iface t vx)) w:=by 
  unfold pJ at ht
  cases hu:P.underlying t with
  | none=>simp [hu] at ht
  | some dsc=>cases dsc<;>first|(simp [hu] at ht; done)|(simp only [execOp]; rw [hx]; simp [Instr.makeInterface,run_underlying hu])
theorem nC {vx:Value} {t:TypeId} (ht:pJ P t=true):Val P ⟨d,.makeInterface t x,ty,pos,af,gu⟩ [x] [vx] (True) (.iface t vx) :=
 ⟨rfl,by simp [Op.operands,Call.operands],fun _ ρ w h=>by
  have hx:=tN h;unfold pJ at ht
  cases hu:P.underlying t with
  | none=>simp [hu] at ht
  | some dsc=>cases dsc<;>first|(simp [hu] at ht; done)|(simp only [execOp]; rw [hx]; simp [Instr.makeInterface,run_underlying hu])⟩
theorem BH {ad:Addr}  (hx:ρ x= .pointer (some ad)):(execOp ρ ⟨d,.nilCheck x,ty,pos,af,gu⟩).run P w= .ok (.value (.pointer (some ad))) w:=by simp only [execOp]; rw [hx]; rfl
theorem bO {ad:Addr}:Val P ⟨d,.nilCheck x,ty,pos,af,gu⟩ [x] [.pointer (some ad)] (True) (.pointer (some ad)) :=
 ⟨rfl,by simp [Op.operands,Call.operands],fun _ ρ w h=>by
  have hx:=tN h;simp only [execOp]; rw [hx]; rfl⟩
def nE (P:Program) (name:String) (t:TypeId) (k:FuncId):Prop:= ∀(v:Value) (args:Array Value) (w:World),(callMethod (.iface t v) name args).run P w= .ok (.enter k (#[v]++args)) w
theorem uy {name:String} {t:TypeId} {k:FuncId} {u:Operand} {v:Value} {xs:List Operand} {vs:List Value} {ts:Array TypeId} (he:nE P name t k) (hu:ρ u= .iface t v) (hv:xs.map ρ=vs) :
  (execOp ρ ⟨d,.call ⟨.invoke u name,xs.toArray,ts⟩,ty,pos,af,gu⟩).run P w= .ok (.enter k (v::vs).toArray) w:=by
 have h:=he v vs.toArray w;have e: #[v]++vs.toArray=(v::vs).toArray:=by simp
 rw [e] at h;simp [execOp,resolve,hu,hv,Go.invoke,h]
theorem Ey {name:String} {t:TypeId} {k:FuncId} {u:Operand} {v:Value} {cu:Option Bool} {xs:List Operand} {vs:List Value} {ts:Array TypeId} {R:Value->World->Prop} (hg:gd ops E gu=some G) (hd:be N d=true) (he:nE P name t k)
  (hu:ev E u=some (cu,.iface t v)) (ju:aV G->aV cu) (hv:Args N ds E G xs vs) (hc:aV G->Gives P k (v::vs).toArray w R)
  (next: ∀v w',(aV G->R v w')->(¬aV G->w'=w)->TW P r Q N ds ops rest (ins E d G v) w'):TW P r Q N ds ops (⟨d,.call ⟨.invoke u name,xs.toArray,ts⟩,ty,pos,af,gu⟩::rest) E w :=
 uC hg hd rfl (fun hG a ha=>uy he (ha.eval hu (ju hG)) (hv a ha hG)) hc next
theorem dG {name:String} {t:TypeId} {k:FuncId} {u:Operand} {v:Value} {xs:List Operand} {vs:List Value} {ts:Array TypeId} {R:Value->World->Prop} (hg:gu=none) (hd:be N d=true) (he:nE P name t k)
  (hu:ev E u=some (none,.iface t v)) (hv:Args N ds E none xs vs) (hc:Gives P k (v::vs).toArray w R)
  (next: ∀v w',R v w'->TW P r Q N ds ops rest (ins E d none v) w'):TW P r Q N ds ops (⟨d,.call ⟨.invoke u name,xs.toArray,ts⟩,ty,pos,af,gu⟩::rest) E w :=
 Ey (G:=none) (by rw [hg]; rfl) hd he hu ct hv (fun _=>hc) (fun v w' h _=>next v w' (h trivial))
theorem BN {name:String} {t:TypeId} {k:FuncId} {u:Operand} {v y:Value} {cu:Option Bool} {xs:List Operand} {vs:List Value} {ts:Array TypeId} (hg:gd ops E gu=some G) (hd:be N d=true) (he:nE P name t k)
  (hu:ev E u=some (cu,.iface t v)) (ju:aV G->aV cu) (hv:Args N ds E G xs vs) (hc:aV G->Gives P k (v::vs).toArray w fun v w'=>Below w.heap.size w w'/\v=y)
  (next: ∀w',Below w.heap.size w w'->TW P r Q N ds ops rest (ins E d G y) w'):TW P r Q N ds ops (⟨d,.call ⟨.invoke u name,xs.toArray,ts⟩,ty,pos,af,gu⟩::rest) E w:=by
 intro a ha;obtain ⟨h1,h2⟩:=jM (o:=⟨d,.call ⟨.invoke u name,xs.toArray,ts⟩,ty,pos,af,gu⟩) ha hg;unfold wpListIn;by_cases hcG:aV G
 ·rw [if_pos (h1 hcG)];refine ⟨fun _ _=>trivial,?_⟩;rw [iH rfl,uy he (ha.eval hu (ju hcG)) (hv a ha hcG)];refine ⟨fun h=>by simp [Fence.wide] at h,?_⟩;refine CallsIn.mono (jh (hc hcG)) ?_;rintro e w' ⟨v,rfl,hb,rfl⟩;exact next w' hb _ (ha.put hd (fun _=>rfl) (fun h=>absurd hcG h))
 ·rw [if_neg (by rw [h2 hcG]; simp)];exact ⟨fun _ _=>trivial,next w ZA _ (ha.put hd (fun h=>absurd h hcG) (fun _=>rfl))⟩
theorem jQ {name:String} {t:TypeId} {k:FuncId} {u:Operand} {v:Value} {cu:Option Bool} {xs:List Operand} {vs:List Value} {ts:Array TypeId} (e:Ent) (hm:e.mono) (hg:iY ops D gu=some G) (hd:be N d=true) (he:nE P name t k)
  (hu:dev D u=some (cu,.ex (.iface t v))) (ju:aV G->aV cu) (hv:DArgs (Oper.looksAt ops.toArray ⟨d,.call ⟨.invoke u name,xs.toArray,ts⟩,ty,pos,af,gu⟩) N ds D G xs vs)
  (hc:aV G-> ∀w',Below w.heap.size w w'->Gives P k (v::vs).toArray w' fun v w''=>Below w'.heap.size w' w''/\e.sat v w'')
  (next:DW P N ds .weak ops w Fin rest (dM D d G e)):DW P N ds .weak ops w Fin (⟨d,.call ⟨.invoke u name,xs.toArray,ts⟩,ty,pos,af,gu⟩::rest) D :=
 uM (o:=⟨d,.call ⟨.invoke u name,xs.toArray,ts⟩,ty,pos,af,gu⟩) hg hd rfl hm (fun hG a w' hb ha=>⟨_,_,uy he (ha.eval (o:=⟨d,.call ⟨.invoke u name,xs.toArray,ts⟩,ty,pos,af,gu⟩) hu (by simp [Op.operands,Call.operands]) (ju hG))
  (hv (fun t ht=>dP (by simp [Op.operands,Call.operands,ht])) a w' ha hG),hc hG w' hb⟩) next
theorem AV {z:Value} {u:Value} (hz:z.cells= #[u]) (n:Nat):(madeCells z.cells (n*1)).toList=List.replicate n u:=by
 unfold madeCells;rw [hz];apply List.ext_getElem?;intro i;by_cases h:i<n<;>simp [h,List.getElem?_replicate,Nat.mod_one]
def Kl (P:Program) (t e:TypeId) (u:Value) (bytes:Nat):Prop:= ∃i z,P.underlying t=some (.slice e)/\P.info? e=some i/\i.zero=some z/\z.cells= #[u]/\i.size=1/\i.bytes=bytes
theorem dH {t e:TypeId} {u:Value} {bytes:Nat} (hg:eZ P t e 1 bytes=true) (hz:(P.info? e).bind (·.zero)=some u) (hu:u.cells= #[u]):Kl P t e u bytes:=by
 obtain ⟨i,zv,h1,h2,h3,h4,h5,h6,h7⟩:=mX hg;rw [h2] at hz;simp only [Option.bind_some,h3,Option.some.injEq] at hz;subst hz;exact ⟨i,zv,h1,h2,h3,hu,h4,h5⟩
theorem bI {t e:TypeId} {u:Value} {bytes n:Nat} {k k':IntKind} (hg:gu=none) (hd:be N d=true) (hz:Kl P t e u bytes) (hx:ev E x=some (none,.int k (n:Int))) (hy:ev E y=some (none,.int k' (n:Int))) (hb:bytes*n<=281474976710656) (hn:n<=9223372036854775807)
  (next: ∀g w',Fresh w w' g e (List.replicate n u)->TW P r Q N ds ops rest (ins E d none (.slice (some ⟨g,0,none⟩) n n)) w'):TW P r Q N ds ops (⟨d,.makeSlice t x y,ty,pos,af,gu⟩::rest) E w:=by
 obtain ⟨i,z,hu,hi,hz0,hz1,hs,hby⟩:=hz;have hr:=run_make (P:=P) w t e i z hu hi hz0 k k' (n:Int) (n:Int) (by omega) (Int.le_refl _) (by rw [hby,<-Int.natCast_mul]; omega) (by omega);simp only [Int.toNat_natCast,hs] at hr;have e1:madeCells z.cells (n*1)=(List.replicate n u).toArray:=by rw [<-AV hz1 n]
 rw [e1] at hr;refine iq (w':=w.alloc (.cells (List.replicate n u).toArray e)) hg hd rfl (fun a ha=> ?_) (next _ _ (ji w e _));simp only [execOp];rw [ha.eval hx trivial,ha.eval hy trivial];simp [hr]
theorem il {t:TypeId} {dd:Nat} {z v:Value} {ty':TypeId} {pos':String} {af':Array Edge} (hd:be N (some dd)=true) (hz:zeroCells P t=some [z]) (hy:ev ((dd,none,.pointer (some ⟨w.heap.size,0,none⟩))::E) y=some (none,v)) (hs:(P.info? t).map (·.size)=some 1)
  (h1:v.oneCell'=true) (next: ∀g w',Fresh w w' g t [v]->TW P r Q N ds ops rest ((dd,none,.pointer (some ⟨g,0,none⟩))::E) w') :
  TW P r Q N ds ops (⟨some dd,.alloc t,ty,pos,af,none⟩::⟨none,.store t (.tmp dd) y,ty',pos',af',none⟩::rest) E w:=by
 refine iq (v:= .pointer (some ⟨w.heap.size,0,none⟩)) (w':=w.alloc (.cells [z].toArray t)) rfl hd rfl (fun a ha=> ?_) ?_
 ·unfold zeroCells at hz
  cases hi:P.info? t with
  | none=>simp [hi] at hz
  | some i =>
   cases hzz:i.zero with
   | none=>simp [hi,hzz] at hz
   | some zv =>
    simp [hi,hzz] at hz;simp [execOp,Instr.alloc,zeroValue,typeInfo,hi,hzz,Go.newVar,newRow,<-hz]
 ·have hB:=Blk.new w t [z];refine gU rfl hs (by simp [ev,look,ins]) hy (hB.cell 0) (hB.frozen 0) h1 ?_;refine next _ _ ⟨rfl,?_,?_,hB.set 0 v⟩
  ·simp [World.setCell]
  ·exact (ni w _).setCell ZC _
abbrev But (g:Nat) (w w':World):Prop:=w.grownBy w' (some g)
theorem But.of_below {g:Nat} {w w':World} (h:Below w.heap.size w w'):But g w w':=⟨h.os,h.tape,h.output,h.size,fun k hk _=>h.block k hk⟩
theorem But.trans {g:Nat} {w w' w'':World} (h:But g w w') (h':But g w' w''):But g w w'' :=
 ⟨h'.os.trans h.os,h'.tape.trans h.tape,h'.output.trans h.output,Nat.le_trans h.size h'.size,fun k hk hn=>(h'.block k (Nat.lt_of_lt_of_le hk h.size) hn).trans (h.block k hk hn)⟩
theorem But.step {g:Nat} {w w' w'':World} (h:But g w w') (h':Below w'.heap.size w' w''):But g w w'':=h.trans (.of_below h')
theorem But.below {g:Nat} {w w1 w2:World} (h:Below w.heap.size w w1) (h':But g w1 w2) (hg:w.heap.size<=g):Below w.heap.size w w2:=h.grown h' h.size (fun k hk=>by cases hk; exact hg)
theorem But.blk {g k:Nat} {w w':World} {t:TypeId} {cs:List Value} (h:But g w w') (hB:Blk w k t cs) (hk:k≠g):Blk w' k t cs:=(h.block k hB.lt (fun e=>hk (by cases e; rfl))).trans hB
theorem But.setCell {g j:Nat} {w:World} {u:Value}:But g w (w.setCell ⟨g,j,none⟩ u):=⟨rfl,rfl,rfl,by simp [World.setCell],fun k _ hn=>Below.heap_setCell _ _ _ _ (fun e=>hn (by rw [e]))⟩
theorem bi {t t1:TypeId} {g j:Nat} {cs:List Value} {u:Value} (hg:gu=none) (hs:(P.info? t).map (·.size)=some 1) (hx:ev E x=some (none,.pointer (some (Addr.add ⟨g,0,none⟩ j)))) (hy:ev E y=some (none,u)) (hB:Blk w g t1 cs) (hj:j<cs.length) (h1:u.oneCell'=true)
  (next: ∀w',Blk w' g t1 (cs.set j u)->But g w w'->w'.heap.size=w.heap.size->TW P r Q N ds ops rest E w'):TW P r Q N ds ops (⟨none,.store t x y,ty,pos,af,gu⟩::rest) E w:=by
 refine gU hg hs hx hy (hB.fld (ZD hj)) (by rw [ja]; exact hB.frozen _) h1 ?_;rw [ja];exact next _ (hB.set j u) .setCell (by simp [World.setCell])
end
end Go.PF
namespace Go.PF
open Go.RowKit
structure GKey (P:Program) (kt:TypeId) (κ:Type) where
 enc:κ->Value
 find: ∀(w:World) (k:κ) (m:List (κ×Value)) (es:List MapEntry),es.map (fun e=>(e.key,e.val))=m.map (fun p=>(enc p.1,p.2)) ->
  ∃ r,(Instr.findKey kt (enc k) es).run P w= .ok r w/\(r=none-> ∀p∈m,p.1≠k)/\ ∀j u,r=some (j,u)->m[j]?=some (k,u)
 bits: ∀a,Instr.sameBits 10000 (enc a) (enc a)=true
 ok: ∀(e:Bool) (a:κ) (w:World),(Instr.checkKey e 10000 kt (enc a)).run P w= .ok () w
 inj: ∀a b,enc a=enc b->a=b
theorem mJ {P:Program} {kt:TypeId} {κ:Type} {enc:κ->Value} {eqb:κ->κ->Bool} (hiff: ∀a b,eqb a b=true↔a=b) (heq: ∀(a b:κ) (w:World),(Op.equal kt (enc a) (enc b)).run P w= .ok (eqb a b) w) (w:World) (k:κ): ∀(m:List (κ×Value)) (es:List MapEntry) (i:Nat),es.map (fun e=>(e.key,e.val))=m.map (fun p=>(enc p.1,p.2)) ->
  ∃ r,(Instr.findAsking kt (enc k) es i).run P w= .ok r w/\(r=none-> ∀p∈m,p.1≠k)/\ ∀j u,r=some (j,u)->i<=j/\m[j-i]?=some (k,u)
 | [],es,i,h=>by
  have:es= []:=by simpa using h
  subst this
  exact ⟨none,by simp [Instr.findAsking],(fun _ p hp=>by cases hp),(fun j u h=>by cases h)⟩
 | (k',v')::m,[],i,h=>by simp at h
 | (k',v')::m,e::es,i,h=>by
  simp only [List.map_cons,List.cons.injEq,Prod.mk.injEq] at h;obtain ⟨⟨h1,h2⟩,h3⟩:=h
  cases hb:eqb k k' with
  | true =>
   have hk:k=k':=(hiff _ _).1 hb;refine ⟨some (i,v'),by simp [Instr.findAsking,h1,heq,hb,h2],(fun h=>by cases h),fun j u hj=> ?_⟩;simp only [Option.some.injEq,Prod.mk.injEq] at hj;obtain ⟨rfl,rfl⟩:=hj
   exact ⟨ZC,by simp [hk]⟩
  | false =>
   obtain ⟨r,hr,hn,hs⟩:=mJ hiff heq w k m es (i+1) h3;refine ⟨r,by simp [Instr.findAsking,h1,heq,hb,hr],fun h p hp=> ?_,fun j u hj=> ?_⟩
   ·rcases List.mem_cons.1 hp with rfl|hp
    ·intro e;have e:k'=k:=e;rw [(hiff k k').2 e.symm] at hb;cases hb
    ·exact hn h p hp
   ·obtain ⟨h4,h5⟩:=hs j u hj;refine ⟨by omega,?_⟩;rw [show j-i=(j-(i+1))+1 by omega];simpa using h5
def Ms (P:Program) (kt:TypeId) {κ:Type} (enc:κ->Value) (eqb:κ->κ->Bool) (kd:TypeDesc) (und:P.underlying kt=some kd) (hiff: ∀a b,eqb a b=true↔a=b) (heq: ∀(a b:κ) (w:World),(Op.equal kt (enc a) (enc b)).run P w= .ok (eqb a b) w)
  (ask: ∀a b,Instr.sameNow kd (enc a) (enc b)=none) (bits: ∀a,Instr.sameBits 10000 (enc a) (enc a)=true) (ok: ∀(e:Bool) (a:κ) (w:World),(Instr.checkKey e 10000 kt (enc a)).run P w= .ok () w) (inj: ∀a b,enc a=enc b->a=b):GKey P kt κ where
 enc:=enc
 find:=fun w k m es h=>by
  cases es with
  | nil =>
   have:m= []:=by simpa using h.symm
   subst this
   exact ⟨none,by simp [Instr.findKey,run_underlying und,Instr.findNow],(fun _ p hp=>by cases hp),(fun j u h=>by cases h)⟩
  | cons e es =>
   obtain ⟨r,hr,hn,hs⟩:=mJ hiff heq w k m (e::es) 0 h
   have hf:Instr.findNow kd (enc k) (e::es) 0=none:=by
    cases m with
    | nil=>simp at h
    | cons p m =>
     simp only [List.map_cons,List.cons.injEq,Prod.mk.injEq] at h
     simp only [Instr.findNow]
     rw [h.1.1,ask]
   exact ⟨r,by simp [Instr.findKey,run_underlying und,hf,hr],hn,fun j u hj=>by have:=(hs j u hj).2; simpa using this⟩
 bits:=bits
 ok:=ok
 inj:=inj
def Lj {P:Program} {kt:TypeId} {κ:Type} (K:Key P kt κ) (hiff: ∀a b,K.eqb a b=true↔a=b):GKey P kt κ where
  enc:=K.enc
  find:=fun w k m es h=>by
    obtain ⟨r,hr,hg,hn,hs⟩:=kN K k m es 0 h
    refine ⟨r,by simp [Instr.findKey,run_underlying K.und,hr],fun h0 p hp e=> ?_,fun j u hj=> ?_⟩
    · have:=hn h0 p hp
      rw [(hiff _ _).2 e.symm] at this
      cases this
    · subst hj
      obtain ⟨j',h1,h2,h3,h4⟩:=hs j u rfl
      have e1:j=j':=by omega
      subst e1
      have h5:=(hiff _ _).1 (h3 h2)
      rw [ZD h2]
      have key: ∀(m:List (κ×Value)) (es:List MapEntry) (i j:Nat) (u:Value),es.map (fun e=>(e.key,e.val))=m.map (fun p=>(K.enc p.1,p.2))->Instr.findNow K.kd (K.enc k) es i=some (some (j,u))->i<=j/\ ∃p,m[j-i]?=some p/\p.2=u:=by
        intro m
        induction m with
        | nil => intro es i j u h hf; have : es = [] := by simpa using h
                 subst this; simp [Instr.findNow] at hf
        | cons p m ih =>
          intro es i j u h hf
          cases es with
          | nil=>simp at h
          | cons e es =>
            simp only [List.map_cons,List.cons.injEq,Prod.mk.injEq] at h
            obtain ⟨⟨h1,h2⟩,h3⟩:=h
            simp only [Instr.findNow] at hf
            rw [h1,K.same] at hf
            cases hb:K.eqb k p.1 with
            | true =>
              rw [hb] at hf
              simp only [Option.some.injEq,Prod.mk.injEq] at hf
              obtain ⟨rfl,rfl⟩:=hf
              exact ⟨ZC,p,by simp,h2.symm⟩
            | false =>
              rw [hb] at hf
              obtain ⟨h6,q,h7,h8⟩:=ih es (i+1) j u h3 hf
              refine ⟨by omega,q,?_,h8⟩
              rw [show j-i=(j-(i+1))+1 by omega]
              simpa using h7
      obtain ⟨_,p,h6,h7⟩:=key m es 0 j u h hr
      rw [Nat.sub_zero,ZD h2] at h6
      simp only [Option.some.injEq] at h6
      have:m[j]=(m[j].1,m[j].2):=rfl
      rw [this,<-h5,h6,h7]
  bits:=fun a=>K.bits a a ((hiff a a).2 rfl)
  ok:=K.ok
  inj:=fun a b h=>by
    have h1:=K.same a b
    rw [<-h,K.same a a] at h1
    simp only [Option.some.injEq] at h1
    exact (hiff a b).1 (by rw [<-h1]; exact (hiff a a).2 rfl)

section
variable {P:Program} {r:Option Nat} {Q:Exit->Act->World->Prop} {N:Nat} {ds:List Deferred} {ops rest:List Oper} {E:Env} {D:DE} {w:World} {G:Option Bool} {Fin:DE->Prop} {md:Mode}
variable {d:Option Tmp} {ty:TypeId} {pos:String} {af:Array Edge} {gu:Option (Nat×Bool)}
variable {x y z:Operand} {cx cy cz:Option Bool} {ρ:Operand->Value} {κ:Type} {kt:TypeId}
structure MapL (K:GKey P kt κ) (w:World) (b:Nat) (m:List (κ×Value)):Prop where
 is: ∃es clock,w.heap[b]?=some (.map es clock)/\es.toList.map (fun e=>(e.key,e.val))=m.map (fun p=>(K.enc p.1,p.2))/\(es.toList.map (·.born)).Nodup/\ ∀e∈es.toList,e.born<clock
 once:m.Pairwise fun p q=>p.1≠q.1
theorem MapL.lt {K:GKey P kt κ} {b:Nat} {m:List (κ×Value)} (h:MapL K w b m):b<w.heap.size:=by
 obtain ⟨⟨es,cl,hh,_⟩,_⟩:=h; exact (Array.getElem?_eq_some_iff.1 hh).1
theorem MapL.kept {K:GKey P kt κ} {b:Nat} {m:List (κ×Value)} {w':World} (h:MapL K w b m) (hk:w'.heap[b]?=w.heap[b]?):MapL K w' b m:=by
 obtain ⟨⟨es,cl,hh,hm⟩,h2⟩:=h; exact ⟨⟨es,cl,hk.trans hh,hm⟩,h2⟩
theorem MapL.below {K:GKey P kt κ} {b:Nat} {m:List (κ×Value)} {w':World} (h:MapL K w b m) (hb:Below w.heap.size w w'):MapL K w' b m:=h.kept (hb.block b h.lt)
theorem MapL.but {K:GKey P kt κ} {b g:Nat} {m:List (κ×Value)} {w':World} (h:MapL K w b m) (hb:But g w w') (hg:b≠g):MapL K w' b m:=h.kept (hb.block b h.lt (fun e=>hg (by cases e; rfl)))
theorem jy {t:TypeId} (K:GKey P kt κ) (hg:gu=none) (hd:be N d=true)
  (next: ∀b w',b=w.heap.size->w'.heap.size=b+1->Below w.heap.size w w'->MapL K w' b []->TW P r Q N ds ops rest (ins E d none (.map (some b))) w'):TW P r Q N ds ops (⟨d,.makeMap t none,ty,pos,af,gu⟩::rest) E w :=
 iq (v:= .map (some w.heap.size)) (w':=w.alloc (.map #[] 0)) hg hd rfl (fun a ha=>by simp [execOp,Instr.makeMap])
  (next _ _ rfl (by simp) ((ZA).alloc ZC _) ⟨⟨#[],0,heap_alloc_new w _,rfl,by simp,by simp⟩,List.Pairwise.nil⟩)
def Found (m:List (κ×Value)) (k:κ):Option Value->Prop
 | none=> ∀p∈m,p.1≠k
 | some v=>(k,v)∈m
theorem ru (K:GKey P kt κ) {t et:TypeId} (ht:P.underlying t=some (.map kt et)) {zv:Value} (hz:(P.info? et).bind (·.zero)=some zv) {b:Nat} {m:List (κ×Value)} (hm:MapL K w b m) (k:κ) (ok:Bool) :
  ∃ o,Found m k o/\(Instr.lookup t (.map (some b)) (K.enc k) ok).run P w= .ok (if ok then .tuple #[o.getD zv,.bool o.isSome] else o.getD zv) w:=by
 obtain ⟨⟨es,cl,hh,he,_⟩,_⟩:=hm;obtain ⟨rr,hr,hn,hs⟩:=K.find w k m es.toList he
 cases hi:P.info? et with
 | none=>simp [hi] at hz
 | some i =>
  simp [hi] at hz;have hobj:(getObj b).run P w= .ok (.map es cl) w:=by simp [getObj,Sem.run,hh]
  cases rr with
  | none =>
   refine ⟨none,hn rfl,?_⟩
   cases ok<;>simp [Instr.lookup,run_underlying ht,hobj,K.ok,hr,zeroValue,typeInfo,hi,hz]
  | some p =>
   obtain ⟨j,u⟩:=p;refine ⟨some u,ZF (hs j u rfl),?_⟩;cases ok<;>simp [Instr.lookup,run_underlying ht,hobj,K.ok,hr]
theorem uB (K:GKey P kt κ) {t et:TypeId} {zv:Value} {b:Nat} {m:List (κ×Value)} (k:κ) {ok:Bool} (hg:gu=none) (hd:be N d=true) (ht:P.underlying t=some (.map kt et)) (hz:(P.info? et).bind (·.zero)=some zv)
  (hx:ev E x=some (none,.map (some b))) (hy:ev E y=some (none,K.enc k)) (hm:MapL K w b m)
  (next: ∀o,Found m k o->TW P r Q N ds ops rest (ins E d none (if ok then .tuple #[o.getD zv,.bool o.isSome] else o.getD zv)) w):TW P r Q N ds ops (⟨d,.lookup t x y ok,ty,pos,af,gu⟩::rest) E w:=by
 obtain ⟨o,ho,hrun⟩:=ru K ht hz hm k ok;subst hg;exact iP (G:=none) rfl hd rfl (fun _ a ha=>by simp only [execOp]; rw [ha.eval hx trivial,ha.eval hy trivial]; simp [hrun]) (next o ho)
theorem mf (K:GKey P kt κ) {t et:TypeId} {zv:Value} {b:Nat} {m:List (κ×Value)} (k:κ) (hg:gu=none) (hd:be N d=true) (ht:P.underlying t=some (.map kt et)) (hz:(P.info? et).bind (·.zero)=some zv)
  (hx:ev E x=some (none,.map (some b))) (hy:ev E y=some (none,K.enc k)) (hm:MapL K w b m)
  (next: ∀v,((k,v)∈m∨((∀p∈m,p.1≠k)/\v=zv))->TW P r Q N ds ops rest (ins E d none v) w):TW P r Q N ds ops (⟨d,.lookup t x y false,ty,pos,af,gu⟩::rest) E w :=
 uB K k hg hd ht hz hx hy hm fun o ho=>by
  cases o with
  | none=>exact next zv (.inr ⟨ho,rfl⟩)
  | some v=>exact next v (.inl ho)
theorem BM (K:GKey P kt κ) {t et:TypeId} {zv:Value} {b:Nat} {m:List (κ×Value)} (k:κ) (hg:gu=none) (hd:be N d=true) (ht:P.underlying t=some (.map kt et)) (hz:(P.info? et).bind (·.zero)=some zv)
  (hx:ev E x=some (none,.map (some b))) (hy:ev E y=some (none,K.enc k)) (hm:MapL K w b m)
  (n1:(∀p∈m,p.1≠k)->TW P r Q N ds ops rest (ins E d none (.tuple #[zv,.bool false])) w) (n2: ∀v,(k,v)∈m->TW P r Q N ds ops rest (ins E d none (.tuple #[v,.bool true])) w):TW P r Q N ds ops (⟨d,.lookup t x y true,ty,pos,af,gu⟩::rest) E w :=
 uB K k hg hd ht hz hx hy hm fun o ho=>by
  cases o with
  | none=>exact n1 ho
  | some v=>exact n2 v ho
open Classical in
noncomputable def mE (m:List (κ×Value)) (k:κ) (v:Value):List (κ×Value):=if∃p∈m,p.1=k then m.map fun p=>if p.1=k then (k,v) else p else m++ [(k,v)]
theorem mem_lput {m:List (κ×Value)} {k:κ} {v:Value} {p:κ×Value}:p∈mE m k v↔p=(k,v)∨(p∈m/\p.1≠k):=by
 unfold mE
 split
 ·rename_i h;rw [List.mem_map];constructor
  ·rintro ⟨q,hq,rfl⟩
   split
   ·exact .inl rfl
   ·rename_i hne; exact .inr ⟨hq,hne⟩
  ·rintro (rfl|⟨hp,hne⟩)
   ·obtain ⟨q,hq,he⟩:=h;exact ⟨q,hq,by rw [if_pos he]⟩
   ·exact ⟨p,hp,by rw [if_neg hne]⟩
 ·rename_i h;rw [List.mem_append,List.mem_singleton];constructor
  ·rintro (hp|rfl)
   ·exact .inr ⟨hp,fun e=>h ⟨p,hp,e⟩⟩
   ·exact .inl rfl
  ·rintro (rfl|⟨hp,_⟩)
   ·exact .inr rfl
   ·exact .inl hp
theorem DZ {m:List (κ×Value)} (h:m.Pairwise fun p q=>p.1≠q.1) (k:κ) (v:Value):(mE m k v).Pairwise fun p q=>p.1≠q.1:=by
 unfold mE
 split
 ·rw [List.pairwise_map];refine h.imp fun {a b} hab=> ?_
  split<;>split
  ·rename_i h1 h2; exact absurd (h1.trans h2.symm) hab
  ·rename_i h1 h2; exact fun e=>h2 e.symm
  ·rename_i h1 h2; exact h1
  ·exact hab
 ·rename_i hno;rw [List.pairwise_append];refine ⟨h,List.pairwise_singleton _ _,fun a ha b hb=> ?_⟩;rw [List.mem_singleton] at hb;subst hb;exact fun e=>hno ⟨a,ha,e⟩
theorem mI (K:GKey P kt κ) {t et:TypeId} (ht:P.underlying t=some (.map kt et)) {b:Nat} {m:List (κ×Value)} (hm:MapL K w b m) (k:κ) (vz:Value) :
  ∃ w',(Instr.mapUpdate t (.map (some b)) (K.enc k) vz).run P w= .ok () w'/\w'.heap.size=w.heap.size/\But b w w'/\MapL K w' b (mE m k vz):=by
 obtain ⟨⟨es,cl,hh,he,hbn,hbc⟩,hon⟩:=id hm;obtain ⟨rr,hr,hnone,hsome⟩:=K.find w k m es.toList he;have hlt:b<w.heap.size:=hm.lt;have hobj:(getObj b).run P w= .ok (.map es cl) w:=by simp [getObj,Sem.run,hh]
 have hset: ∀o,(setObj b o).run P w= .ok () {w with heap:=w.heap.setIfInBounds b o}:=fun o=>by simp [setObj,Sem.run,hh]
 have fin: ∀(es':Array MapEntry) (cl':Nat),(Instr.mapUpdate t (.map (some b)) (K.enc k) vz).run P w= .ok () {w with heap:=w.heap.setIfInBounds b (.map es' cl')} ->
   es'.toList.map (fun e=>(e.key,e.val))=(mE m k vz).map (fun p=>(K.enc p.1,p.2))->(es'.toList.map (·.born)).Nodup->(∀e∈es'.toList,e.born<cl')-> ∃w',(Instr.mapUpdate t (.map (some b)) (K.enc k) vz).run P w= .ok () w'/\w'.heap.size=w.heap.size/\But b w w'/\MapL K w' b (mE m k vz):=by
  intro es' cl' hrun hes hn' hc';refine ⟨_,hrun,by simp,⟨rfl,rfl,rfl,by simp,fun i hi hne=> ?_⟩,⟨es',cl',by simp [hlt],hes,hn',hc'⟩,DZ hon k vz⟩;have:b≠i:=fun e=>hne (by rw [e]);simp [Array.getElem?_setIfInBounds_ne this]
 cases rr with
 | none =>
  have hno: ¬ ∃p∈m,p.1=k:=fun ⟨p,hp,e⟩=>hnone rfl p hp e;refine fin (es.push {key:=K.enc k,val:=vz,born:=cl}) (cl+1) ?_ ?_ ?_ ?_
  ·simp [Instr.mapUpdate,run_underlying ht,hobj,K.ok,hr,hset]
  ·unfold mE; rw [if_neg hno]; simp [he]
  ·rw [Array.toList_push,List.map_append];refine List.nodup_append.2 ⟨hbn,by simp,fun a ha b hb e=> ?_⟩;simp at hb;rw [List.mem_map] at ha;obtain ⟨x,hx,rfl⟩:=ha;have:=hbc x hx;omega
  ·intro e he';rw [Array.toList_push,List.mem_append,List.mem_singleton] at he';rcases he' with h|rfl
   ·have:=hbc e h; omega
   ·show cl<cl+1; omega
 | some p =>
  obtain ⟨j,u⟩:=p;have hj:=hsome j u rfl;have hjm:j<m.length:=(ZE hj).1;have hlen:es.toList.length=m.length:=by have:=congrArg List.length he; simpa using this
  have hje:j<es.size:=by simpa using (show j<es.toList.length by omega)
  have hkey:es[j].key=K.enc k:=by
   have:=congrArg (fun l=>l[j]?) he;simp only [List.getElem?_map,hj,Array.getElem?_toList] at this;simp [hje] at this;exact this.1
  have hborn:(es.modify j fun e=> {e with key:=K.enc k,val:=vz}).toList.map (·.born)=es.toList.map (·.born):=by
   apply List.ext_getElem?;intro i;simp only [List.getElem?_map,Array.getElem?_toList,Array.getElem?_modify]
   split
   ·cases es[i]?<;>rfl
   ·rfl
  refine fin (es.modify j fun e=> {e with key:=K.enc k,val:=vz}) cl ?_ ?_ (by rw [hborn]; exact hbn) (fun e he'=> ?_);rotate_left 2
  ·have h1:e.born∈(es.modify j fun e=> {e with key:=K.enc k,val:=vz}).toList.map (·.born):=List.mem_map.2 ⟨e,he',rfl⟩;rw [hborn,List.mem_map] at h1;obtain ⟨x,hx,hxe⟩:=h1;rw [<-hxe];exact hbc x hx
  ·simp only [Instr.mapUpdate];simp [run_underlying ht,hobj,K.ok,hr,Instr.keyThatStays,hje,hkey,K.bits k,hset]
  ·unfold mE;rw [if_pos ⟨(k,u),ZF hj,rfl⟩];apply List.ext_getElem?;intro i;have hi:=congrArg (fun l=>l[i]?) he;simp only [List.getElem?_map] at hi;simp only [List.getElem?_map,Array.getElem?_toList,Array.getElem?_modify];by_cases hij:j=i
   ·subst hij;simp [hje,hj]
   ·rw [if_neg hij];rcases ZI i m.length with hlt'|hge
    ·have hmi:m[i]?=some m[i]:=ZD hlt';have hne:m[i].1≠k:=by
      have hp:=List.pairwise_iff_getElem.1 hon;have hkj:m[j].1=k:=by
       have:=ZD hjm;rw [hj] at this;simp only [Option.some.injEq] at this;rw [<-this]
      rcases ZI i j with h|h
      ·have:=hp i j hlt' hjm h; rw [hkj] at this; exact this
      ·have:=hp j i hjm hlt' (by omega); rw [hkj] at this; exact fun e=>this e.symm
     rw [hmi] at hi ⊢;simp only [Option.map_some,if_neg hne] at hi ⊢;simpa using hi
    ·have hes:es[i]?=none:=by
      have:es.size<=i:=by
       have:es.toList.length<=i:=by omega
       simpa using this
      simp [this]
     rw [List.getElem?_eq_none hge,hes];rfl
theorem fV (K:GKey P kt κ) {t et:TypeId} {b:Nat} {m:List (κ×Value)} (k:κ) {vz:Value} (hg:gu=none) (ht:P.underlying t=some (.map kt et))
  (hx:ev E x=some (none,.map (some b))) (hy:ev E y=some (none,K.enc k)) (hz:ev E z=some (none,vz)) (hm:MapL K w b m)
  (next: ∀w',w'.heap.size=w.heap.size->But b w w'->MapL K w' b (mE m k vz)->TW P r Q N ds ops rest E w'):TW P r Q N ds ops (⟨none,.mapUpdate t x y z,ty,pos,af,gu⟩::rest) E w:=by
 obtain ⟨w',hrun,h1,h2,h3⟩:=mI K ht hm k vz;exact nV hg rfl rfl (fun a ha=>by simp only [execOp]; rw [ha.eval hx trivial,ha.eval hy trivial,ha.eval hz trivial]; simp [hrun]) (next w' h1 h2 h3)
theorem BO (K:GKey P kt κ) {t et:TypeId} {b:Nat} {m:List (κ×Value)} (k:κ) {vz:Value} (hg:gu=none) (ht:P.underlying t=some (.map kt et))
  (hx:ev E x=some (none,.map (some b))) (hy:ev E y=some (none,K.enc k)) (hz:ev E z=some (none,vz)) (hm:MapL K w b m)
  (next: ∀w',w'.heap.size=w.heap.size->But b w w'->MapL K w' b (mE m k vz)->TW P r Q N ds ops rest E w'):TW P r Q N ds ops (⟨none,.insert t x y z,ty,pos,af,gu⟩::rest) E w:=by
 obtain ⟨w',hrun,h1,h2,h3⟩:=mI K ht hm k vz;exact nV hg rfl rfl (fun a ha=>by simp only [execOp]; rw [ha.eval hx trivial,ha.eval hy trivial,ha.eval hz trivial]; simp [hrun]) (next w' h1 h2 h3)
end
end Go.PF
namespace Go.PF
open Go.RowKit
section
variable {P:Program} {Q:Exit->Act->World->Prop} {N:Nat} {ds:List Deferred} {ops:List Oper}
def MF (Q:Exit->Act->World->Prop):Prop:= ∀c a d v w,Q (.panic c) (Act.put a d v) w->Q (.panic c) a w
theorem rH (hlex:mq ops=true) {i:Nat} {oi:Oper} (hi:ops[i]?=some oi) {listed:Array Bool} (hdeps: ∀e∈oi.after,Region.binds .any e=true->listed.getD e.on false=true) :
  ∀ j oj,ops[j]?=some oj->j≠i->listed.getD j true=false->(∀e∈oj.after,Region.binds .any e=true->e.on≠i)->oi.apart ops.toArray oj=true:=by
 intro j oj hj hne hun hno;have hunf:listed.getD j false=true->False:=fun h=>by
  rcases ZI j listed.size with h'|h'
  ·simp [h'] at hun h; rw [hun] at h; cases h
  ·simp [Array.getElem?_eq_none h'] at h
 have h1:=fun d hd=>(dZ hlex hj hi).2 d hd;have h2:=fun d hd=>(dZ hlex hi hj).2 d hd;unfold Oper.apart;rw [Bool.and_eq_true];constructor
 ·cases hd:oi.dst with
  | none=>rfl
  | some d =>
   obtain ⟨q1,q2⟩:=h1 d hd;simp only [Bool.and_eq_true];constructor
   ·cases hc:(oj.looksAt ops.toArray).contains d with
    | false=>rfl
    | true =>
     exfalso;have hm:d∈oj.looksAt ops.toArray:=by simpa using hc
     obtain ⟨q3,q4⟩:=q2 hm;rcases ZI i j with h|h
     ·obtain ⟨e,he,hb,hon⟩:=q3 h;exact hno e he hb hon
     ·rcases q4 h with h5|⟨e,he,hb,hon⟩
      ·exact hne h5.symm
      ·exact hunf (hon ▸ hdeps e he hb)
   ·rcases q1 with q1|q1
    ·exact absurd q1.symm hne
    ·simpa using q1
 ·cases hd:oj.dst with
  | none=>rfl
  | some d =>
   obtain ⟨q1,q2⟩:=h2 d hd
   cases hc:(oi.looksAt ops.toArray).contains d with
   | false=>simp only [hc,Bool.not_false]
   | true =>
    exfalso;have hm:d∈oi.looksAt ops.toArray:=by simpa using hc
    obtain ⟨q3,q4⟩:=q2 hm;rcases ZI j i with h|h
    ·obtain ⟨e,he,hb,hon⟩:=q3 h;exact hunf (hon ▸ hdeps e he hb)
    ·rcases q4 h with h5|⟨e,he,hb,hon⟩
     ·exact hne h5
     ·exact hno e he hb hon
def tX:Op->Bool
 | .move _=>true
 | .assign _=>true
 | .extract _ _=>true
 | _=>false
theorem GO {P:Program} {o:Oper} (ρ:Operand->Value) (h:tX o.op=true):(∃v,∀w',(execOp ρ o).run P w'= .ok (.value v) w')∨ ∀w',∃s,(execOp ρ o).run P w'= .halt (.stuck s) w':=by
 obtain ⟨dst,op,ty,pos,af,gu⟩:=o;cases op<;>first|(simp [tX] at h; done)|skip
 ·exact .inl ⟨_,fun w'=>by simp only [execOp]; rfl⟩
 ·exact .inl ⟨_,fun w'=>by simp only [execOp]; rfl⟩
 ·rename_i x i
  cases hx:ρ x with
  | tuple vs =>
   cases hv:vs[i]? with
   | some v=>exact .inl ⟨v,fun w'=>by simp only [execOp]; rw [hx]; simp [Instr.extract,hv]⟩
   | none=>exact .inr fun w'=>⟨_,by simp only [execOp]; rw [hx]; simp [Instr.extract,hv,stuck]; rfl⟩
  | _=>exact .inr fun w'=>⟨_,by simp only [execOp]; rw [hx]; simp [Instr.extract,stuck]; rfl⟩
def iA (ks:List Nat) (t i:Nat) (o:Oper):Oper:=match Nat.ble t i with
 | true=>⟨o.dst,o.op,o.type,o.pos,o.after++(ks.map fun k=>(⟨k,.data⟩:Edge)).toArray,o.guard⟩
 | false=>o
def rA (ks:List Nat) (t:Nat):Nat->List Oper->List Oper
 | _,[]=> []
 | i,o::os=>iA ks t i o::rA ks t (i+1) os
def plus (ks:List Nat) (t:Nat) (ops:List Oper):List Oper:=rA ks t 0 ops
theorem vC (ks:List Nat) (t:Nat): ∀(os:List Oper) (j i:Nat),(rA ks t j os)[i]?=(os[i]?).map (iA ks t (j+i))
 | [],j,i=>by simp [rA]
 | o::os,j,0=>by simp [rA]
 | o::os,j,i+1=>by
  simp only [rA,List.getElem?_cons_succ];rw [vC ks t os (j+1) i,show j+1+i=j+(i+1) by omega]
theorem jY (ks:List Nat) (t:Nat) (ops:List Oper) (i:Nat):(plus ks t ops)[i]?=(ops[i]?).map (iA ks t i):=by
 unfold plus; rw [vC,Nat.zero_add]
theorem vB (ks:List Nat) (t i:Nat) (o:Oper):(iA ks t i o).dst=o.dst:=by unfold iA; split<;>rfl
theorem yj (ks:List Nat) (t i:Nat) (o:Oper):(iA ks t i o).guard=o.guard:=by unfold iA; split<;>rfl
theorem mR {ks:List Nat} {t i:Nat} {o:Oper} {e:Edge} (h:e∈(iA ks t i o).after):e∈o.after∨(t<=i/\ ∃k∈ks,e=⟨k,.data⟩):=by
 unfold iA at h
 split at h
 ·rename_i hb;have h:e∈o.after++(ks.map fun k=>(⟨k,.data⟩:Edge)).toArray:=h;rw [Array.mem_append] at h;rcases h with h|h
  ·exact .inl h
  ·right;refine ⟨Nat.le_of_ble_eq_true hb,?_⟩;simp only [List.mem_toArray,List.mem_map] at h;obtain ⟨k,hk,rfl⟩:=h;exact ⟨k,hk,rfl⟩
 ·exact .inl h
theorem tH {ks:List Nat} {t i:Nat} {o:Oper} {e:Edge} (h:e∈o.after):e∈(iA ks t i o).after:=by
 unfold iA
 split
 ·show e∈o.after++_;exact Array.mem_append.2 (.inl h)
 ·exact h
theorem wN (ks:List Nat) (t:Nat) (ops:List Oper) (a:Array Value) (j:Nat):yielded (plus ks t ops).toArray a j=yielded ops.toArray a j:=by
 rw [lQ,lQ,jY]
 cases ops[j]? with
 | none=>rfl
 | some o=>simp [vB]
theorem yh (ks:List Nat) (t i:Nat) (ops:List Oper) (o:Oper) (a:Array Value):Region.wanted (iA ks t i o) (yielded (plus ks t ops).toArray a)=Region.wanted o (yielded ops.toArray a):=by
 have:yielded (plus ks t ops).toArray a=yielded ops.toArray a:=by funext j; exact wN ks t ops a j
 rw [this];unfold Region.wanted;rw [yj]
theorem Dx {F:Fence} {n:Nat} {ks:List Nat} {t i:Nat} {o:Oper} {a:Act} {w:World} {K:Act->World->Prop}:(iA ks t i o).wpIn F n P a w K Q↔o.wpIn F n P a w K Q:=by
 unfold iA
 split
 ·exact Iff.rfl
 ·exact Iff.rfl
theorem plus_wpOp {F:Fence} {n:Nat} {ks:List Nat} {t i:Nat} {a:Act} {w:World} {K:Act->World->Prop}:wpOpIn F n P (plus ks t ops).toArray Q i K a w↔wpOpIn F n P ops.toArray Q i K a w:=by
 unfold wpOpIn;simp only [List.getElem?_toArray,jY]
 cases ops[i]? with
 | none=>exact Iff.rfl
 | some o =>
  simp only [Option.map_some,yh,vB]
  split
  ·exact Dx
  ·unfold iA
   split<;>exact Iff.rfl
def GQ (ks:List Nat) (t:Nat) (ops:List Oper) (k:Nat):Bool:=Nat.blt k t&&match ops[k]? with
 | some o=>tX o.op&&o.guard.isNone&&o.after.all fun e=> !Region.binds .any e||oQ ks e.on||((ko ops).drop t).all fun m=>m.testBit e.on
 | none=>false
def An (ks:List Nat) (t:Nat) (ops:List Oper):Bool:=mq ops&&Region.noSelect ops.toArray&&ks.all (GQ ks t ops)
theorem Ik {ks:List Nat} {t:Nat} (hok:An ks t ops=true) (hQ:MF Q) :
  ∀ (fuel:Nat) (listed:Array Bool) (a:Act) (w:World),(∀k o,ops[k]?=some o->listed.getD k false=true-> ∀e∈o.after,Region.binds .any e=true->listed.getD e.on false=true) ->
   wpAnyIn (FR none) 0 P .any (plus ks t ops).toArray Q fuel listed a w->wpAnyIn (FR none) 0 P .any ops.toArray Q fuel listed a w:=by
 unfold An at hok;simp only [Bool.and_eq_true] at hok;obtain ⟨⟨hlex,hsel⟩,hks⟩:=hok;have hback: ∀k o,ops[k]?=some o-> ∀e∈o.after,Region.binds .any e=true->e.on<k:=fun k o hk e he hb=>(dZ hlex hk hk).1 e he hb;have hkk: ∀k∈ks,k<t/\ ∃o,ops[k]?=some o/\tX o.op=true/\o.guard=none/\ ∀e∈o.after,Region.binds .any e=true->e.on∈ks∨ ∀i,t<=i->i<ops.length->Reach ops i e.on:=by
  intro k hk;have h:=List.all_eq_true.1 hks k hk;unfold GQ at h;simp only [Bool.and_eq_true] at h;obtain ⟨h1,h2⟩:=h;refine ⟨blt_iff.1 h1,?_⟩
  cases ho:ops[k]? with
  | none=>rw [ho] at h2; cases h2
  | some o =>
   rw [ho] at h2;simp only [Bool.and_eq_true] at h2;obtain ⟨⟨h3,h4⟩,h5⟩:=h2;refine ⟨o,rfl,h3,by simpa using h4,fun e he hb=> ?_⟩;rw [Array.all_eq_true'] at h5;have h6:=h5 e he;rw [hb] at h6;simp only [Bool.not_true,Bool.false_or,Bool.or_eq_true] at h6;rcases h6 with h6|h6
   ·exact .inl (hasN_iff.1 h6)
   ·right;intro i hti hil;have hlen:(ko ops).length=ops.length:=by unfold ko; rw [kJ]; simp
    have hm:(ko ops)[i]?=some (ko ops)[i]:=ZD (by omega);have h7:=List.all_eq_true.1 h6 (ko ops)[i] (by
     rw [List.mem_iff_getElem?];exact ⟨i-t,by rw [List.getElem?_drop,show t+(i-t)=i by omega,hm]⟩)
    exact rC (by rw [List.getD_eq_getElem?_getD,hm]; exact h7)
 have hget: ∀i o,(plus ks t ops).toArray[i]?=some o-> ∃o0,ops[i]?=some o0/\o=iA ks t i o0:=by
  intro i o h;rw [List.getElem?_toArray,jY] at h
  cases ho:ops[i]? with
  | none=>rw [ho] at h; cases h
  | some o0=>rw [ho] at h; simp only [Option.map_some,Option.some.injEq] at h; exact ⟨o0,rfl,h.symm⟩
 have hclosed: ∀ {listed:Array Bool} {i:Nat},(∀k o,ops[k]?=some o->listed.getD k false=true-> ∀e∈o.after,Region.binds .any e=true->listed.getD e.on false=true) ->
   (∀o,ops[i]?=some o-> ∀e∈o.after,Region.binds .any e=true->listed.getD e.on false=true)-> ∀k o,ops[k]?=some o->(listed.setIfInBounds i true).getD k false=true-> ∀e∈o.after,Region.binds .any e=true->(listed.setIfInBounds i true).getD e.on false=true:=by
  intro listed i hc hd k o hk hl e he hb;refine getD_set_true ?_;by_cases hik:i=k
  ·subst hik; exact hd o hk e he hb
  ·rw [getD_set_ne false hik] at hl; exact hc k o hk hl e he hb
 intro fuel
 induction fuel with
 | zero =>
  intro listed a w hc h;refine ⟨?_,h.2⟩
  cases hr:Region.ready .any ops.toArray listed with
  | nil=>rfl
  | cons i l =>
   exfalso;have hi:i∈Region.ready .any ops.toArray listed:=by rw [hr]; simp
   have hex: ∃j,j∈Region.ready .any (plus ks t ops).toArray listed:=by
    have hun: ∃j o,ops[j]?=some o/\listed.getD j true=false:=by
     obtain ⟨h0,o,ho,_⟩:=mem_ready.1 hi;exact ⟨i,o,by simpa using ho,h0⟩
    obtain ⟨j,o,hj,hun⟩:=hun
    induction j using Nat.strongRecOn generalizing o with
    | _ j ih =>
     by_cases hall: ∀j' o',j'<j->ops[j']?=some o'->listed.getD j' true=true
     ·refine ⟨j,mem_ready.2 ⟨hun,iA ks t j o,by rw [List.getElem?_toArray,jY,hj]; rfl,fun e he hb=> ?_⟩⟩;have hon:e.on<j:=by
       rcases mR he with h1|⟨h1,k,hk,rfl⟩
       ·exact hback j o hj e h1 hb
       ·have:=(hkk k hk).1; show k<j; omega
      have hjl:=(ZE hj).1;have hex:ops[e.on]?=some ops[e.on]:=ZD (by omega);have h2:=hall e.on _ hon hex;rcases ZI e.on listed.size with h'|h'
      ·simp [h'] at h2 ⊢; exact h2
      ·have hjs:listed.size<=j:=by omega
       simp [Array.getElem?_eq_none hjs] at hun
     ·rcases Classical.not_forall.1 hall with ⟨j',hn⟩;rcases Classical.not_forall.1 hn with ⟨o',hn⟩;rcases Classical.not_forall.1 hn with ⟨hlt,hn⟩;rcases Classical.not_forall.1 hn with ⟨ho',hn⟩;exact ih j' hlt o' ho' (by simpa using hn)
   obtain ⟨j,hj⟩:=hex;rw [h.1] at hj
   cases hj
 | succ fuel ih =>
  intro listed a w hc h;by_cases hk: ∃k∈ks,k∈Region.ready .any (plus ks t ops).toArray listed
  ·obtain ⟨k,hkm,hkr⟩:=hk;obtain ⟨hkt,o,ho,hmv,hgu,_⟩:=hkk k hkm;obtain ⟨hun,o',ho',hdeps⟩:=mem_ready.1 hkr;have hdeps0: ∀e∈o.after,Region.binds .any e=true->listed.getD e.on false=true:=by
    rw [List.getElem?_toArray,jY,ho] at ho';simp only [Option.map_some,Option.some.injEq] at ho';subst ho';exact fun e he hb=>hdeps e (tH he) hb
   have hkr0:k∈Region.ready .any ops.toArray listed:=mem_ready.2 ⟨hun,o,by simpa using ho,hdeps0⟩;have h1:=plus_wpOp.1 (h.2 k hkr);have hw:Region.wanted o (yielded ops.toArray a.tmps)=true:=by unfold Region.wanted; rw [hgu]
   have hab: ∀w',o.about P w' a.eval=none:=by
    intro w';unfold Oper.about;cases hop:o.op<;>first|rfl|(rw [hop] at hmv; simp [tX] at hmv)
   unfold wpOpIn at h1;simp only [List.getElem?_toArray,ho,hw,if_true,Oper.wpIn] at h1;have h1:=h1.2;obtain ⟨v,hv⟩: ∃v,∀w',(execOp a.eval o).run P w'= .ok (.value v) w':=by
    rcases GO (P:=P) a.eval hmv with h|h
    ·exact h
    ·obtain ⟨st,hst⟩:=h w;rw [Oper.semAt_none,hst] at h1;exact h1.elim
   have h2:wpAnyIn (FR none) 0 P .any (plus ks t ops).toArray Q fuel (listed.setIfInBounds k true) (a.put o.dst v) w:=by
    rw [Oper.semAt_none,hv w] at h1;exact h1
   have h3:=ih _ _ _ (hclosed hc (fun o' ho'=>by rw [ho] at ho'; cases ho'; exact hdeps0)) h2
   exact wpAnyIn_first rfl (by simpa using ho) (Region.noSelect_spec hsel) (fun c a w hq=>hQ c a _ _ w hq) fuel listed a w
    (fun j oj hj=>rH hlex ho hdeps0 j oj (by simpa using hj)) hkr0 ⟨.inl ⟨hw,hv⟩,hab⟩ h3
  ·have hsame: ∀i,i∈Region.ready .any ops.toArray listed->i∈Region.ready .any (plus ks t ops).toArray listed:=by
    intro i hi;obtain ⟨hun,o,ho,hdeps⟩:=mem_ready.1 hi;have ho:ops[i]?=some o:=by simpa using ho
    refine mem_ready.2 ⟨hun,iA ks t i o,by rw [List.getElem?_toArray,jY,ho]; rfl,fun e he hb=> ?_⟩;rcases mR he with h1|⟨hti,k,hkm,rfl⟩
    ·exact hdeps e h1 hb
    ·show listed.getD k false=true;have hil:=(ZE ho).1;have hisz:i<listed.size:=by
      rcases ZI i listed.size with h'|h'
      ·exact h'
      ·simp [Array.getElem?_eq_none h'] at hun
     induction k using Nat.strongRecOn with
     | _ k ihk =>
      cases hlk:listed.getD k false with
      | true=>rfl
      | false =>
       exfalso;obtain ⟨hkt,ok,hok,hmv,hgu,hda⟩:=hkk k hkm;refine hk ⟨k,hkm,mem_ready.2 ⟨?_,iA ks t k ok,by rw [List.getElem?_toArray,jY,hok]; rfl,fun e' he' hb'=> ?_⟩⟩
       ·have:k<listed.size:=by omega
        simp [this] at hlk ⊢; exact hlk
       ·rcases mR he' with h1|⟨h1,_⟩
        ·rcases hda e' h1 hb' with h2|h2
         ·exact ihk e'.on (hback k ok hok e' h1 hb') h2 (by unfold iA; rw [show Nat.ble t i=true from Nat.ble_eq_true_of_le hti]; exact Array.mem_append.2 (.inr (by simp; exact h2))) (by rfl)
         ·exact lY hc hback (h2 i hti hil) (fun o'' ho''=>by rw [ho] at ho''; cases ho''; exact hdeps)
        ·omega
   have hless: ∀i,i∈Region.ready .any (plus ks t ops).toArray listed->i∈Region.ready .any ops.toArray listed:=by
    intro i hi;obtain ⟨hun,o,ho,hdeps⟩:=mem_ready.1 hi;obtain ⟨o0,h0,rfl⟩:=hget i o ho;exact mem_ready.2 ⟨hun,o0,by simpa using h0,fun e he hb=>hdeps e (tH he) hb⟩
   refine ⟨fun hr=>h.1 ?_,fun i hi=> ?_⟩
   ·cases hr':Region.ready .any (plus ks t ops).toArray listed with
    | nil=>rfl
    | cons j l=>have:=hless j (by rw [hr']; simp); rw [hr] at this; cases this
   ·have h1:=plus_wpOp.1 (h.2 i (hsame i hi));obtain ⟨hun,o,ho,hdeps⟩:=mem_ready.1 hi;exact wpOpIn_mono (fun a' w' h2=>ih _ a' w' (hclosed hc (fun o' ho'=>by rw [show ops[i]?=some o by simpa using ho] at ho'; cases ho'; exact hdeps)) h2) h1
theorem jB (ks:List Nat) (t:Nat) {id:Nat} {E:Env} {w:World} (hm:P.follows .mixedOrders=true) (hok:An ks t ops=true) (hQ:MF Q) (h: ∀W,Below w.heap.size w W->RW P none Q N ds (plus ks t ops) 0 E W):CW P none Q N ds (.region id ops.toArray true) E w:=by
 intro a ha;refine wpIn_region_any hm ?_;have e:ops.toArray.size=ops.length:=by simp
 rw [e];have hl:(plus ks t ops).length=ops.length:=by
  have: ∀(os:List Oper) (j:Nat),(rA ks t j os).length=os.length:=by
   intro os
   induction os with
   | nil=>intro j; rfl
   | cons o os ih=>intro j; simp [rA,ih]
  exact this ops 0
 refine Ik hok hQ _ _ _ _ (fun k o hk hl=>by have hkl:=(ZE hk).1; simp [hkl] at hl) ?_;exact h {w with drawn:=w.drawn+1} ⟨rfl,rfl,rfl,ZC,fun _ _=>rfl⟩ a ha (Array.replicate ops.length false) _ (by simp [hl]) (fun k hk=>by rw [hl] at hk; simp [hk]) (by omega)
theorem gV {E:Env} {w:World} {s:Nat} {o:Oper} {v:Value} (hlex:mq ops=true) (hsel:Region.noSelect ops.toArray=true) (hQ:MF Q) (ho:ops[s]?=some o) (hd:be N o.dst=true) (hgu:o.guard=none) (hnc: ∀c,o.op≠ .call c)
  (hrun: ∀a w,Fit N ds E a->(execOp a.eval o).run P w= .ok (.value v) w) (next:RW P none Q N ds ops (s+1) (ins E o.dst none v) w):RW P none Q N ds ops s E w:=by
 have hsl:s<ops.length:=(ZE ho).1;intro a ha listed fuel hsz hls hfu;obtain ⟨fuel,rfl⟩: ∃f,fuel=f+1:=⟨fuel-1,by omega⟩;have hdeps: ∀e∈o.after,Region.binds .any e=true->listed.getD e.on false=true:=by
  intro e he hb;have:=(dZ hlex ho ho).1 e he hb;rw [hls e.on (by omega)];simp; omega
 have hun:listed.getD s true=false:=by
  have h1:=hls s hsl;have:s<listed.size:=by omega
  simp [this] at h1 ⊢; exact h1
 have hr:s∈Region.ready .any ops.toArray listed:=mem_ready.2 ⟨hun,o,by simpa using ho,hdeps⟩
 refine wpAnyIn_first (v:=v) rfl (by simpa using ho) (Region.noSelect_spec hsel) (fun c a w hq=>hQ c a _ _ w hq) fuel listed a w (fun j oj hj=>rH hlex ho hdeps j oj (by simpa using hj)) hr
  ⟨.inl ⟨by unfold Region.wanted; rw [hgu],fun w'=>hrun a w' ha⟩,fun w'=> ?_⟩ ?_
 ·unfold Oper.about
  split
  ·rename_i c hc; exact absurd hc (hnc c)
  ·rfl
 ·refine next _ (ha.put hd (fun _=>rfl) (fun h=>absurd trivial h)) _ _ (by simp [hsz]) (fun k hk=> ?_) (by omega)
  by_cases hks:s=k
  ·subst hks;have:s<listed.size:=by omega
   simp [this]
  ·rw [getD_set_ne false hks,hls k hk];by_cases h1:k<s
   ·simp [h1]; omega
   ·simp [h1]; omega
end
end Go.PF
namespace Go.PF
open Go.RowKit
theorem uG {e1 e2 e3 e4 e5 e6 e7:Ent} {vs:List Value} {w:World} (h:Sats [e1,e2,e3,e4,e5,e6,e7] vs w): ∃a b c d e f g,vs= [a,b,c,d,e,f,g]/\e1.sat a w/\e2.sat b w/\e3.sat c w/\e4.sat d w/\e5.sat e w/\e6.sat f w/\e7.sat g w:=by
 match vs,h with
 | [a,b,c,d,e,f,g],⟨h1,h2,h3,h4,h5,h6,h7,_⟩=>exact ⟨a,b,c,d,e,f,g,rfl,h1,h2,h3,h4,h5,h6,h7⟩
def Made (w0:World) (t:TypeId) (cs:List Value) (v:Value) (w:World):Prop:= ∃g,v= .pointer (some ⟨g,0,none⟩)/\w0.heap.size<=g/\Blk w g t cs
theorem Made.mono (w0:World) (t:TypeId) (cs:List Value):Ent.mono (.pr (Made w0 t cs)):=fun _ _ _ hb ⟨g,hv,hg,hB⟩=>⟨g,hv,hg,hB.next hb⟩
theorem qV {P:Program} {N:Nat} {ds:List Deferred} {ops rest:List Oper} {D:DE} {w:World} {Fin:DE->Prop} {d:Option Tmp} {ty:TypeId} {pos:String} {af:Array Edge} {t:TypeId} {cs:List Value} (hd:be N d=true) (hz:zeroCells P t=some cs)
  (next:DW P N ds .weak ops w Fin rest (dM D d none (.pr (Made w t cs)))):DW P N ds .weak ops w Fin (⟨d,.alloc t,ty,pos,af,none⟩::rest) D:=by
 refine qU (G:=none) rfl hd rfl (Made.mono w t cs) (fun hG a w' hb ha=> ?_) next
 refine ⟨.pointer (some ⟨w'.heap.size,0,none⟩),w'.alloc (.cells cs.toArray t),?_,ni w' _,w'.heap.size,rfl,hb.size,Blk.new w' t cs⟩;unfold zeroCells at hz
 cases hi:P.info? t with
 | none=>simp [hi] at hz
 | some i =>
  cases hzz:i.zero with
  | none=>simp [hi,hzz] at hz
  | some zv =>
   simp [hi,hzz] at hz;simp [execOp,Instr.alloc,zeroValue,typeInfo,hi,hzz,Go.newVar,newRow,<-hz]
end Go.PF
namespace Go.PF
open Go.RowKit
theorem eF {P:Program} {r:Option Nat} {Q:Exit->Act->World->Prop} {N:Nat} {ds:List Deferred} {ops rest:List Oper} {E:Env} {w:World} {ty:TypeId} {pos:String} {af:Array Edge} {gu:Option (Nat×Bool)} {x y:Operand}
  {t e:TypeId} {n c g j:Nat} {xs:List Value} {u:Value} (hg:gu=none) (hs:(P.info? t).map (·.size)=some 1) (hx:ev E x=some (none,.pointer (some (Addr.add ⟨g,0,none⟩ j)))) (hy:ev E y=some (none,u)) (hown:OwnS w e 1 (.slice (some ⟨g,0,none⟩) n c) n xs)
  (hj:j<xs.length) (h1:u.oneCell'=true) (next: ∀w',OwnS w' e 1 (.slice (some ⟨g,0,none⟩) n c) n (xs.set j u)->But g w w'->w'.heap.size=w.heap.size->TW P r Q N ds ops rest E w'):TW P r Q N ds ops (⟨none,.store t x y,ty,pos,af,gu⟩::rest) E w:=by
 obtain ⟨A,cap,hv,_,_,hc⟩:=hown.form;obtain ⟨g',hA,hown',hcell,hfr⟩:=hc j xs[j] (ZD hj);simp [Value.ownBlock] at hown';subst hown';refine gU hg hs hx hy (by rw [ja]; exact hcell) (by rw [ja]; exact hfr) h1 ?_;rw [ja];exact next _ (hown.set rfl hj u) (oC w g _ u) (by simp)
theorem OwnS.cell1 {w:World} {e:TypeId} {n c g j:Nat} {xs:List Value} {u:Value} (h:OwnS w e 1 (.slice (some ⟨g,0,none⟩) n c) n xs) (hj:xs[j]?=some u):w.cell? (Addr.add ⟨g,0,none⟩ j)=some u:=by
 obtain ⟨A,cap,hv,_,_,hc⟩:=h.form;obtain ⟨g',hA,hown',hcell,hfr⟩:=hc j u hj;simp [Value.ownBlock] at hown';subst hown';rw [ja];exact hcell
theorem OwnS.addr {w:World} {e:TypeId} {n c:Nat} {A:Option Addr} {xs:List Value} (h:OwnS w e 1 (.slice A n c) n xs) (hn:0<xs.length): ∃g,A=some ⟨g,0,none⟩:=by
 obtain ⟨A',cap,hv,_,_,hc⟩:=h.form;obtain ⟨g',hA,_⟩:=hc 0 xs[0] (ZD hn);simp only [Value.slice.injEq] at hv;rw [hv.1,hA];exact ⟨g',rfl⟩
end Go.PF
namespace Go.PF
open Go.RowKit
variable {α:Type}
theorem uj (n:Nat): ∀(ps:List (List Value×α)),(∀p∈ps,p.1.length=n)-> ∀(i j:Nat) (p:List Value×α),ps[i]?=some p->j<n->(ps.flatMap (·.1))[i*n+j]?=p.1[j]? :=
 fun ps h i j p hp hj=>nN (fun p:List Value×α=>p.1) n ps h i j p hp hj
theorem dR {T:Ty α} {F:Nat->Prop} {w:World} {e:TypeId} {v:Value} {n:Nat} (ps:List (List Value×α)) (hr: ∀p∈ps,T.rep F w p.1 p.2) (h0:0<T.n) (h:OwnS w e T.n v n (ps.flatMap (·.1))) (hn:n=ps.length) (hF: ∀g,v.ownBlock=some g->F g) (hb:ps.length<=9223372036854775807):SL T F w v (ps.map (·.2)):=by
 subst hn;have hlen: ∀p∈ps,p.1.length=T.n:=fun p hp=>T.len _ _ _ _ (hr p hp);obtain ⟨A,cap,hv,h1,h2,h3⟩:=h.form;refine ⟨A,cap,by simpa using hv,by simpa using h1,by simpa using hb,fun i x hx=> ?_⟩;have hi:i<ps.length:=by have:=(ZE hx).1; simpa using this
 have hpi:ps[i]?=some ps[i]:=ZD hi;have hx':ps[i].2=x:=by simp [hpi] at hx; exact hx
 have hl:=hlen _ (List.getElem_mem hi);obtain ⟨u0,hu0⟩: ∃u,ps[i].1[0]?=some u:=⟨ps[i].1[0]'(by omega),ZD (by omega)⟩;have h00:=uj T.n ps hlen i 0 _ hpi h0;rw [hu0] at h00;obtain ⟨g,hA,hown,_⟩:=h3 _ _ h00;refine ⟨⟨g,0,none⟩,ps[i].1,hA,hF g hown,fun j u hj=> ?_,by rw [<-hx']; exact hr _ (List.getElem_mem hi)⟩;have hjn:j<T.n:=by rw [<-hl]; exact (ZE hj).1
 obtain ⟨g',hA',_,hc,_⟩:=h3 (i*T.n+j) u (by rw [uj T.n ps hlen i j _ hpi hjn]; exact hj);rw [hA] at hA';simp only [Option.some.injEq,Addr.mk.injEq] at hA';obtain ⟨rfl,_,_⟩:=hA';rw [add_add,ja];exact hc
structure Ty.Nb {α:Type} (T:Ty α):Prop where
 pos:0<T.n
 nb: ∀F w cs x,T.rep F w cs x->T.rep (fun k=>F k/\k<w.heap.size) w cs x
theorem Ty.Nb.now {T:Ty α} (h:T.Nb):T.Now:=⟨h.pos,fun F w cs x hr=>T.wider _ _ _ _ _ (fun _ hb=>hb.2) (h.nb F w cs x hr)⟩
theorem sG:Ty.Nb bC:=⟨by decide,fun _ _ _ _ h=>h⟩
theorem SL.nb {T:Ty α} (hT:T.Nb) {F:Nat->Prop} {w:World} {v:Value} {l:List α} (h:SL T F w v l):SL T (fun k=>F k/\k<w.heap.size) w v l:=by
 obtain ⟨A,cap,rfl,h1,h2,h3⟩:=h;refine ⟨A,cap,rfl,h1,h2,fun i x hx=> ?_⟩;obtain ⟨ad,cs,ha,hF,hc,hr⟩:=h3 i x hx;refine ⟨ad,cs,ha,⟨hF,?_⟩,hc,hT.nb _ _ _ _ hr⟩;have hl:=T.len _ _ _ _ hr;have h0:0<cs.length:=by rw [hl]; exact hT.pos
 have:=block_lt_of_cell (hc 0 cs[0] (ZD h0))
 rwa [add_block,add_block] at this
def kF (w:World) (v:Value) (k:Nat):Prop:=k<w.heap.size/\v.ownBlock≠some k
def RowL (T:Ty α) (w:World) (e:TypeId) (b:Nat) (v:Value) (ps:List (List Value×α)):Prop:=OwnS w e T.n v ps.length (ps.flatMap (·.1))/\(∀p∈ps,T.rep (kF w v) w p.1 p.2)/\ ∀g,v.ownBlock=some g->b<=g
theorem RowL.nil (T:Ty α) (w:World) (e:TypeId) (b:Nat):RowL T w e b (.slice none 0 0) []:=⟨OwnS.nil _ _ _,(fun p hp=>by cases hp),fun g h=>by simp [Value.ownBlock] at h⟩
theorem RowL.big {T:Ty α} {w:World} {e:TypeId} {b:Nat} {v:Value} {ps:List (List Value×α)} (h:RowL T w e b v ps):ps.length<=9223372036854775807:=by
 rcases h.1.2 with ⟨rfl,h0⟩|⟨g,cap,cur,hv,hg,hh,ha,hb,hc,hd⟩
 ·omega
 ·simp only [maxLen] at hb;omega
theorem RowL.sl {T:Ty α} (h0:0<T.n) {w:World} {e:TypeId} {b:Nat} {v:Value} {ps:List (List Value×α)} (h:RowL T w e b v ps):SL T (fun k=>k<w.heap.size) w v (ps.map (·.2)) :=
 dR ps (fun p hp=>T.wider _ _ _ _ _ (fun _ hb=>hb.1) (h.2.1 p hp)) h0 h.1 rfl (fun g hg=>h.1.lt hg) h.big
theorem RowL.form {T:Ty α} {w:World} {e:TypeId} {b:Nat} {v:Value} {ps:List (List Value×α)} (h:RowL T w e b v ps): ∃A cap,v= .slice A ps.length cap:=by
 obtain ⟨A,cap,hv,_⟩:=h.1.form;exact ⟨A,cap,hv⟩
theorem RowL.step {T:Ty α} {w w':World} {e:TypeId} {b:Nat} {v:Value} {ps:List (List Value×α)} (h:RowL T w e b v ps) (hb:Below w.heap.size w w'):RowL T w' e b v ps :=
 ⟨h.1.below hb,fun p hp=>T.wider _ _ _ _ _ (fun k hk=>⟨Nat.lt_of_lt_of_le hk.1 hb.size,hk.2⟩) (T.mono _ _ _ _ _ (Kept.of_below hb) (h.2.1 p hp)),h.2.2⟩
theorem RowL.less {T:Ty α} {w:World} {e:TypeId} {b b':Nat} {v:Value} {ps:List (List Value×α)} (h:RowL T w e b v ps) (hb:b'<=b):RowL T w e b' v ps:=⟨h.1,h.2.1,fun g hg=>Nat.le_trans hb (h.2.2 g hg)⟩
theorem RowL.app {T:Ty α} {w w':World} {e:TypeId} {b:Nat} {v v':Value} {ps:List (List Value×α)} {cs:List Value} {x:α} (h:RowL T w e b v ps) (hO:OwnS w' e T.n v' (ps.length+1) (ps.flatMap (·.1)++cs)) (hg:w.grownBy w' v.ownBlock) (hn:v'.ownBlock=v.ownBlock∨v'.ownBlock=some w.heap.size)
  (hr:T.rep (kF w v) w cs x) (hb:b<=w.heap.size):RowL T w' e b v' (ps++ [(cs,x)]):=by
 have hk:Kept (kF w v) w w':=bn fun k hk hlt=>hg.block k hlt (fun e=>hk.2 e.symm);have hw: ∀k,kF w v k->kF w' v' k:=fun k hk=>⟨Nat.lt_of_lt_of_le hk.1 hg.size,fun e=>by
  rcases hn with h'|h'
  ·exact hk.2 (by rw [<-h']; exact e)
  ·rw [h'] at e; cases e; exact absurd hk.1 (Nat.lt_irrefl _)⟩
 refine ⟨by rw [List.flatMap_append,List.length_append]; simpa using hO,fun p hp=> ?_,fun q hq=> ?_⟩
 ·rcases ZH hp with hp|hp
  ·exact T.wider _ _ _ _ _ hw (T.mono _ _ _ _ _ hk (h.2.1 p hp))
  ·rw [List.mem_singleton] at hp;subst hp;exact T.wider _ _ _ _ _ hw (T.mono _ _ _ _ _ hk hr)
 ·rcases hn with h'|h'
  ·exact h.2.2 q (by rw [<-h']; exact hq)
  ·rw [h'] at hq; cases hq; exact hb
def PredI (P:Program) (w:World) (k:FuncId) (caps:List Value) (p:Int->Bool):Prop:= ∀x w',Below w.heap.size w w'->Gives P k (.int .i64 x::caps).toArray w' fun u w''=>Below w'.heap.size w' w''/\u= .bool (p x)
theorem PredI.step {P:Program} {w w':World} {k:FuncId} {caps:List Value} {p:Int->Bool} (h:PredI P w k caps p) (hb:Below w.heap.size w w'):PredI P w' k caps p:=fun x w2 h2=>h x w2 (hb.step h2)
end Go.PF
namespace Go.Ord
abbrev bA:=List (List Int)
def at2 (d:bA) (i j:Nat):Int:=(d.getD i []).getD j (-1)
structure WfD (d:bA):Prop where
 few:d.length<=12
 row: ∀(i:Nat) (r:List Int),d[i]?=some r->r.length=d.length
 diag: ∀i,i<d.length->at2 d i i=0
 rng: ∀i j,i<d.length->j<d.length-> -1<=at2 d i j/\at2 d i j<=1000000
 tri: ∀i k j,i<d.length->k<d.length->j<d.length->at2 d i k≠ -1->at2 d k j≠ -1->at2 d i j≠ -1/\at2 d i j<=at2 d i k+at2 d k j
structure U where
 low:Int
 high:Int
 span:Int
 entry:Nat
 exit:Nat
structure UOK (d:bA) (u:U):Prop where
 e1:u.entry<d.length
 e2:u.exit<d.length
 way:at2 d u.entry u.exit≠ -1
 long:at2 d u.entry u.exit<=u.span
abbrev St:=Option Nat×Int
def far (d:bA):Option Nat->U->Int
 | none,_=>0
 | some x,u=>at2 d x u.entry
def gK (d:bA) (s:St) (u:U):Prop:=far d s.1 u≠ -1/\s.2+far d s.1 u<=u.high
def kW (d:bA) (s:St) (u:U):Int:=max u.low (s.2+far d s.1 u)
def nxt (d:bA) (s:St) (u:U):St:=(some u.exit,kW d s u+u.span)
def Run (d:bA):St->List U->Prop
 | _,[]=>True
 | s,u::us=>gK d s u/\Run d (nxt d s u) us
def fin (d:bA):St->List U->St
 | s,[]=>s
 | s,u::us=>fin d (nxt d s u) us
def qT (d:bA) (s:St):Prop:= ∀x,s.1=some x->x<d.length
variable {d:bA}
theorem Run.append {s:St} {a b:List U}:Run d s (a++b)↔Run d s a/\Run d (fin d s a) b:=by
 induction a generalizing s with
 | nil=>simp [Run,fin]
 | cons u a ih=>simp only [List.cons_append,Run,fin,ih,and_assoc]
theorem Bn {s:St} {a b:List U}:fin d s (a++b)=fin d (fin d s a) b:=by
 induction a generalizing s with
 | nil=>rfl
 | cons u a ih=>simp only [List.cons_append,fin,ih]
def Better (d:bA) (s s':St):Prop:= ∀u,UOK d u->far d s'.1 u≠ -1->far d s.1 u≠ -1/\s.2+far d s.1 u<=s'.2+far d s'.1 u
theorem Better.can {s s':St} (h:Better d s s') {u:U} (hu:UOK d u) (hc:gK d s' u):gK d s u:=by
 obtain ⟨h1,h2⟩:=h u hu hc.1;exact ⟨h1,Int.le_trans h2 hc.2⟩
theorem jv {o:Option Nat} {t t':Int} (h:t<=t'):Better d (o,t) (o,t'):=fun u _ hf=>⟨hf,by show t+far d o u<=t'+far d o u; omega⟩
theorem Better.nxt {s s':St} (h:Better d s s') {u:U} (hu:UOK d u) (hc:gK d s' u):Better d (Ord.nxt d s u) (Ord.nxt d s' u):=by
 refine jv ?_;obtain ⟨_,h2⟩:=h u hu hc.1;unfold kW;omega
theorem Better.run {s s':St} (h:Better d s s'): ∀ {us:List U},(∀u∈us,UOK d u)->Run d s' us->Run d s us
 | [],_,_=>trivial
 | u::us,hu,hr=>⟨h.can (hu u (by simp)) hr.1,(h.nxt (hu u (by simp)) hr.1).run (fun x hx=>hu x (by simp [hx])) hr.2⟩
theorem oZ (hd:WfD d) {i j:Nat} (hi:i<d.length) (hj:j<d.length) (h:at2 d i j≠ -1):0<=at2 d i j:=by
 have:=(hd.rng i j hi hj).1;omega
theorem qZ (hd:WfD d) {u:U} (hu:UOK d u):0<=u.span:=by
 have:=oZ hd hu.e1 hu.e2 hu.way;have:=hu.long;omega
theorem oW (hd:WfD d) {s:St} (hs:qT d s) {a:U} (ha:UOK d a) (hc:gK d s a):Better d s (nxt d s a):=by
 intro u hu hf;have hf':at2 d a.exit u.entry≠ -1:=hf;have hsp:=qZ hd ha;have h0:=oZ hd ha.e2 hu.e1 hf';have hlow:s.2+far d s.1 a<=kW d s a:=by unfold kW; omega
 show far d s.1 u≠ -1/\s.2+far d s.1 u<=(kW d s a+a.span)+at2 d a.exit u.entry;obtain ⟨o,t⟩:=s
 cases o with
 | none =>
  simp only [far] at *
  exact ⟨by decide,by omega⟩
 | some x =>
  have hx:x<d.length:=hs x rfl;have h1:at2 d x a.entry≠ -1:=hc.1;obtain ⟨q1,q2⟩:=hd.tri x a.entry a.exit hx ha.e1 ha.e2 h1 ha.way;obtain ⟨r1,r2⟩:=hd.tri x a.exit u.entry hx ha.e2 hu.e1 q1 hf';have:=ha.long;simp only [far] at *;exact ⟨r1,by omega⟩
theorem nI {s:St} {a:U} (ha:UOK d a):qT d (nxt d s a):=fun x hx=>by
 simp only [nxt,Option.some.injEq] at hx;rw [<-hx]; exact ha.e2
theorem wF {s:St} (hs:qT d s): ∀ {us:List U},(∀u∈us,UOK d u)->qT d (fin d s us)
 | [],_=>hs
 | u::us,hu=>wF (nI (hu u (by simp))) (fun x hx=>hu x (by simp [hx]))
theorem wH (hd:WfD d): ∀ {pre:List U} {s:St} {u:U} {post:List U},qT d s->(∀x∈pre++u::post,UOK d x)->Run d s (pre++u::post)->gK d s u
 | [],s,u,post,_,_,hr=>hr.1
 | a::pre,s,u,post,hs,hu,hr=>by
  have ha:=hu a (by simp);have h1:=wH hd (pre:=pre) (nI ha) (fun x hx=>hu x (by simp at hx ⊢; exact .inr hx)) hr.2;exact (oW hd hs ha hr.1).can (hu u (by simp)) h1
theorem xN (hd:WfD d): ∀ {pre:List U} {s:St} {u:U} {post:List U},qT d s->(∀x∈pre++u::post,UOK d x)->Run d s (pre++u::post)->Run d s (pre++post)
 | [],s,u,post,hs,hu,hr=>(oW hd hs (hu u (by simp)) hr.1).run (fun x hx=>hu x (by simp at hx ⊢; exact .inr hx)) hr.2
 | a::pre,s,u,post,hs,hu,hr=>⟨hr.1,xN hd (nI (hu a (by simp))) (fun x hx=>hu x (by simp at hx ⊢; exact .inr hx)) hr.2⟩
def Fits (d:bA) (u v:U):Prop:=gK d (some u.exit,u.low+u.span) v
theorem sW (hd:WfD d) {s:St} {pre mid post:List U} {u v:U} (hs:qT d s) (hu: ∀x∈pre++u::(mid++v::post),UOK d x) (hr:Run d s (pre++u::(mid++v::post))):Fits d u v:=by
 rw [Run.append] at hr;have hs':=wF hs (us:=pre) (fun x hx=>hu x (by simp [hx]));have h1:=wH hd (pre:=mid) (nI (s:=fin d s pre) (hu u (by simp))) (fun x hx=>hu x (by simp at hx ⊢; exact .inr (.inr hx))) hr.2.2;refine (jv (o:=some u.exit) (t:=u.low+u.span) (t':=kW d (fin d s pre) u+u.span) ?_).can (hu v (by simp)) h1;unfold kW;omega
def zM (d:bA) (s:St) (u:U):Prop:=s.1=some u.entry/\u.exit=u.entry/\u.span=0/\gK d s u/\kW d s u=s.2
theorem Hr {s:St} {u:U} (h:zM d s u):nxt d s u=s:=by
 obtain ⟨h1,h2,h3,_,h5⟩:=h;unfold nxt;rw [h2,h3,h5,<-h1];obtain ⟨o,t⟩:=s;simp
theorem Bl (hd:WfD d) {pre post:List U} {s:St} {u:U} (hs:qT d s) (hu: ∀x∈pre++u::post,UOK d x) (hf:zM d s u) (hr:Run d s (pre++u::post)):Run d s (u::(pre++post)) :=
 ⟨hf.2.2.2.1,by rw [Hr hf]; exact xN hd hs hu hr⟩
def Feas (d:bA) (s:St) (us:List U):Prop:= ∃l,l.Perm us/\Run d s l
theorem Feas.can (hd:WfD d) {s:St} {us:List U} (hs:qT d s) (hu: ∀x∈us,UOK d x) (h:Feas d s us) {u:U} (hm:u∈us):gK d s u:=by
 obtain ⟨l,hp,hr⟩:=h;obtain ⟨pre,post,rfl⟩:=List.append_of_mem (hp.mem_iff.2 hm);exact wH hd hs (fun x hx=>hu x (hp.mem_iff.1 hx)) hr
theorem Feas.better {s s':St} {us:List U} (hb:Better d s s') (hu: ∀x∈us,UOK d x) (h:Feas d s' us):Feas d s us:=by
 obtain ⟨l,hp,hr⟩:=h;exact ⟨l,hp,hb.run (fun x hx=>hu x (hp.mem_iff.1 hx)) hr⟩
def left (us:List U) (m:Nat):List U:=(List.range us.length).filterMap fun i=>if m.testBit i then none else us[i]?
theorem lu (us:List U):left us 0=us:=by
 unfold left;have: ∀k,k<=us.length->(List.range k).filterMap (fun i=>if (0:Nat).testBit i then none else us[i]?)=us.take k:=by
  intro k
  induction k with
  | zero=>intro _; rfl
  | succ k ih =>
   intro hk;rw [List.range_succ,List.filterMap_append,ih (by omega),ZG];simp [ZD (show k<us.length by omega)]
 rw [this us.length ZC,List.take_length]
theorem mem_left {us:List U} {m:Nat} {u:U}:u∈left us m↔ ∃i,m.testBit i=false/\us[i]?=some u:=by
 unfold left;rw [List.mem_filterMap];constructor
 ·rintro ⟨i,_,h⟩
  split at h
  ·cases h
  ·rename_i hm; exact ⟨i,by simpa using hm,h⟩
 ·rintro ⟨i,hm,h⟩;exact ⟨i,by simpa using (ZE h).1,by simp [hm,h]⟩
theorem jd {us:List U} {m i:Nat} {u:U} (hm:m.testBit i=false) (hu:us[i]?=some u):(left us m).Perm (u::left us (m ||| 1 <<< i)):=by
 have hi:=(ZE hu).1;have key: ∀k,k<=us.length->((List.range k).filterMap fun j=>if m.testBit j then none else us[j]?).Perm ((if i<k then [u] else [])++(List.range k).filterMap fun j=>if (m ||| 1 <<< i).testBit j then none else us[j]?):=by
  intro k
  induction k with
  | zero=>intro _; simp
  | succ k ih =>
   intro hk;rw [List.range_succ,List.filterMap_append,List.filterMap_append];have ih:=ih (by omega);have hbit:(m ||| 1 <<< i).testBit k=(m.testBit k||decide (i=k)):=by
    rw [Nat.testBit_or,Nat.one_shiftLeft,Nat.testBit_two_pow]
   by_cases hik:i=k
   ·subst hik;rw [if_neg (by omega)] at ih;rw [if_pos (by omega)];simp only [List.filterMap_cons,List.filterMap_nil,hbit,hm,hu];simp;refine (ih.append_right [u]).trans ?_;simp
   ·have e1:(if i<k+1 then [u] else [])=(if i<k then [u] else []:List U):=by
     by_cases h:i<k
     ·rw [if_pos h,if_pos (by omega)]
     ·rw [if_neg h,if_neg (by omega)]
    have e2:(m ||| 1 <<< i).testBit k=m.testBit k:=by rw [hbit]; simp [hik]
    rw [e1,<-List.append_assoc];refine (ih.append_right _).trans ?_;simp only [List.filterMap_cons,List.filterMap_nil,e2];exact List.Perm.refl _
 have:=key us.length ZC;rw [if_pos hi] at this;exact this
def sK (d:bA) (us:List U) (F:Nat->Nat):Prop:= ∀(i j:Nat) (u v:U),us[i]?=some u->us[j]?=some v->((F i).testBit j=true↔i≠j/\ ¬Fits d u v)
theorem yZ (hd:WfD d) {us:List U} (hu: ∀u∈us,UOK d u) {s:St} (hs:qT d s) {m:Nat} (h:Feas d s (left us m)) {i:Nat} {u:U} (hm:m.testBit i=false) (hi:us[i]?=some u):gK d s u :=
 h.can hd hs (fun x hx=>by obtain ⟨j,_,hj⟩:=mem_left.1 hx; exact hu x (ZF hj)) (mem_left.2 ⟨i,hm,hi⟩)
theorem Eg (hd:WfD d) {us:List U} (hu: ∀u∈us,UOK d u) {s:St} (hs:qT d s) {m:Nat} (h:Feas d s (left us m)) {i:Nat} {u:U} (hm:m.testBit i=false) (hi:us[i]?=some u) (hf:zM d s u):Feas d (nxt d s u) (left us (m ||| 1 <<< i)):=by
 obtain ⟨l,hp,hr⟩:=h;have hul:u∈l:=hp.mem_iff.2 (mem_left.2 ⟨i,hm,hi⟩);obtain ⟨pre,post,rfl⟩:=List.append_of_mem hul;have h1:=Bl hd hs (fun x hx=>by obtain ⟨j,_,hj⟩:=mem_left.1 (hp.mem_iff.1 hx); exact hu x (ZF hj)) hf hr;refine ⟨pre++post,?_,h1.2⟩;have:=(List.perm_middle.symm.trans hp).trans (jd hm hi);exact List.Perm.cons_inv this
theorem Ef (hd:WfD d) {us:List U} (hu: ∀u∈us,UOK d u) {F:Nat->Nat} (hF:sK d us F) {s:St} (hs:qT d s) {m:Nat} (h:Feas d s (left us m)) (hne: ∃i,i<us.length/\m.testBit i=false) :
  ∃ i u,us[i]?=some u/\m.testBit i=false/\(∀j,j<us.length->(F i).testBit j=true->m.testBit j=true)/\Feas d (nxt d s u) (left us (m ||| 1 <<< i)):=by
 obtain ⟨l,hp,hr⟩:=h;have hall: ∀x∈l,UOK d x:=fun x hx=>by obtain ⟨j,_,hj⟩:=mem_left.1 (hp.mem_iff.1 hx); exact hu x (ZF hj)
 cases l with
 | nil =>
  obtain ⟨i,hi,hm⟩:=hne;have:us[i]∈left us m:=mem_left.2 ⟨i,hm,ZD hi⟩;have:=hp.mem_iff.2 this
  cases this
 | cons u l =>
  obtain ⟨i,hm,hi⟩:=mem_left.1 (hp.mem_iff.1 (List.mem_cons_self ..));have hpl:l.Perm (left us (m ||| 1 <<< i)):=List.Perm.cons_inv (hp.trans (jd hm hi));refine ⟨i,u,hi,hm,fun j hj hb=> ?_,l,hpl,hr.2⟩
  cases hmj:m.testBit j with
  | true=>rfl
  | false =>
   exfalso;have hv:us[j]?=some us[j]:=ZD hj;obtain ⟨hij,hnf⟩:=(hF i j u us[j] hi hv).1 hb;have hvl:us[j]∈l:=hpl.mem_iff.2 (mem_left.2 ⟨j,by rw [Nat.testBit_or,Nat.one_shiftLeft,Nat.testBit_two_pow,hmj]; simp [hij],hv⟩);obtain ⟨pre,post,rfl⟩:=List.append_of_mem hvl;exact hnf (sW hd (pre:= []) (mid:=pre) (post:=post) hs (by simpa using hall) (by simpa using hr))
theorem vO (hd:WfD d) {us:List U} (hu: ∀u∈us,UOK d u) {s:St} (hs:qT d s) (h:Feas d s us) {i j:Nat} {u v:U} (hi:us[i]?=some u) (hj:us[j]?=some v) (hij:i≠j):Fits d u v∨Fits d v u:=by
 obtain ⟨l,hp,hr⟩:=h;have hall: ∀x∈l,UOK d x:=fun x hx=>hu x (hp.mem_iff.1 hx);have h2: ∃pre mid post,l=pre++u::(mid++v::post)∨l=pre++v::(mid++u::post):=by
  have e1:=jd (us:=us) (m:=0) (i:=i) (by simp) hi;rw [lu] at e1;have e2:=jd (us:=us) (m:=0 ||| 1 <<< i) (i:=j) (by rw [Nat.testBit_or,Nat.one_shiftLeft,Nat.testBit_two_pow]; simp [hij]) hj;have hl:=hp.trans (e1.trans (e2.cons u));have hul:u∈l:=hl.mem_iff.2 (by simp);obtain ⟨pre,post,rfl⟩:=List.append_of_mem hul;have h3:(pre++post).Perm (v::left us (0 ||| 1 <<< i ||| 1 <<< j)):=List.Perm.cons_inv (List.perm_middle.symm.trans hl);have hv:v∈pre++post:=h3.mem_iff.2 (by simp);rcases ZH hv with h|h
  ·obtain ⟨a,b,rfl⟩:=List.append_of_mem h;exact ⟨a,b,post,.inr (by simp)⟩
  ·obtain ⟨a,b,rfl⟩:=List.append_of_mem h;exact ⟨pre,a,b,.inl (by simp)⟩
 obtain ⟨pre,mid,post,h|h⟩:=h2
 ·subst h; exact .inl (sW hd hs hall hr)
 ·subst h; exact .inr (sW hd hs hall hr)
end Go.Ord
namespace Go.Ord
variable {d:bA}
abbrev UB:=U×Int
def Bef (d:bA) (a c:UB):Prop:=at2 d a.1.exit c.1.entry≠ -1/\a.2+a.1.span+at2 d a.1.exit c.1.entry<=c.2
theorem Bef.trans (hd:WfD d) {a b c:UB} (ha:UOK d a.1) (hb:UOK d b.1) (hc:UOK d c.1) (h1:Bef d a b) (h2:Bef d b c):Bef d a c:=by
 obtain ⟨p1,p2⟩:=hd.tri _ _ _ ha.e2 hb.e1 hb.e2 h1.1 hb.way;obtain ⟨q1,q2⟩:=hd.tri _ _ _ ha.e2 hb.e2 hc.e1 p1 h2.1;refine ⟨q1,?_⟩;have:=h1.2;have:=h2.2;have:=hb.long;omega
theorem pz: ∀ {l:List UB} {s:St},(∀x∈l,x.1.low<=x.2/\x.2<=x.1.high)->l.Pairwise (Bef d)->(∀x,l.head?=some x->far d s.1 x.1≠ -1/\s.2+far d s.1 x.1<=x.2)->Run d s (l.map (·.1))
 | [],_,_,_,_=>trivial
 | a::l,s,hw,hp,hh=>by
  obtain ⟨h1,h2⟩:=hh a rfl;obtain ⟨w1,w2⟩:=hw a (by simp);rw [List.pairwise_cons] at hp;refine ⟨⟨h1,by show s.2+far d s.1 a.1<=a.1.high; omega⟩,pz (fun x hx=>hw x (by simp [hx])) hp.2 fun x hx=> ?_⟩;have hb:=hp.1 x (by cases l with|nil=>cases hx|cons y l=>simp at hx; subst hx; simp);refine ⟨hb.1,?_⟩;show kW d s a.1+a.1.span+at2 d a.1.exit x.1.entry<=x.2;have:=hb.2;have:kW d s a.1<=a.2:=by unfold kW; omega
  omega
open Classical in
theorem oF (hd:WfD d) {l:List UB} (hu: ∀x∈l,UOK d x.1) (hw: ∀x∈l,0<=x.2/\x.1.low<=x.2/\x.2<=x.1.high) (hp:l.Pairwise fun a b=>Bef d a b∨Bef d b a):Feas d (none,0) (l.map (·.1)):=by
 have key: ∀l:List UB,(∀x∈l,UOK d x.1)->l.Pairwise (fun a b=>Bef d a b∨Bef d b a)-> ∃l':List UB,l'.Perm l/\l'.Pairwise (Bef d):=by
  intro l
  induction l with
  | nil=>intro _ _; exact ⟨[],List.Perm.refl _,List.Pairwise.nil⟩
  | cons a l ih =>
   intro hu hp;rw [List.pairwise_cons] at hp;obtain ⟨l',hp',hs'⟩:=ih (fun x hx=>hu x (by simp [hx])) hp.2;refine ⟨l'.takeWhile (fun x=>decide (Bef d x a))++a::l'.dropWhile (fun x=>decide (Bef d x a)),?_,?_⟩
   ·refine List.perm_middle.trans ?_;rw [List.takeWhile_append_dropWhile];exact hp'.cons a
   ·have hsplit:l'.takeWhile (fun x=>decide (Bef d x a))++l'.dropWhile (fun x=>decide (Bef d x a))=l':=List.takeWhile_append_dropWhile;have hall: ∀x∈l',UOK d x.1:=fun x hx=>hu x (by simp [hp'.mem_iff.1 hx]);have hor: ∀x∈l',Bef d x a∨Bef d a x:=fun x hx=>(hp.1 x (hp'.mem_iff.1 hx)).symm;rw [<-hsplit,List.pairwise_append] at hs';obtain ⟨q1,q2,q3⟩:=hs';have hT: ∀x∈l'.takeWhile (fun x=>decide (Bef d x a)),Bef d x a:=by
     have: ∀(m:List UB),∀x∈m.takeWhile (fun x=>decide (Bef d x a)),Bef d x a:=by
      intro m
      induction m with
      | nil=>simp
      | cons y m ihm =>
       intro x hx;rw [List.takeWhile_cons] at hx
       split at hx
       ·rename_i hy;rcases List.mem_cons.1 hx with rfl|hx
        ·exact of_decide_eq_true hy
        ·exact ihm x hx
       ·cases hx
     exact this l'
    have hD: ∀x∈l'.dropWhile (fun x=>decide (Bef d x a)),Bef d a x:=by
     cases hDc:l'.dropWhile (fun x=>decide (Bef d x a)) with
     | nil=>simp
     | cons y m =>
      have hym: ∀x∈y::m,x∈l':=fun x hx=>by rw [<-hsplit,hDc]; simp at hx ⊢; exact .inr hx
      have hy: ¬Bef d y a:=by
       have:=List.head?_dropWhile_not (fun x=>decide (Bef d x a)) l';rw [hDc] at this;simpa using this
      have hay:Bef d a y:=(hor y (hym y (by simp))).resolve_left hy;rw [hDc,List.pairwise_cons] at q2;intro x hx;rcases List.mem_cons.1 hx with rfl|hx
      ·exact hay
      ·exact hay.trans hd (hu a (by simp)) (hall y (hym y (by simp))) (hall x (hym x (by simp [hx]))) (q2.1 x hx)
    rw [List.pairwise_append];refine ⟨q1,List.pairwise_cons.2 ⟨hD,q2⟩,fun x hx y hy=> ?_⟩;rcases List.mem_cons.1 hy with rfl|hy
    ·exact hT x hx
    ·exact q3 x hx y hy
 obtain ⟨l',hp',hs'⟩:=key l hu hp;refine ⟨l'.map (·.1),hp'.map _,pz (fun x hx=>(hw x (hp'.mem_iff.1 hx)).2) hs' fun x hx=> ?_⟩;have hm:x∈l:=hp'.mem_iff.1 (by cases l' with|nil=>cases hx|cons y m=>simp at hx; subst hx; simp);refine ⟨by simp [far],?_⟩;have:=(hw x hm).1;simp [far];omega
theorem pm (hd:WfD d): ∀ {us:List U} {s:St},qT d s->0<=s.2->(∀u∈us,UOK d u)->(∀u∈us,u.low<=u.high)->Run d s us ->
  ∃ l:List UB,l.map (·.1)=us/\(∀x∈l,0<=x.2/\x.1.low<=x.2/\x.2<=x.1.high/\far d s.1 x.1≠ -1/\s.2+far d s.1 x.1<=x.2)/\l.Pairwise (Bef d)
 | [],s,_,_,_,_,_=>⟨[],rfl,by simp,List.Pairwise.nil⟩
 | u::us,s,hs,h0,hu,hw,hr=>by
  have hok:=hu u (by simp);have hsp:=qZ hd hok;have hfar:0<=far d s.1 u:=by
   have h1:=hr.1.1;obtain ⟨o,t⟩:=s
   cases o with
   | none=>simp [far]
   | some x=>exact oZ hd (hs x rfl) hok.e1 h1
  have hbeg:s.2+far d s.1 u<=kW d s u:=by unfold kW; omega
  obtain ⟨l,h1,h2,h3⟩:=pm hd (us:=us) (s:=nxt d s u) (nI hok) (by show 0<=kW d s u+u.span; omega) (fun x hx=>hu x (by simp [hx])) (fun x hx=>hw x (by simp [hx])) hr.2;refine ⟨(u,kW d s u)::l,by simp [h1],?_,List.pairwise_cons.2 ⟨fun x hx=> ?_,h3⟩⟩
  ·intro x hx;rcases List.mem_cons.1 hx with rfl|hx
   ·have h4:=hr.1.2;have h5:=hw u (by simp);refine ⟨by show 0<=kW d s u; omega,by show u.low<=kW d s u; unfold kW; omega,by show kW d s u<=u.high; unfold kW; omega,hr.1.1,hbeg⟩
   ·obtain ⟨a1,a2,a3,a4,a5⟩:=h2 x hx;have hxu:UOK d x.1:=hu x.1 (by rw [<-h1]; simp; exact .inr ⟨x.2,hx⟩);obtain ⟨b1,b2⟩:=oW hd hs hok hr.1 x.1 hxu a4;exact ⟨a1,a2,a3,b1,by omega⟩
  ·obtain ⟨a1,a2,a3,a4,a5⟩:=h2 x hx;exact ⟨a4,a5⟩
theorem oo (hd:WfD d) {us:List U} (hu: ∀u∈us,UOK d u) (hw: ∀u∈us,u.low<=u.high) (h:Feas d (none,0) us) :
  ∃ l:List UB,(l.map (·.1)).Perm us/\(∀x∈l,0<=x.2/\x.1.low<=x.2/\x.2<=x.1.high)/\l.Pairwise (Bef d):=by
 obtain ⟨o,hp,hr⟩:=h;obtain ⟨l,h1,h2,h3⟩:=pm hd (us:=o) (s:=(none,0)) (fun x hx=>by cases hx) (Int.le_refl _) (fun u hu'=>hu u (hp.mem_iff.1 hu')) (fun u hu'=>hw u (hp.mem_iff.1 hu')) hr;exact ⟨l,by rw [h1]; exact hp,fun x hx=>⟨(h2 x hx).1,(h2 x hx).2.1,(h2 x hx).2.2.1⟩,h3⟩
end Go.Ord
namespace Go.Ord
variable {d:bA}
structure Ev where
 office:Int
 low:Int
 high:Int
 needs:List Int
def dF (e:Ev):Int:=min (max e.low 0) 1000001
def bM (e:Ev):Int:=max (min e.high 1000000) (-1)
def gZ (e:Ev):U:=⟨dF e,bM e,0,e.office.toNat,e.office.toNat⟩
structure EOK (d:bA) (e:Ev):Prop where
 o1:0<=e.office
 o2:e.office<d.length
theorem qy (hd:WfD d) {e:Ev} (h:EOK d e):UOK d (gZ e):=by
 have:e.office.toNat<d.length:=by have:=h.o1; have:=h.o2; omega
 exact ⟨this,this,by rw [show at2 d (gZ e).entry (gZ e).exit=at2 d e.office.toNat e.office.toNat from rfl,hd.diag _ this]; decide,by rw [show at2 d (gZ e).entry (gZ e).exit=at2 d e.office.toNat e.office.toNat from rfl,hd.diag _ this]; exact Int.le_refl _⟩
abbrev ET:=Ev×Int
def EN (d:bA) (a b:ET):Prop:=at2 d a.1.office.toNat b.1.office.toNat≠ -1/\at2 d a.1.office.toNat b.1.office.toNat<=b.2-a.2
structure HoldsN (d:bA) (l:List ET):Prop where
 each: ∀x∈l,0<=x.2/\x.2<=1000000/\x.1.low<=x.2/\x.2<=x.1.high
 two:l.Pairwise fun a b=>EN d a b∨EN d b a
def Poss (d:bA) (evs:List Ev):Prop:= ∃l:List ET,l.map (·.1)=evs/\HoldsN d l
theorem jo {α:Type} {R:α->α->Prop}: ∀ {l l':List α},l.Perm l'->l.Pairwise (fun a b=>R a b∨R b a)->l'.Pairwise (fun a b=>R a b∨R b a):=fun hp h=>hp.pairwise h (fun h=>h.symm)
theorem pW (hd:WfD d) {evs:List Ev} (he: ∀e∈evs,EOK d e) {us:List U} (hp:us.Perm (evs.map gZ)):Poss d evs↔(∀u∈us,u.low<=u.high)/\Feas d (none,0) us:=by
 constructor
 ·rintro ⟨l,rfl,h⟩;have hwin: ∀x∈l,(gZ x.1).low<=x.2/\x.2<=(gZ x.1).high:=by
   intro x hx;obtain ⟨h1,h2,h3,h4⟩:=h.each x hx;show dF x.1<=x.2/\x.2<=bM x.1;unfold dF bM;omega
  refine ⟨fun u hu=> ?_,?_⟩
  ·have:=hp.mem_iff.1 hu;rw [List.map_map,List.mem_map] at this;obtain ⟨x,hx,rfl⟩:=this;have:=hwin x hx;show (gZ x.1).low<=(gZ x.1).high;omega
  ·have hf:=oF hd (l:=l.map fun x=>(gZ x.1,x.2)) ?_ ?_ ?_
   ·obtain ⟨o,h1,h2⟩:=hf;refine ⟨o,?_,h2⟩;refine h1.trans ?_;rw [List.map_map];refine List.Perm.trans ?_ hp.symm;rw [List.map_map];exact List.Perm.refl _
   ·intro x hx;rw [List.mem_map] at hx;obtain ⟨y,hy,rfl⟩:=hx;exact qy hd (he _ (List.mem_map.2 ⟨y,hy,rfl⟩))
   ·intro x hx;rw [List.mem_map] at hx;obtain ⟨y,hy,rfl⟩:=hx;exact ⟨(h.each y hy).1,hwin y hy⟩
   ·rw [List.pairwise_map];refine h.two.imp fun {a b} hab=> ?_;rcases hab with q|q
    ·exact .inl ⟨q.1,by show a.2+0+at2 d a.1.office.toNat b.1.office.toNat<=b.2; have:=q.2; omega⟩
    ·exact .inr ⟨q.1,by show b.2+0+at2 d b.1.office.toNat a.1.office.toNat<=a.2; have:=q.2; omega⟩
 ·rintro ⟨hw,hf⟩;have hu: ∀u∈us,UOK d u:=fun u hu=>by
   have:=hp.mem_iff.1 hu;rw [List.mem_map] at this;obtain ⟨e,hx,rfl⟩:=this;exact qy hd (he e hx)
  obtain ⟨l,h1,h2,h3⟩:=oo hd hu hw hf;have key: ∀(evs:List Ev) (l:List UB),(l.map (·.1)).Perm (evs.map gZ)->l.Pairwise (fun a b=>Bef d a b∨Bef d b a)-> ∃m:List ET,m.map (·.1)=evs/\(m.map fun x=>(gZ x.1,x.2)).Perm l:=by
   intro evs
   induction evs with
   | nil =>
    intro l hl _;have:l= []:=by
     have:=hl.length_eq;simp at this;exact this
    subst this
    exact ⟨[],rfl,List.Perm.refl _⟩
   | cons e evs ih =>
    intro l hl hpw;have hm:gZ e∈l.map (·.1):=hl.mem_iff.2 (by simp);rw [List.mem_map] at hm;obtain ⟨x,hx,hxe⟩:=hm;obtain ⟨pre,post,rfl⟩:=List.append_of_mem hx;have h4:((pre++post).map (·.1)).Perm (evs.map gZ):=by
     have q:((pre++x::post).map (·.1)).Perm (gZ e::(pre++post).map (·.1)):=by
      rw [<-hxe];exact (List.perm_middle (a:=x) (l₁:=pre) (l₂:=post)).map (fun y:UB=>y.1)
     have q2:(gZ e::(pre++post).map (·.1)).Perm (gZ e::evs.map gZ):=q.symm.trans (by simpa using hl);exact List.Perm.cons_inv q2
    have hpw':(x::(pre++post)).Pairwise (fun a b=>Bef d a b∨Bef d b a):=jo List.perm_middle hpw;obtain ⟨m,hm1,hm2⟩:=ih (pre++post) h4 (List.pairwise_cons.1 hpw').2;refine ⟨(e,x.2)::m,by simp [hm1],?_⟩;refine List.Perm.trans ?_ List.perm_middle.symm;have:(gZ e,x.2)=x:=by rw [<-hxe]
    rw [List.map_cons];show ((gZ e,x.2)::_).Perm _;rw [this];exact hm2.cons x
  have hor:l.Pairwise (fun a b=>Bef d a b∨Bef d b a):=h3.imp fun h=> .inl h;obtain ⟨m,hm1,hm2⟩:=key evs l (h1.trans hp) hor;refine ⟨m,hm1,fun x hx=> ?_,?_⟩
  ·have hxl:(gZ x.1,x.2)∈l:=hm2.mem_iff.1 (List.mem_map.2 ⟨x,hx,rfl⟩);obtain ⟨a1,a2,a3⟩:=h2 _ hxl;have a2:dF x.1<=x.2:=a2;have a3:x.2<=bM x.1:=a3;unfold dF at a2;unfold bM at a3;have a1:0<=x.2:=a1;refine ⟨a1,by omega,by omega,by omega⟩
  ·have hpm:=jo hm2.symm hor;rw [List.pairwise_map] at hpm;refine hpm.imp fun {a b} hab=> ?_;rcases hab with q|q
   ·refine .inl ⟨q.1,?_⟩;have:a.2+0+at2 d a.1.office.toNat b.1.office.toNat<=b.2:=q.2;omega
   ·refine .inr ⟨q.1,?_⟩;have:b.2+0+at2 d b.1.office.toNat a.1.office.toNat<=a.2:=q.2;omega
theorem Poss.sub {evs evs':List Ev} (h:Poss d evs) (hs:evs'.Sublist evs):Poss d evs':=by
 obtain ⟨l,rfl,h1⟩:=h;obtain ⟨l',h2,rfl⟩:=List.sublist_map_iff.1 hs;exact ⟨l',rfl,fun x hx=>h1.each x (h2.subset hx),h1.two.sublist h2⟩
end Go.Ord
namespace Go.PF
noncomputable def dec (p:Prop):Bool:= @decide p (Classical.propDecidable p)
theorem dec_iff {p:Prop}:dec p=true↔p:= @decide_eq_true_iff p (Classical.propDecidable p)
theorem ay {p:Prop} (h:p):dec p=true:=dec_iff.2 h
theorem az {p:Prop} (h: ¬p):dec p=false:=by
 cases hd:dec p with
 | false=>rfl
 | true=>exact absurd (dec_iff.1 hd) h
theorem fJ {p q:Prop} (h:p↔q):dec p=dec q:=by rw [show p=q from propext h]
theorem uT {p:Prop} [Decidable p]:dec p=decide p:=by
 by_cases h:p
 ·rw [ay h]; simp [h]
 ·rw [az h]; simp [h]
theorem nb {p:Prop} [Decidable p] (h:(!decide p)=true): ¬p:=by simpa using h
theorem Nn {p:Prop} (h:(!dec p)=true): ¬p:=fun hp=>by rw [ay hp] at h; cases h
theorem Kz {p:Prop} (h:(!dec p)=false):p:=dec_iff.1 (by simpa using h)
end Go.PF
namespace Go.Ord
open Go.PF
structure RowOK (d:bA) (i:Nat) (r:List Int):Prop where
 len:r.length=d.length
 diag:r[i]?=some 0
 rng: ∀(j:Nat) (x:Int),r[j]?=some x-> -1<=x/\x<=1000000
def EM (d:bA) (i k j:Nat):Prop:=at2 d i k≠ -1->at2 d k j≠ -1->at2 d i j≠ -1/\at2 d i j<=at2 d i k+at2 d k j
theorem gH {d:bA} {i j:Nat} {r:List Int} {x:Int} (hr:d[i]?=some r) (hx:r[j]?=some x):at2 d i j=x:=by
 unfold at2;simp [List.getD_eq_getElem?_getD,hr,hx]
theorem zQ {d:bA} (h1:d.length<=12) (h2: ∀(i:Nat) (r:List Int),d[i]?=some r->RowOK d i r) (h3: ∀i k j,i<d.length->k<d.length->j<d.length->EM d i k j):WfD d:=by
 refine ⟨h1,fun i r hr=>(h2 i r hr).len,fun i hi=> ?_,fun i j hi hj=> ?_,h3⟩
 ·have hr:d[i]?=some d[i]:=ZD hi;exact gH hr (h2 i _ hr).diag
 ·have hr:d[i]?=some d[i]:=ZD hi;have hl:=(h2 i _ hr).len;have hx:d[i][j]?=some (d[i][j]'(by omega)):=ZD (by omega);rw [gH hr hx];exact (h2 i _ hr).rng j _ hx
theorem WfD.rowOK {d:bA} (h:WfD d) {i:Nat} {r:List Int} (hr:d[i]?=some r):RowOK d i r:=by
 have hi:=(ZE hr).1;have hl:=h.row i r hr;refine ⟨hl,?_,fun j x hx=> ?_⟩
 ·have hx:r[i]?=some (r[i]'(by omega)):=ZD (by omega);have:=h.diag i hi;rw [gH hr hx] at this;rw [hx,this]
 ·have hj:=(ZE hx).1;have:=h.rng i j hi (by omega);rw [gH hr hx] at this;exact this
end Go.Ord
namespace Go.PF
open Go.RowKit
class En (P:Program) (k:FuncId):Prop where
 q:enters P k=true
class FnI (P:Program) (k:FuncId) (fn:outParam Func) (N:outParam Nat):Prop where
 q:P.funcs[k]?=some fn
 n:fn.ntmps=N
class Sr (P:Program) (t:TypeId) (n:outParam Nat):Prop where
 u: ∃fs,P.underlying t=some (.struct fs)
 s:(P.info? t).map (·.size)=some n
section
variable {P:Program} {r:Option Nat} {Q:Exit->Act->World->Prop} {N:Nat} {ds:List Deferred} {ops rest:List Oper} {E:Env} {D:DE} {w:World} {G:Option Bool} {Fin:DE->Prop} {md:Mode}
variable {d:Option Tmp} {ty:TypeId} {pos:String} {af:Array Edge} {gu:Option (Nat×Bool)}
variable {x y z:Operand} {cx cy cz:Option Bool} {ρ:Operand->Value}
theorem ag {p q:Prop} (next:q) (imp:q->p:=by
  intro hq
  repeat (first
   | ((first|apply aT aX|apply aT df|apply aT KM|apply aT KN|apply aT KO|apply aT KP|apply aT uz|apply aT zH|apply aT nD|apply aT CV|apply aT KL|apply aT wo|apply aT gI|apply aT kQ|apply aT dW|apply aT jO|apply aT (BL rfl)|apply aT zG|apply aT zF|apply aT CX); exact rfl; (first|exact ⟨ct,trivial⟩|exact ⟨ct,ct,trivial⟩|exact ⟨id,trivial⟩|(clear hq; repeat (first|exact trivial|(apply And.intro; (first|exact ct|exact id|exact kz|(simp_all [aV]; done)))))); (first|exact fun _=>trivial|exact fun _=>rfl|(clear hq; intro h; (try dsimp only); (first|omega|(simp [aV] at h; omega)))))
   | (apply Ex; exact rfl; exact rfl; exact rfl; (first|exact ct|exact id|exact kz|(clear hq; simp_all [aV]; done)); exact rfl; (first|exact pT|exact Jw|exact Jv|exact Co|exact Cn))
   | (apply fO; exact rfl; exact rfl; exact rfl; (first|exact ct|exact id|exact kz|(clear hq; simp_all [aV]; done)); exact rfl; (first|exact pT|exact Jw|exact Jv|exact Co|exact Cn))
   | ((first|apply aT Iy|apply aT Iw|apply aT rR); exact rfl; (first|exact ⟨ct,trivial⟩|exact ⟨ct,ct,trivial⟩|exact ⟨id,trivial⟩|(clear hq; repeat (first|exact trivial|(apply And.intro; (first|exact ct|exact id|exact kz|(simp_all [aV]; done)))))); (first|exact fun _=>trivial|exact fun _=>rfl|(clear hq; intro h; (try dsimp only); (first|omega|(simp [aV] at h; omega)))))
   | ((first|apply aT Iz); exact rfl; (first|exact ⟨ct,trivial⟩|exact ⟨ct,ct,trivial⟩|exact ⟨id,trivial⟩|(clear hq; repeat (first|exact trivial|(apply And.intro; (first|exact ct|exact id|exact kz|(simp_all [aV]; done)))))); (first|exact fun _=>trivial|exact fun _=>rfl|(clear hq; intro h; (try dsimp only); (first|omega|(simp [aV] at h; omega)))))
   | (apply Ez; exact rfl; exact rfl; exact Und.q; exact rfl; (first|exact ct|exact id|exact kz|(clear hq; simp_all [aV]; done)))
   | refine bG ?_
   | refine cO ?_
   | refine bE ?_
   | refine aD ?_
   | refine fQ ?_
   | refine fU ?_
   | refine pg ?_
   | refine IJ ?_
   | refine bP ?_
   | refine Kk ?_
   | refine EH ?_
   | refine II ?_
   | (refine EG ?_ ?_; exact rfl)
   | refine EI ?_
   | refine IQ ?_
   | refine EE ?_
   | refine EC ?_
   | refine ED ?_
   | refine IV ?_
   )
  exact hq):p:=imp next
theorem aZ {p q:Prop} (next:q) (imp:q->p:=by
  intro hq
  repeat (first
   | ((first|apply bL aX|apply bL df|apply bL KM|apply bL KN|apply bL KO|apply bL KP|apply bL uz|apply bL zH|apply bL nD|apply bL CV|apply bL KL|apply bL wo|apply bL gI|apply bL kQ|apply bL dW|apply bL jO|apply bL (BL rfl)|apply bL zG|apply bL zF|apply bL CX); exact rfl; (first|exact ⟨ct,trivial⟩|exact ⟨ct,ct,trivial⟩|exact ⟨id,trivial⟩|(clear hq; repeat (first|exact trivial|(apply And.intro; (first|exact ct|exact id|exact kz|(simp_all [aV]; done)))))); (first|exact fun _=>trivial|exact fun _=>rfl|(clear hq; intro h; (try dsimp only); (first|omega|(simp [aV] at h; omega)))))
   | (apply EJ; exact rfl; exact rfl; exact rfl; (first|exact ct|exact id|exact kz|(clear hq; simp_all [aV]; done)); exact rfl; (first|exact pT|exact Jw|exact Jv|exact Co|exact Cn))
   | (apply BU; exact rfl; exact rfl; exact rfl; (first|exact ct|exact id|exact kz|(clear hq; simp_all [aV]; done)); exact rfl; (first|exact pT|exact Jw|exact Jv|exact Co|exact Cn))
   | ((first|apply bL Iy|apply bL Iw|apply bL rR); exact rfl; (first|exact ⟨ct,trivial⟩|exact ⟨ct,ct,trivial⟩|exact ⟨id,trivial⟩|(clear hq; repeat (first|exact trivial|(apply And.intro; (first|exact ct|exact id|exact kz|(simp_all [aV]; done)))))); (first|exact fun _=>trivial|exact fun _=>rfl|(clear hq; intro h; (try dsimp only); (first|omega|(simp [aV] at h; omega)))))
   | ((first|apply bL Iz); exact rfl; (first|exact ⟨ct,trivial⟩|exact ⟨ct,ct,trivial⟩|exact ⟨id,trivial⟩|(clear hq; repeat (first|exact trivial|(apply And.intro; (first|exact ct|exact id|exact kz|(simp_all [aV]; done)))))); (first|exact fun _=>trivial|exact fun _=>rfl|(clear hq; intro h; (try dsimp only); (first|omega|(simp [aV] at h; omega)))))
   )
  exact hq):p:=imp next
theorem yI: ∀ {E E':Env} {i:Nat} {c:Option Bool} {v:Value},look (E++E') i=some (c,v)->look E i=some (c,v)∨look E' i=some (c,v)
 | [],_,_,_,_,h=> .inr h
 | (j,c',v')::E,E',i,c,v,h=>by
  simp only [List.cons_append,look] at h ⊢
  cases hb:Nat.beq j i with
  | true=>rw [hb] at h; exact .inl h
  | false=>rw [hb] at h; exact yI h
theorem Fit.app {E E':Env} {a:Act} (h:Fit N ds E a) (h':Fit N ds E' a):Fit N ds (E++E') a:=⟨h.size,h.defers,fun i c v hl=>(yI hl).elim (h.slots i c v) (h'.slots i c v)⟩
theorem jw (is:List Nat) {E':Env} (hp:PF.pick E is=some E') (h:TW P r Q N ds ops rest E' w):TW P r Q N ds ops rest E w:=fun a ha=>h a (ha.pick hp)
theorem aI {c:Code} (is:List Nat) {E':Env} (hp:PF.pick E is=some E') (h:CW P r Q N ds c E' w):CW P r Q N ds c E w:=qx is E' hp h
theorem aj {t:TypeId} {ad:Addr} {v:Value} [One P t] (h:(gd ops E gu,be N d,ev E x)=(some G,true,some (cx,.pointer (some ad)))) (hc:w.cell? ad=some v)
  (next:TW P r Q N ds ops rest (ins E d G v) w) (ix:aV G->aV cx:=by first|exact ct|exact id|exact kz|(simp_all [aV]; done)):TW P r Q N ds ops (⟨d,.load t x,ty,pos,af,gu⟩::rest) E w:=by
 simp only [Prod.mk.injEq] at h;exact J9 h.1 h.2.1 One.q h.2.2 ix (fun _=>hc) next
theorem aB {t:TypeId} {ad:Addr} {v:Value} [One P t] (h:(iY ops D gu,be N d,dev D x)=(some G,true,some (cx,.ex (.pointer (some ad))))) (hc:w.cell? ad=some v)
  (next:DW P N ds md ops w Fin rest (dM D d G (.ex v))) (ix:aV G->aV cx:=by first|exact ct|exact id|exact kz|(simp_all [aV]; done)):DW P N ds md ops w Fin (⟨d,.load t x,ty,pos,af,gu⟩::rest) D:=by
 simp only [Prod.mk.injEq] at h;exact xz h.1 h.2.1 One.q h.2.2 ix (fun _=>hc) next
def evs (E:Env):List Operand->Option (List Value)
 | []=>some []
 | x::xs=>match ev E x with
  | some (none,v)=>match evs E xs with
   | some vs=>some (v::vs)
   | none=>none
  | _=>none
theorem zb: ∀ {xs:List Operand} {vs:List Value},evs E xs=some vs->Args N ds E G xs vs
 | [],vs,h=>by simp [evs] at h; subst h; exact ah
 | x::xs,vs,h=>by
  simp only [evs] at h
  split at h
  ·rename_i v hv
   split at h
   ·rename_i us hu;simp only [Option.some.injEq] at h;subst h;exact aa hv ct (zb hu)
   ·cases h
  ·cases h
theorem aA {k:FuncId} {xs:List Operand} {vs:List Value} {ts:Array TypeId} {R:Value->World->Prop} [En P k] (h:(be N d,evs E xs)=(true,some vs)) (hc:Gives P k vs.toArray w R)
  (next: ∀v w',R v w'->TW P r Q N ds ops rest (ins E d none v) w'):TW P r Q N ds ops (⟨d,.call ⟨.value (.func k),xs.toArray,ts⟩,ty,pos,af,none⟩::rest) E w:=by
 simp only [Prod.mk.injEq] at h;exact bK (cap:= []) rfl h.1 En.q rfl (zb h.2) (by simpa using hc) next
def H9 (D:DE):List Operand->Option (List Value)
 | []=>some []
 | x::xs=>match dev D x with
  | some (none,.ex v)=>match H9 D xs with
   | some vs=>some (v::vs)
   | none=>none
  | _=>none
theorem vR {L:List Nat}: ∀ {xs:List Operand} {vs:List Value},H9 D xs=some vs->DArgs L N ds D G xs vs
 | [],vs,h=>by simp [H9] at h; subst h; exact aP
 | x::xs,vs,h=>by
  simp only [H9] at h
  split at h
  ·rename_i v hv
   split at h
   ·rename_i us hu;simp only [Option.some.injEq] at h;subst h;exact ax hv ct (vR hu)
   ·cases h
  ·cases h
theorem fE {k:FuncId} {xs:List Operand} {vs:List Value} {ts:Array TypeId} [En P k] (e:Ent) (hm:e.mono) (h:(iY ops D gu,be N d,H9 D xs)=(some G,true,some vs))
  (hc:aV G-> ∀w',Below w.heap.size w w'->Gives P k vs.toArray w' fun v w''=>Below w'.heap.size w' w''/\e.sat v w'')
  (next:DW P N ds .weak ops w Fin rest (dM D d G e)):DW P N ds .weak ops w Fin (⟨d,.call ⟨.value (.func k),xs.toArray,ts⟩,ty,pos,af,gu⟩::rest) D:=by
 simp only [Prod.mk.injEq] at h;exact dw (cap:= []) e hm h.1 h.2.1 En.q rfl ct (vR h.2.2) (fun g w' hb=>by simpa using hc g w' hb) next
theorem aF {t:TypeId} {ad:Addr} {cs:List Value} {n:Nat} [Sr P t n] (h:(gd ops E gu,be N d,ev E x)=(some G,true,some (cx,.pointer (some ad)))) (hc: ∀j v,cs[j]?=some v->w.cell? (ad.add j)=some v)
  (next:TW P r Q N ds ops rest (ins E d G (.agg cs.toArray)) w) (hl:cs.length=n:=by rfl) (ix:aV G->aV cx:=by first|exact ct|exact id|exact kz|(simp_all [aV]; done)):TW P r Q N ds ops (⟨d,.load t x,ty,pos,af,gu⟩::rest) E w:=by
 simp only [Prod.mk.injEq] at h;obtain ⟨fs,hu⟩:=Sr.u (P:=P) (t:=t);exact IA cs h.1 h.2.1 hu Sr.s h.2.2 ix (fun _=>hc) hl next
theorem dx {t:TypeId} {ad:Addr} {cs:List Value} {n:Nat} [Sr P t n] (h:(iY ops D gu,be N d,dev D x)=(some G,true,some (cx,.ex (.pointer (some ad))))) (hc: ∀j v,cs[j]?=some v->w.cell? (ad.add j)=some v)
  (next:DW P N ds md ops w Fin rest (dM D d G (.ex (.agg cs.toArray)))) (hl:cs.length=n:=by rfl) (ix:aV G->aV cx:=by first|exact ct|exact id|exact kz|(simp_all [aV]; done)):DW P N ds md ops w Fin (⟨d,.load t x,ty,pos,af,gu⟩::rest) D:=by
 simp only [Prod.mk.injEq] at h;obtain ⟨fs,hu⟩:=Sr.u (P:=P) (t:=t);exact IP cs h.1 h.2.1 hu Sr.s h.2.2 ix (fun _=>hc) hl next
theorem bR {K:Act->World->Prop} (is:List Nat) {E':Env} (hp:oG D is=some E') (h: ∀w',Below w.heap.size w w'->KW N ds K E' w'):DW P N ds md ops w (fun D=> ∀a w',Below w.heap.size w w'->FitD N ds D a w'->K a w') [] D:=dD (iv is E' hp h)
theorem gv {f:FuncId} {fn:Func} {c:Code} {vs:List Value} {R:Value->World->Prop} [FnI P f fn N]
  (h:CW P none (bodyPost P fn fun e w'=> ∃v,e= .returned v/\R v w') N [] c (l9 vs 0) w) (hb:fn.body=some c:=by rfl) (hle:Nat.ble vs.length N=true:=by rfl):Gives P f vs.toArray w R:=Hm _ FnI.q hb (FnI.n P f) hle rfl h
theorem LX {f:FuncId} {fn:Func} {c:Code} {vs:List Value} {R:Value->World->Prop} [FnI P f fn N]
  (h:CW P none (bodyPostM (FR none) 0 P fn fun e w'=> ∃v,e= .returned v/\R v w') N [] c (l9 vs 0) w) (hb:fn.body=some c:=by rfl) (hle:Nat.ble vs.length N=true:=by rfl):Gives P f vs.toArray w R:=Ec _ FnI.q hb (FnI.n P f) hle rfl h
theorem aJ {α:Type} {c:Code} {K:Env} (ks:List Nat) (F:α->Env) (J:α->World->Prop) (m:α->Nat) (x0:α) (h0:J x0 w)
  (round: ∀x w,J x w->CW P r (Exit.then (fun a' w'=> ∃x',Fit N ds (F x'++K) a'/\J x' w'/\m x'<m x) Q) N ds c (F x++K) w)
  (hK:PF.pick E ks=some K:=by rfl) (hE:PF.pick E ((F x0).map (·.1))=some (F x0):=by rfl):CW P r Q N ds (.loop c) E w :=
 Da (fun x=>F x++K) J m x0 h0 (fun _ ha=>(ha.pick hE).app (ha.pick hK)) round
theorem aC {α:Type} {F:α->Env} {K:Env} {J:α->World->Prop} {m:α->Nat} {x:α} (x':α) (hJ:J x' w) (hm:m x'<m x:=by (try dsimp only); omega)
  (hp:PF.pick E ((F x'++K).map (·.1))=some (F x'++K):=by rfl):KW N ds (Exit.then (fun a' w'=> ∃x',Fit N ds (F x'++K) a'/\J x' w'/\m x'<m x) Q .normal) E w :=
 fun _ ha=>⟨x',ha.pick hp,hJ,hm⟩
variable {fn:Func} {R:Value->World->Prop} {s t:Nat} {v u:Value}
theorem aW (h:(fn.results,look E s)=(#[.tmp s],some (none,v))) (hR:R v w):KW N [] (bodyPost P fn (fun e w'=> ∃v,e= .returned v/\R v w') .ret) E w:=by
 simp only [Prod.mk.injEq] at h;exact Ot h.1 h.2 hR
theorem jH (h:(fn.results,look E s,look E t)=(#[.tmp s,.tmp t],some (none,v),some (none,u))) (hR:R (.tuple #[v,u]) w):KW N [] (bodyPost P fn (fun e w'=> ∃v,e= .returned v/\R v w') .ret) E w:=by
 simp only [Prod.mk.injEq] at h;exact Oq h.1 h.2.1 h.2.2 hR
end
end Go.PF
