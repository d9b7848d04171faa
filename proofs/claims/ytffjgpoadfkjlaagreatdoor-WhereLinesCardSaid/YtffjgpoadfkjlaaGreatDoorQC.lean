/- Texts of this claim,joined. -/
import Derived.Test.YtffjgpoadfkjlaaGreatDoorQB
import Derived.Scope
import Derived.Laws.IdiomStrings
import Derived.Laws.Strings3
import Derived.Laws.Runes
import Derived.DataElems
set_option linter.unusedSimpArgs false
set_option linter.unusedVariables false
set_option maxRecDepth 100000
set_option maxHeartbeats 4000000
namespace Go.PF
open Go.RowKit
theorem dlook_ddrop: ∀(D:DE) (s:List Nat) (i:Nat),dlook (ddrop D s) i=if hasN s i=true then none else dlook D i
 | [],s,i=>by simp [ddrop,dlook]
 | (j,c,e)::D,s,i=>by
  have ih:=dlook_ddrop D s i
  simp only [ddrop]
  cases hj:hasN s j with
  | true =>
   simp only [ih,dlook]
   by_cases hji:j=i
   ·subst hji; rw [beq_self]; simp [hj]
   ·rw [beq_ne hji]
  | false =>
   simp only [dlook]
   by_cases hji:j=i
   ·subst hji; rw [beq_self]; simp [hj]
   ·rw [beq_ne hji]; exact ih
theorem hasN_iff {s:List Nat} {i:Nat}:hasN s i=true↔i∈s:=by
 induction s with
 | nil=>simp [hasN]
 | cons j t ih =>
  simp only [hasN,List.mem_cons]
  by_cases hji:j=i
  ·subst hji; rw [beq_self]; simp
  ·rw [beq_ne hji,ih]
   exact ⟨fun h=> .inr h,fun h=>h.resolve_left (fun e=>hji e.symm)⟩
theorem one_of_filter {α:Type} {p:α→Bool}: ∀ {l:List α} {i j:Nat} {a b:α},(l.filter p).length≤1→l[i]?=some a→p a=true→l[j]?=some b→p b=true→i=j
 | [],i,j,a,b,_,h,_,_,_=>by simp at h
 | x::l,0,0,a,b,_,_,_,_,_=>rfl
 | x::l,0,j+1,a,b,hl,ha,hpa,hb,hpb=>by
  simp at ha hb; subst ha
  rw [List.filter_cons_of_pos hpa] at hl
  have:b∈l.filter p:=List.mem_filter.2 ⟨List.mem_of_getElem? hb,hpb⟩
  have:=List.length_pos_of_mem this
  rw [List.length_cons] at hl; omega
 | x::l,i+1,0,a,b,hl,ha,hpa,hb,hpb=>by
  simp at ha hb; subst hb
  rw [List.filter_cons_of_pos hpb] at hl
  have:a∈l.filter p:=List.mem_filter.2 ⟨List.mem_of_getElem? ha,hpa⟩
  have:=List.length_pos_of_mem this
  rw [List.length_cons] at hl; omega
 | x::l,i+1,j+1,a,b,hl,ha,hpa,hb,hpb=>by
  simp at ha hb
  have hl':(l.filter p).length≤1:=by
   by_cases hx:p x=true
   ·rw [List.filter_cons_of_pos hx,List.length_cons] at hl; omega
   ·rw [List.filter_cons_of_neg hx] at hl; exact hl
  rw [one_of_filter hl' ha hpa hb hpb]
structure Disc (w0:World) where
 rel:World→Prop
 tok:Oper→Bool
 lock:World→Prop
 still:World→World→Prop
 lock_still: ∀w w',still w w'→lock w→lock w'
 still_refl: ∀w,still w w
 fin:World→Prop
 fin_still: ∀w w',still w w'→fin w→fin w'
 good:Bool→Ent→Prop
 foot:Ent→Value→Nat→Prop
 step:World→World→(Nat→Prop)→Prop
 foot_ex: ∀v u g,¬foot (.ex v) u g
 step_refl: ∀w E,step w w E
 rel_step: ∀w w' E,rel w→step w w' E→rel w'
 keep: ∀b e,good b e→ ∀v w w' E,rel w→step w w' E→(b=true→still w w')→(∀g,foot e v g→ ¬E g)→e.sat v w→e.sat v w'
 bound: ∀b e,good b e→ ∀v w,e.sat v w→ ∀g,foot e v g→g<w.heap.size
 inv:World→Prop
 inv_step: ∀w w' E,step w w' E→inv w→inv w'
def weakD (w0:World):Disc w0 where
 rel:=Below w0.heap.size w0
 tok:=fun _=>false
 lock:=fun _=>True
 still:=fun _ _=>True
 lock_still:=fun _ _ _ h=>h
 still_refl:=fun _=>trivial
 fin:=fun _=>True
 fin_still:=fun _ _ _ h=>h
 good:=fun _=>Ent.mono
 foot:=fun _ _ _=>False
 step:=fun w w' _=>Below w.heap.size w w'
 foot_ex:=fun _ _ _ h=>h
 step_refl:=fun w _=>Below.refl _ w
 rel_step:=fun w w' _ hb h=>hb.trans (h.mono hb.size)
 keep:=fun _ e hm v w w' E _ hs _ _ h=>Ent.sat_mono hm hs h
 bound:=fun _ _ _ _ _ _ _ h=>h.elim
 inv:=fun _=>True
 inv_step:=fun _ _ _ _ _=>trivial
def cntD (w0:World) (d0:Nat):Disc w0 where
 rel:=Below w0.heap.size w0
 tok:=fun _=>false
 lock:=fun _=>True
 still:=fun _ _=>True
 lock_still:=fun _ _ _ h=>h
 still_refl:=fun _=>trivial
 fin:=fun _=>True
 fin_still:=fun _ _ _ h=>h
 good:=fun _=>Ent.mono
 foot:=fun _ _ _=>False
 step:=fun w w' _=>Below w.heap.size w w'∧w.drawn≤w'.drawn
 foot_ex:=fun _ _ _ h=>h
 step_refl:=fun w _=>⟨Below.refl _ w,Nat.le_refl _⟩
 rel_step:=fun w w' _ hb h=>hb.trans (h.1.mono hb.size)
 keep:=fun _ e hm v w w' E _ hs _ _ h=>Ent.sat_mono hm hs.1 h
 bound:=fun _ _ _ _ _ _ _ h=>h.elim
 inv:=fun w=>d0≤w.drawn
 inv_step:=fun _ _ _ h h'=>Nat.le_trans h' h.2
def ownD (w0:World):Disc w0 where
 rel:=Below w0.heap.size w0
 tok:=fun _=>false
 lock:=fun _=>True
 still:=fun _ _=>True
 lock_still:=fun _ _ _ h=>h
 still_refl:=fun _=>trivial
 fin:=fun _=>True
 fin_still:=fun _ _ _ h=>h
 good:=fun _=>Ent.strong w0
 foot:=Ent.foot
 step:=StepO w0
 foot_ex:=fun _ _ _ h=>h
 step_refl:=fun w _=>⟨Below.refl _ w,fun _ _ _ _=>rfl⟩
 rel_step:=fun w w' _ hb h=>hb.trans h.1
 keep:=fun _ e hs v w w' E _ hst _ hE h=>by
  cases e with
  | ex u=>exact h
  | pr φ=>exact hs v w w' hst.1 h
  | own φ S =>
   refine hs.1 v w w' hst.1 (fun g hg=> ?_) h
   obtain ⟨h1,h2⟩:=hs.2 v w h g hg
   exact hst.2 g h1 h2 (hE g hg)
 bound:=fun _ e hs v w h g hg=>by
  cases e with
  | ex u=>exact hg.elim
  | pr φ=>exact hg.elim
  | own φ S=>exact (hs.2 v w h g hg).2
 inv:=fun _=>True
 inv_step:=fun _ _ _ _ _=>trivial
section sound
variable {P:Program} {r:Option Nat} {Q:Exit→Act→World→Prop} {N:Nat} {ds:List Deferred} {ops:List Oper} {w0:World}
abbrev Lay:=Option Bool×Ent×List Nat
def Disc.Lo (dc:Disc w0) (o:Oper) (w w':World):Prop:=(dc.tok o=false→dc.still w w')∧(dc.tok o=true→dc.fin w')
def EatD (dc:Disc w0) (D:DE) (eats:List Nat) (a:Act) (g:Nat):Prop:= ∃s c e,hasN eats s=true∧dlook D s=some (c,e)∧Cnd c∧dc.foot e (a.tmps.getD s undef) g
def DOneA (P:Program) (N:Nat) (ds:List Deferred) (ops:List Oper) (dc:Disc w0) (o:Oper) (D:DE) (G:Option Bool) (e:Ent) (eats:List Nat):Prop :=
 dgd ops D o.guard=some G∧okDst N o.dst=true∧noDefer o.op=true∧dc.good (dc.tok o) e∧sole ops o eats=true∧(∀s,s∈eats→ ∃c φ S,dlook D s=some (c,.own φ S)) ∧
 (Cnd G→ ∀a w,dc.rel w→(dc.tok o=true→dc.lock w)→FitL N ds (o.looksAt ops.toArray) D a w →
  (∃v w',((execOp a.eval o).run P w= .ok (.value v) w'∨(o.dst=none∧(execOp a.eval o).run P w= .ok .skip w'))∧dc.step w w' (EatD dc D eats a)∧dc.Lo o w w'∧e.sat v w'∧ ∀g,dc.foot e v g→EatD dc D eats a g∨w.heap.size≤g) ∨
  (∃f vs,(execOp a.eval o).run P w= .ok (.enter f vs) w∧Gives P f vs w fun v w'=>dc.step w w' (EatD dc D eats a)∧dc.Lo o w w'∧e.sat v w'∧ ∀g,dc.foot e v g→EatD dc D eats a g∨w.heap.size≤g))
def discOf (w0:World) (d0:Nat):Mode→Disc w0
 | .weak=>weakD w0
 | .own=>ownD w0
 | .cnt=>cntD w0 d0
def laidO (D:DE):List Oper→List Lay→DE
 | o::os,(G,e,s)::ges=>laidO (dins (ddrop D s) o.dst G e) os ges
 | _,_=>D
theorem DW.entries {Fin:DE→Prop} {m:Mode} (d0:Nat): ∀ {rest:List Oper} {D:DE},DW P N ds m ops w0 Fin rest D →
  ∃ ges:List Lay,ges.length=rest.length∧Fin (laidO D rest ges) ∧
   ∀ i o G e s,rest[i]?=some o→ges[i]?=some (G,e,s)→DOneA P N ds ops (discOf w0 d0 m) o (laidO D (rest.take i) (ges.take i)) G e s
 | [],D,h=>⟨[],rfl,by cases m<;>exact h,fun i o G e s h1 _=>by simp at h1⟩
 | o::rest,D,h=>by
  have key: ∃G e s,DOneA P N ds ops (discOf w0 d0 m) o D G e s∧DW P N ds m ops w0 Fin rest (dins (ddrop D s) o.dst G e):=by
   cases m with
   | weak =>
    obtain ⟨G,e,⟨h1,h2,h3,h4,h5⟩,h6⟩:=h
    refine ⟨G,e,[],⟨h1,h2,h3,h4,rfl,fun s hs=>by simp at hs,fun hG a w hb _ ha=> ?_⟩,by rw [ddrop_nil]; exact h6⟩
    rcases h5 hG a w hb ha with ⟨v,w',q1,q2,q3⟩|⟨f,vs,q1,q2⟩
    ·exact .inl ⟨v,w',.inl q1,q2,⟨fun _=>trivial,fun _=>trivial⟩,q3,fun g hg=>hg.elim⟩
    ·exact .inr ⟨f,vs,q1,q2.mono fun v w' ⟨q3,q4⟩=>⟨q3,⟨fun _=>trivial,fun _=>trivial⟩,q4,fun g hg=>hg.elim⟩⟩
   | own =>
    obtain ⟨G,e,s,⟨h1,h2,h3,h4,h5,h6,h7⟩,h8⟩:=h
    refine ⟨G,e,s,⟨h1,h2,h3,h4,h5,h6,fun hG a w hb _ ha=> ?_⟩,h8⟩
    rcases h7 hG a w hb ha with ⟨v,w',q1,q2,q3,q4⟩|⟨f,vs,q1,q2⟩
    ·exact .inl ⟨v,w',.inl q1,q2,⟨fun _=>trivial,fun _=>trivial⟩,q3,q4⟩
    ·exact .inr ⟨f,vs,q1,q2.mono fun v w' ⟨q3,q4,q5⟩=>⟨q3,⟨fun _=>trivial,fun _=>trivial⟩,q4,q5⟩⟩
   | cnt =>
    obtain ⟨G,e,⟨h1,h2,h3,h4,h5⟩,h6⟩:=h
    refine ⟨G,e,[],⟨h1,h2,h3,h4,rfl,fun s hs=>by simp at hs,fun hG a w hb _ ha=> ?_⟩,by rw [ddrop_nil]; exact h6⟩
    rcases h5 hG a w hb ha with ⟨v,w',q1,q2,q3⟩|⟨f,vs,q1,q2⟩
    ·exact .inl ⟨v,w',.inl q1,q2,⟨fun _=>trivial,fun _=>trivial⟩,q3,fun g hg=>hg.elim⟩
    ·exact .inr ⟨f,vs,q1,q2.mono fun v w' ⟨q3,q4⟩=>⟨q3,⟨fun _=>trivial,fun _=>trivial⟩,q4,fun g hg=>hg.elim⟩⟩
  obtain ⟨G,e,s,h1,h2⟩:=key
  obtain ⟨ges,hl,hF,hi⟩:=DW.entries d0 h2
  refine ⟨(G,e,s)::ges,by simp [hl],hF,?_⟩
  intro i o' G' e' s' ho he
  cases i with
  | zero =>
   simp at ho he
   obtain ⟨rfl,rfl,rfl⟩:=he
   subst ho
   simpa [laidO] using h1
  | succ i =>
   simp at ho he
   simpa [laidO] using hi i o' G' e' s' ho he
theorem dlook_laidO {s:Nat} {x:Option Bool×Ent}: ∀(os:List Oper) (ges:List Lay) (D:DE),dlook (laidO D os ges) s=some x →
  (∃(k:Nat) (o:Oper) (G:Option Bool) (e:Ent) (E:List Nat),os[k]?=some o∧ges[k]?=some (G,e,E)∧o.dst=some s∧x=(G,e)∧ ∀(j:Nat) (o':Oper) (G':Option Bool) (e':Ent) (E':List Nat),k<j→os[j]?=some o'→ges[j]?=some (G',e',E')→ ¬s∈E') ∨
  (dlook D s=some x∧(∀(k:Nat) (o:Oper) (G:Option Bool) (e:Ent) (E:List Nat),os[k]?=some o→ges[k]?=some (G,e,E)→o.dst≠some s∧ ¬s∈E))
 | [],ges,D,h=> .inr ⟨by simpa [laidO] using h,fun k o G e E hk=>by simp at hk⟩
 | o::os,[],D,h=> .inr ⟨by simpa [laidO] using h,fun k o G e E _ hg=>by simp at hg⟩
 | o::os,(G,e,E)::ges,D,h=>by
  rw [laidO] at h
  rcases dlook_laidO os ges _ h with ⟨k,o',G',e',E',h1,h2,h3,h4,h5⟩|⟨h1,h2⟩
  ·refine .inl ⟨k+1,o',G',e',E',by simpa using h1,by simpa using h2,h3,h4,fun j o'' G'' e'' E'' hj ho hg=> ?_⟩
   obtain ⟨j,rfl⟩: ∃i,j=i+1:=⟨j-1,by omega⟩
   exact h5 j o'' G'' e'' E'' (by omega) (by simpa using ho) (by simpa using hg)
  ·have hd:(o.dst=some s∧x=(G,e))∨(o.dst≠some s∧dlook (ddrop D E) s=some x):=by
    cases hdst:o.dst with
    | none=>rw [hdst] at h1; exact .inr ⟨by simp,h1⟩
    | some d =>
     rw [hdst] at h1
     simp only [dins,dlook] at h1
     by_cases hds:d=s
     ·subst hds; rw [beq_self] at h1; simp at h1; exact .inl ⟨rfl,h1.symm⟩
     ·rw [beq_ne hds] at h1; exact .inr ⟨fun e=>hds (by simpa using e),h1⟩
   rcases hd with ⟨hd,hx⟩|⟨hd,hx⟩
   ·refine .inl ⟨0,o,G,e,E,rfl,rfl,hd,hx,fun j o' G' e' E' hj ho hg=> ?_⟩
    obtain ⟨j,rfl⟩: ∃i,j=i+1:=⟨j-1,by omega⟩
    exact (h2 j o' G' e' E' (by simpa using ho) (by simpa using hg)).2
   ·rw [dlook_ddrop] at hx
    split at hx
    ·cases hx
    ·rename_i hE
     refine .inr ⟨hx,fun k o' G' e' E' ho hg=> ?_⟩
     cases k with
     | zero =>
      simp at ho hg
      obtain ⟨rfl,rfl,rfl⟩:=hg
      subst ho
      exact ⟨hd,fun hm=>hE (hasN_iff.2 hm)⟩
     | succ k=>exact h2 k o' G' e' E' (by simpa using ho) (by simpa using hg)
inductive Reach (ops:List Oper):Nat→Nat→Prop
 | one {i:Nat} {o:Oper} {e:Edge}:ops[i]?=some o→e∈o.after→Region.binds .any e=true→Reach ops i e.on
 | more {i k:Nat} {o:Oper} {e:Edge}:ops[i]?=some o→e∈o.after→Region.binds .any e=true→Reach ops e.on k→Reach ops i k
def maskOf (acc:List Nat) (o:Oper):Nat:=o.after.toList.foldl (fun m e=>if Region.binds .any e then m ||| (1 <<< e.on) ||| acc.getD e.on 0 else m) 0
def masksGo:List Nat→List Oper→List Nat
 | acc,[]=>acc
 | acc,o::os=>masksGo (acc++ [maskOf acc o]) os
def masks (ops:List Oper):List Nat:=masksGo [] ops
def cutOK (ops:List Oper) (s t:Nat):Bool:=((masks ops).drop t).all fun m=>Nat.beq ((m >>> s) &&& ((1 <<< (t-s))-1)) ((1 <<< (t-s))-1)
theorem maskOf_bits {acc:List Nat} {o:Oper} {k:Nat} (h:(maskOf acc o).testBit k=true): ∃e∈o.after,Region.binds .any e=true∧(e.on=k∨(acc.getD e.on 0).testBit k=true):=by
 have key: ∀(l:List Edge) (m:Nat),(l.foldl (fun m e=>if Region.binds .any e then m ||| (1 <<< e.on) ||| acc.getD e.on 0 else m) m).testBit k=true→m.testBit k=true∨ ∃e∈l,Region.binds .any e=true∧(e.on=k∨(acc.getD e.on 0).testBit k=true):=by
  intro l
  induction l with
  | nil=>intro m h; exact .inl h
  | cons e l ih =>
   intro m h
   rw [List.foldl_cons] at h
   rcases ih _ h with h1|⟨e',h1,h2⟩
   ·split at h1
    ·rename_i hb
     rw [Nat.testBit_or,Nat.testBit_or,Bool.or_eq_true,Bool.or_eq_true] at h1
     rcases h1 with (h1|h1)|h1
     ·exact .inl h1
     ·refine .inr ⟨e,by simp,hb,.inl ?_⟩
      rw [Nat.one_shiftLeft,Nat.testBit_two_pow] at h1
      exact of_decide_eq_true h1
     ·exact .inr ⟨e,by simp,hb,.inr h1⟩
    ·exact .inl h1
   ·exact .inr ⟨e',by simp [h1],h2⟩
 rcases key _ 0 h with h1|⟨e,h1,h2⟩
 ·simp at h1
 ·exact ⟨e,by simpa using h1,h2⟩
theorem masksGo_reach: ∀(os:List Oper) (acc:List Nat),(∀i,acc.length≤i→ops[i]?=os[i-acc.length]?)→(∀i k,(acc.getD i 0).testBit k=true→Reach ops i k)→ ∀i k,((masksGo acc os).getD i 0).testBit k=true→Reach ops i k
 | [],acc,_,h,i,k,hk=>h i k hk
 | o::os,acc,ho,h,i,k,hk=>by
  refine masksGo_reach os (acc++ [maskOf acc o]) (fun i hi=> ?_) (fun i k hk=> ?_) i k hk
  ·simp at hi
   rw [ho i (by omega)]
   have:i-acc.length=(i-(acc++ [maskOf acc o]).length)+1:=by simp; omega
   rw [this]; simp
  ·by_cases hi:i<acc.length
   ·refine h i k ?_
    rw [List.getD_eq_getElem?_getD,List.getElem?_append_left hi,←List.getD_eq_getElem?_getD] at hk; exact hk
   ·by_cases hi2:i=acc.length
    ·subst hi2
     have e:(acc++ [maskOf acc o]).getD acc.length 0=maskOf acc o:=by simp
     rw [e] at hk
     have hop:ops[acc.length]?=some o:=by rw [ho _ (Nat.le_refl _)]; simp
     obtain ⟨e,h1,h2,h3|h3⟩:=maskOf_bits hk
     ·rw [←h3]; exact .one hop h1 h2
     ·exact .more hop h1 h2 (h _ _ h3)
    ·have:(acc++ [maskOf acc o]).getD i 0=0:=by
      rw [List.getD_eq_getElem?_getD,List.getElem?_eq_none (by simp; omega)]; rfl
     rw [this] at hk; simp at hk
theorem masks_reach {i k:Nat} (h:((masks ops).getD i 0).testBit k=true):Reach ops i k:=masksGo_reach ops [] (fun i _=>by simp) (fun i k h=>by simp at h) i k h
theorem masksGo_len: ∀(os:List Oper) (acc:List Nat),(masksGo acc os).length=acc.length+os.length
 | [],acc=>by simp [masksGo]
 | o::os,acc=>by rw [masksGo,masksGo_len os]; simp; omega
theorem cutOK_spec {s t:Nat} (h:cutOK ops s t=true) {i k:Nat} (hti:t≤i) (hi:i<ops.length) (hsk:s≤k) (hkt:k<t):Reach ops i k:=by
 unfold cutOK at h
 rw [List.all_eq_true] at h
 have hlen:(masks ops).length=ops.length:=by unfold masks; rw [masksGo_len]; simp
 have hm:(masks ops).getD i 0∈(masks ops).drop t:=by
  rw [List.mem_iff_getElem?]
  refine ⟨i-t,?_⟩
  rw [List.getElem?_drop,show t+(i-t)=i by omega,List.getD_eq_getElem?_getD,List.getElem?_eq_getElem (by omega)]
  rfl
 have h1:=Nat.eq_of_beq_eq_true (h _ hm)
 refine masks_reach ?_
 have h2:((((masks ops).getD i 0) >>> s) &&& ((1 <<< (t-s))-1)).testBit (k-s)=true:=by
  rw [h1,Nat.one_shiftLeft,Nat.testBit_two_pow_sub_one]
  simp; omega
 rw [Nat.testBit_and,Bool.and_eq_true,Nat.testBit_shiftRight] at h2
 rw [show s+(k-s)=k by omega] at h2
 exact h2.1
theorem reach_listed {listed:Array Bool} (hc: ∀k o,ops[k]?=some o→listed.getD k false=true→ ∀e∈o.after,Region.binds .any e=true→listed.getD e.on false=true) (hb: ∀k o,ops[k]?=some o→ ∀e∈o.after,Region.binds .any e=true→e.on<k)
  {i k:Nat} (h:Reach ops i k):(∀o,ops[i]?=some o→ ∀e∈o.after,Region.binds .any e=true→listed.getD e.on false=true)→listed.getD k false=true:=by
 induction h with
 | one h1 h2 h3=>intro hd; exact hd _ h1 _ h2 h3
 | @more i k o e h1 h2 h3 _ ih =>
  intro hd
  exact ih (fun o' ho'=>hc _ o' ho' (hd _ h1 _ h2 h3))
def eatenBy (ges:List Lay) (s:Nat) (listed:Array Bool) (d:Nat):Prop:= ∃j G e E,ges[j]?=some (G,e,E)∧d∈E∧listed.getD (s+j) false=true
structure DInv (N:Nat) (ds:List Deferred) (ops:List Oper) (dc:Disc w0) (s:Nat) (ges:List Lay) (a0:Act) (listed:Array Bool) (a:Act) (w:World):Prop where
 below:dc.rel w
 lock: ∀k o,k<ges.length→ops[s+k]?=some o→dc.tok o=true→listed.getD (s+k) false=false→dc.lock w
 inv:dc.inv w
 fin: ∀k o G e E,ops[s+k]?=some o→ges[k]?=some (G,e,E)→dc.tok o=true→listed.getD (s+k) false=true→Cnd G→dc.fin w
 size:a.tmps.size=N
 defers:a.defers=ds
 pre: ∀k,k<s→listed.getD k false=true
 post: ∀k,s+ges.length≤k→listed.getD k false=false
 done: ∀k o d G e E,ops[s+k]?=some o→o.dst=some d→ges[k]?=some (G,e,E)→listed.getD (s+k) false=true→ ¬eatenBy ges s listed d→slotOK G e (a.tmps.getD d undef) w
 apart: ∀k o d G e E k' o' d' G' e' E',ops[s+k]?=some o→o.dst=some d→ges[k]?=some (G,e,E)→listed.getD (s+k) false=true→ ¬eatenBy ges s listed d→Cnd G →
  ops[s+k']?=some o'→o'.dst=some d'→ges[k']?=some (G',e',E')→listed.getD (s+k') false=true→ ¬eatenBy ges s listed d'→Cnd G'→k≠k'→ ∀g,dc.foot e (a.tmps.getD d undef) g→dc.foot e' (a.tmps.getD d' undef) g→False
 todo: ∀k o d,k<ges.length→ops[s+k]?=some o→o.dst=some d→listed.getD (s+k) false=false→a.tmps.getD d undef=a0.tmps.getD d undef
 others: ∀x,(∀(k:Nat) (o:Oper),k<ges.length→ops[s+k]?=some o→o.dst≠some x)→a.tmps.getD x undef=a0.tmps.getD x undef
 closed: ∀k o,ops[k]?=some o→listed.getD k false=true→ ∀e∈o.after,Region.binds .any e=true→listed.getD e.on false=true
def stretch (ops:List Oper) (s t:Nat):List Oper:=(ops.drop s).take (t-s)
theorem stretch_get {s t k:Nat}:(stretch ops s t)[k]?=if k<t-s then ops[s+k]? else none:=by
 unfold stretch
 rw [List.getElem?_take]
 split
 ·rw [List.getElem?_drop]
 ·rfl
theorem draw_sound {D0:DE} {ges:List Lay} {a0:Act} {s t:Nat} (dc:Disc w0) (hlex:lexOK ops=true) (hcut:cutOK ops s t=true) (hst:s≤t) (htl:t≤ops.length) (hl:ges.length=t-s)
  (hstep: ∀i o G e E,ops[s+i]?=some o→ges[i]?=some (G,e,E)→DOneA P N ds ops dc o (laidO D0 ((stretch ops s t).take i) (ges.take i)) G e E)
  (htok: ∀i j o o',i<t-s→j<t-s→ops[s+i]?=some o→ops[s+j]?=some o'→dc.tok o=true→dc.tok o'=true→i=j)
  (h0: ∀i c e,dlook D0 i=some (c,e)→ ∃v,e= .ex v∧slotOK c e (a0.tmps.getD i undef) w0)
  (hfin: ∀(fuel:Nat) (listed:Array Bool) (a:Act) (w:World),listed.size=ops.length→(∀k,k<ops.length→listed.getD k false=decide (k<t))→ops.length-t≤fuel→dc.rel w→dc.inv w→(∀k o G e E,ops[s+k]?=some o→ges[k]?=some (G,e,E)→dc.tok o=true→Cnd G→dc.fin w)→FitD N ds (laidO D0 (stretch ops s t) ges) a w→wpAnyIn (FR r) 0 P .any ops.toArray Q fuel listed a w) :
  ∀ (fuel:Nat) (listed:Array Bool) (a:Act) (w:World),listed.size=ops.length→((List.range ops.length).filter fun k=> !listed.getD k false).length≤fuel→DInv N ds ops dc s ges a0 listed a w →
   wpAnyIn (FR r) 0 P .any ops.toArray Q fuel listed a w:=by
 have hback: ∀k o,ops[k]?=some o→ ∀e∈o.after,Region.binds .any e=true→e.on<k:=fun k o hk e he hb=>(lexOK_spec hlex hk hk).1 e he hb
 have hin: ∀ {k:Nat} {o:Oper},k<t-s→(ops[s+k]?=some o↔(stretch ops s t)[k]?=some o):=fun hk=>by rw [stretch_get,if_pos hk]
 have huniq: ∀ {x k i:Nat} {o o':Oper},ops[k]?=some o→o.dst=some x→ops[i]?=some o'→o'.dst=some x→i=k:=by
  intro x k i o o' hk hd ho' hd'
  rcases ((lexOK_spec hlex ho' hk).2 x hd).1 with h|h
  ·exact h.symm
  ·exact absurd hd' h
 have hgl: ∀ {j:Nat} {L:Lay},ges[j]?=some L→j<t-s:=fun hg=>by rw [←hl]; exact (List.getElem?_eq_some_iff.1 hg).1
 have hopl: ∀ {j:Nat},j<t-s→ ∃o,ops[s+j]?=some o:=fun hj=>⟨_,List.getElem?_eq_getElem (by omega)⟩
 have hgel: ∀ {j:Nat},j<t-s→ ∃G e E,ges[j]?=some (G,e,E):=fun hj=>⟨_,_,_,List.getElem?_eq_getElem (by omega)⟩
 have hlooks: ∀ {j x:Nat} {G e E} {o:Oper},ges[j]?=some (G,e,E)→x∈E→ops[s+j]?=some o→x∈o.looksAt ops.toArray:=by
  intro j x G e E o hg hs ho
  have h5:=(hstep j o G e E ho hg).2.2.2.2.1
  unfold sole at h5
  rw [List.all_eq_true] at h5
  have h6:=h5 x hs
  simp only [Bool.and_eq_true] at h6
  simpa using h6.1
 have hsole: ∀ {j i x:Nat} {G e E} {o:Oper},ges[j]?=some (G,e,E)→x∈E→ops[i]?=some o→x∈o.looksAt ops.toArray→s+j=i:=by
  intro j i x G e E o hg hs ho hlk
  obtain ⟨oj,hj⟩:=hopl (hgl hg)
  have h5:=(hstep j oj G e E hj hg).2.2.2.2.1
  unfold sole at h5
  rw [List.all_eq_true] at h5
  have h6:=h5 x hs
  simp only [Bool.and_eq_true] at h6
  exact one_of_filter (p:=fun p=>(p.looksAt ops.toArray).contains x) (Nat.le_of_ble_eq_true h6.2) hj h6.1 ho (by simpa using hlk)
 have htake: ∀ {i k:Nat} {o:Oper} {L:Lay},i≤t-s→((stretch ops s t).take i)[k]?=some o→(ges.take i)[k]?=some L→k<i∧ops[s+k]?=some o∧ges[k]?=some L:=by
  intro i k o L hi h1 h2
  have hki:k<i:=by have:=(List.getElem?_eq_some_iff.1 h1).1; simp at this; omega
  rw [List.getElem?_take_of_lt hki] at h1 h2
  exact ⟨hki,(hin (by omega)).2 h1,h2⟩
 have heat: ∀ {j k x:Nat} {G e E} {o:Oper},ges[j]?=some (G,e,E)→x∈E→ops[k]?=some o→o.dst=some x→s≤k∧k<s+j:=by
  intro j k x G e E o hg hs hk hd
  obtain ⟨oj,hj⟩:=hopl (hgl hg)
  obtain ⟨c,φ,S,hlk⟩:=(hstep j oj G e E hj hg).2.2.2.2.2.1 x hs
  rcases dlook_laidO _ _ D0 hlk with ⟨k',o',G',e',E',hk',hge,hd',hx,_⟩|⟨h1,_⟩
  ·obtain ⟨h1,h2,_⟩:=htake (by have:=hgl hg; omega) hk' hge
   have:=huniq h2 hd' hk hd
   omega
  ·obtain ⟨v,hv,_⟩:=h0 x c _ h1
   cases hv
 intro fuel
 induction fuel with
 | zero =>
  intro listed a w hsz hcount hI
  have hall: ∀k,k<ops.length→listed.getD k false=true:=by
   intro k hk
   cases hc:listed.getD k false with
   | true=>rfl
   | false =>
    exfalso
    have:k∈(List.range ops.length).filter fun k=> !listed.getD k false:=by rw [List.mem_filter]; exact ⟨by simpa using hk,by rw [hc]; rfl⟩
    have hnil:(List.range ops.length).filter (fun k=> !listed.getD k false)= []:=List.eq_nil_of_length_eq_zero (by omega)
    rw [hnil] at this
    cases this
  have htt:t=ops.length:=by
   rcases Nat.lt_or_ge t ops.length with h|h
   ·have:=hI.post t (by omega)
    rw [hall t h] at this; cases this
   ·omega
  refine hfin 0 listed a w hsz (fun k hk=>by rw [hall k hk]; simp; omega) (by omega) hI.below hI.inv (fun k o G e E hk hge ht hc=>hI.fin k o G e E hk hge ht (hall _ (by have:=hgl hge; omega)) hc) ⟨hI.size,hI.defers,fun x c e hs=> ?_⟩
  rcases dlook_laidO _ _ D0 hs with ⟨k,o,G,e',E,hk,hge,hd,hx,hno⟩|⟨h1,h2⟩
  ·cases hx
   have hkl:=hgl hge
   have hk:=(hin hkl).2 hk
   refine hI.done k o x c e E hk hd hge (hall _ (by omega)) ?_
   rintro ⟨j,G',e',E',hgj,hsE,_⟩
   obtain ⟨oj,hj⟩:=hopl (hgl hgj)
   have:=heat hgj hsE hk hd
   exact hno j oj G' e' E' (by omega) ((hin (hgl hgj)).1 hj) hgj hsE
  ·obtain ⟨v,rfl,hok⟩:=h0 x c e h1
   rw [hI.others x (fun i o hi ho=>by
    obtain ⟨G,e,E,hg⟩:=hgel (j:=i) (by omega)
    exact (h2 i o _ _ _ ((hin (by omega)).1 ho) hg).1)]
   exact hok
 | succ fuel ih =>
  intro listed a w hsz hcount hI
  by_cases hdone: ∀k,s≤k→k<t→listed.getD k false=true
  ·-- the stretch is done
   have hlt: ∀k,k<ops.length→listed.getD k false=decide (k<t):=by
    intro k hk
    by_cases h1:k<t
    ·rcases Nat.lt_or_ge k s with h2|h2
     ·rw [hI.pre k h2]; simp [h1]
     ·rw [hdone k h2 h1]; simp [h1]
    ·rw [hI.post k (by omega)]; simp [h1]
   refine hfin (fuel+1) listed a w hsz hlt ?_ hI.below hI.inv (fun k o G e E hk hge ht hc=>hI.fin k o G e E hk hge ht (hdone _ (by omega) (by have:=hgl hge; omega)) hc) ⟨hI.size,hI.defers,fun x c e hs=> ?_⟩
   ·refine Nat.le_trans ?_ hcount
    have:(List.range ops.length).filter (fun k=> !listed.getD k false)=(List.range ops.length).filter (fun k=>decide (t≤k)):=by
     refine List.filter_congr fun k hk=> ?_
     rw [hlt k (by simpa using hk)]
     by_cases h1:k<t<;>simp [h1]<;>omega
    rw [this]
    have hsub:((List.range ops.length).filter fun k=>decide (t≤k)).length=ops.length-t:=by
     rw [show ops.length=t+(ops.length-t) by omega,List.range_add,List.filter_append]
     simp
     rw [List.filter_eq_nil_iff.2 (by intro x hx; simp at hx; simp; omega),List.filter_eq_self.2 (by intro x hx; simp at hx; obtain ⟨y,_,rfl⟩:=hx; simp)]
     simp
    omega
   ·rcases dlook_laidO _ _ D0 hs with ⟨k,o,G,e',E,hk,hge,hd,hx,hno⟩|⟨h1,h2⟩
    ·cases hx
     have hkl:=hgl hge
     have hk:=(hin hkl).2 hk
     refine hI.done k o x c e E hk hd hge (hdone _ (by omega) (by omega)) ?_
     rintro ⟨j,G',e',E',hgj,hsE,_⟩
     obtain ⟨oj,hj⟩:=hopl (hgl hgj)
     have:=heat hgj hsE hk hd
     exact hno j oj G' e' E' (by omega) ((hin (hgl hgj)).1 hj) hgj hsE
    ·obtain ⟨v,rfl,hok⟩:=h0 x c e h1
     rw [hI.others x (fun i o hi ho=>by
      obtain ⟨G,e,E,hg⟩:=hgel (j:=i) (by omega)
      exact (h2 i o _ _ _ ((hin (by omega)).1 ho) hg).1)]
     exact hok
  ·have hready: ∀k,s≤k→k<t→listed.getD k false=false→(∀j,s≤j→j<k→listed.getD j false=true)→k∈Region.ready .any ops.toArray listed:=by
    intro k hsk hkt hc hbef
    unfold Region.ready
    rw [List.mem_filter]
    have hk:k<ops.length:=by omega
    have hok:ops[k]?=some ops[k]:=List.getElem?_eq_getElem hk
    refine ⟨by simpa using hk,?_⟩
    have hc':listed.getD k true=false:=by
     have:k<listed.size:=by omega
     simpa [this] using hc
    simp only [hc',List.getElem?_toArray,hok,Option.map_some,Option.getD_some,Bool.not_false,Bool.true_and]
    rw [Array.all_eq_true']
    intro e he
    cases hbi:Region.binds .any e with
    | false=>simp
    | true =>
     have hon:=hback k _ hok e he hbi
     have:listed.getD e.on false=true:=by
      rcases Nat.lt_or_ge e.on s with h|h
      ·exact hI.pre _ h
      ·exact hbef _ h hon
     simp [this]
   have hmin: ∃k,s≤k∧k<t∧listed.getD k false=false∧ ∀j,s≤j→j<k→listed.getD j false=true:=by
    have hex: ∃k,s≤k∧k<t∧listed.getD k false=false:=by
     rcases Classical.not_forall.1 hdone with ⟨k,hk⟩
     rcases Classical.not_forall.1 hk with ⟨h1,hk⟩
     rcases Classical.not_forall.1 hk with ⟨h2,hk⟩
     exact ⟨k,h1,h2,by simpa using hk⟩
    obtain ⟨k,h1,h2,h3⟩:=hex
    induction k using Nat.strongRecOn with
    | _ k ihk =>
     by_cases hb: ∀j,s≤j→j<k→listed.getD j false=true
     ·exact ⟨k,h1,h2,h3,hb⟩
     ·rcases Classical.not_forall.1 hb with ⟨j,hj⟩
      rcases Classical.not_forall.1 hj with ⟨g1,hj⟩
      rcases Classical.not_forall.1 hj with ⟨g2,hj⟩
      exact ihk j g2 g1 (by omega) (by simpa using hj)
   refine ⟨fun hr=> ?_,fun i hi=> ?_⟩
   ·obtain ⟨k,h1,h2,h3,h4⟩:=hmin
    have:=hready k h1 h2 h3 h4
    rw [hr] at this; cases this
   unfold Region.ready at hi
   rw [List.mem_filter] at hi
   obtain ⟨hi1,hi2⟩:=hi
   have hil:i<ops.length:=by simpa using hi1
   have hok:ops[i]?=some ops[i]:=List.getElem?_eq_getElem hil
   simp only [Bool.and_eq_true,List.getElem?_toArray,hok,Option.map_some,Option.getD_some] at hi2
   obtain ⟨hi2,hi3⟩:=hi2
   have hni:listed.getD i false=false:=by
    have hs:i<listed.size:=by omega
    simpa [hs] using hi2
   rw [Array.all_eq_true'] at hi3
   have hdeps: ∀e∈ops[i].after,Region.binds .any e=true→listed.getD e.on false=true:=by
    intro e he hb
    have:=hi3 e he
    rw [hb] at this
    simpa using this
   have hsi:s≤i:=by
    rcases Nat.lt_or_ge i s with h|h
    ·have:=hI.pre i h; rw [hni] at this; cases this
    ·exact h
   have hit:i<t:=by
    rcases Nat.lt_or_ge i t with h|h
    ·exact h
    ·exfalso
     refine hdone fun k hk1 hk2=> ?_
     exact reach_listed hI.closed hback (cutOK_spec hcut h hil hk1 hk2) (fun o ho e he hb=>by rw [hok] at ho; cases ho; exact hdeps e he hb)
   obtain ⟨n,rfl⟩: ∃n,i=s+n:=⟨i-s,by omega⟩
   have hnl:n<t-s:=by omega
   obtain ⟨o,hok'⟩: ∃o,ops[s+n]?=some o:=⟨_,hok⟩
   have hoo:ops[s+n]=o:=by rw [hok] at hok'; simpa using hok'
   obtain ⟨Gi,ei,Ei,hgi⟩:=hgel hnl
   rw [hoo] at hdeps
   clear hok
   obtain ⟨hg,hd,hn,hm,hso,heo,hop⟩:=hstep n o Gi ei Ei hok' hgi
   have hne: ∀x,x∈o.looksAt ops.toArray→ ¬eatenBy ges s listed x:=by
    rintro x hs ⟨j,G,e,E,hgj,hsE,hlj⟩
    have:=hsole hgj hsE hok' hs
    rw [this,hni] at hlj; cases hlj
   have hsee: ∀x k p,x∈o.looksAt ops.toArray→k<s+n→ops[k]?=some p→p.dst=some x→listed.getD k false=true:=by
    intro x k p hsL hki hk hd
    obtain ⟨e',he',hb',hon⟩:=(((lexOK_spec hlex hok' hk).2 x hd).2 hsL).1 hki
    exact hon ▸ hdeps e' he' hb'
   have hfit:FitL N ds (o.looksAt ops.toArray) (laidO D0 ((stretch ops s t).take n) (ges.take n)) a w:=by
    refine ⟨hI.size,hI.defers,fun x hsL c e hs=> ?_⟩
    rcases dlook_laidO _ _ D0 hs with ⟨k,p,G,e',E,hk,hge,hd,hx,hno⟩|⟨h1,h2⟩
    ·cases hx
     obtain ⟨hki,hk,hge⟩:=htake (by omega) hk hge
     exact hI.done k p x c e E hk hd hge (hsee x (s+k) p hsL (by omega) hk hd) (hne x hsL)
    ·obtain ⟨v,rfl,hok0⟩:=h0 x c e h1
     by_cases hw: ∃(k:Nat) (p:Oper),k<ges.length∧ops[s+k]?=some p∧p.dst=some x
     ·obtain ⟨k,p,hkl,hk,hd⟩:=hw
      have hik:n≤k:=by
       rcases Nat.lt_or_ge k n with hki|hik
       ·obtain ⟨G,e,E,hg⟩:=hgel (j:=k) (by omega)
        exact absurd hd (h2 k p _ _ _ (by rw [List.getElem?_take_of_lt hki]; exact (hin (by omega)).1 hk) (by rw [List.getElem?_take_of_lt hki]; exact hg)).1
       ·exact hik
      have hlk:listed.getD (s+k) false=false:=by
       rcases (((lexOK_spec hlex hok' hk).2 x hd).2 hsL).2 (by omega) with h|⟨e',he',hb',hon⟩
       ·rw [h]; exact hni
       ·cases hc:listed.getD (s+k) false with
        | false=>rfl
        | true =>
         have:=hI.closed (s+k) p hk hc e' he' hb'
         rw [hon,hni] at this
         cases this
      rw [hI.todo k p x hkl hk hd hlk]
      exact hok0
     ·rw [hI.others x (fun k p hk ho hd=>hw ⟨k,p,hk,ho,hd⟩)]
      exact hok0
   obtain ⟨hw1,hw2⟩:=dwanted_of (ops:=ops) (o:=o) hfit (fun d hd=>looks_guard hd) hg
   have heatk: ∀x,x∈Ei→ ∃k p G e E,ops[s+k]?=some p∧p.dst=some x∧ges[k]?=some (G,e,E)∧listed.getD (s+k) false=true∧dlook (laidO D0 ((stretch ops s t).take n) (ges.take n)) x=some (G,e):=by
    intro x hs
    obtain ⟨c,φ,S,hlk⟩:=heo x hs
    have hsL:=hlooks hgi hs hok'
    rcases dlook_laidO _ _ D0 hlk with ⟨k,p,G,e',E,hk,hge,hd,hx,_⟩|⟨h1,_⟩
    ·obtain ⟨hki,hk,hge⟩:=htake (by omega) hk hge
     exact ⟨k,p,G,e',E,hk,hd,hge,hsee x (s+k) p hsL (by omega) hk hd,by rw [hlk,hx]⟩
    ·obtain ⟨v,hv,_⟩:=h0 x c _ h1
     cases hv
   have hset: ∀k,(listed.setIfInBounds (s+n) true).getD k false=if k=s+n then true else listed.getD k false:=by
    intro k
    by_cases hki:k=s+n
    ·subst hki; simp [hsz,hil]
    ·have:s+n≠k:=fun e=>hki e.symm
     simp [hki,Array.getElem?_setIfInBounds_ne this]
   have heaten: ∀d,¬eatenBy ges s (listed.setIfInBounds (s+n) true) d→ ¬eatenBy ges s listed d∧ ¬d∈Ei:=by
    intro d h
    refine ⟨fun ⟨j,G,e,E,h1,h2,h3⟩=>h ⟨j,G,e,E,h1,h2,?_⟩,fun hd=>h ⟨n,Gi,ei,Ei,hgi,hd,by rw [hset]; simp⟩⟩
    rw [hset]; split
    ·rfl
    ·exact h3
   have hEat: ∀k p d G e E,ops[s+k]?=some p→p.dst=some d→ges[k]?=some (G,e,E)→listed.getD (s+k) false=true→ ¬eatenBy ges s listed d→Cnd G→ ¬d∈Ei→ ∀g,dc.foot e (a.tmps.getD d undef) g→ ¬EatD dc (laidO D0 ((stretch ops s t).take n) (ges.take n)) Ei a g:=by
    rintro k p d G e E hk hd hge hlk hnk hcG hdE g hfg ⟨x,c,e',hsE,hls,hcc,hf⟩
    have hsE:=hasN_iff.1 hsE
    obtain ⟨k',o',G',e'',E',hk',hd',hge',hlk',hdl⟩:=heatk x hsE
    rw [hdl] at hls
    cases hls
    have hsL:=hlooks hgi hsE hok'
    refine hI.apart k p d G e E k' o' x _ _ E' hk hd hge hlk hnk hcG hk' hd' hge' hlk' (hne x hsL) hcc (fun h=> ?_) g hfg hf
    subst h
    rw [hk] at hk'; cases hk'
    rw [hd] at hd'; cases hd'
    exact hdE hsE
   have hnext: ∀v w',dc.step w w' (EatD dc (laidO D0 ((stretch ops s t).take n) (ges.take n)) Ei a)→((dc.tok o=false→dc.still w w')∧(Cnd Gi→dc.tok o=true→dc.fin w'))→slotOK Gi ei v w'→(Cnd Gi→ ∀g,dc.foot ei v g→EatD dc (laidO D0 ((stretch ops s t).take n) (ges.take n)) Ei a g∨w.heap.size≤g) →
     wpAnyIn (FR r) 0 P .any ops.toArray Q fuel (listed.setIfInBounds (s+n) true) (a.put o.dst v) w':=by
    intro v w' hst hlo hs hfoot
    refine ih _ _ _ (by simpa using hsz) ?_ ?_
    ·have hsub:((List.range ops.length).filter fun k=> !(listed.setIfInBounds (s+n) true).getD k false)=((List.range ops.length).filter fun k=> !listed.getD k false).erase (s+n):=by
      have hnd:((List.range ops.length).filter fun k=> !listed.getD k false).Nodup:=List.nodup_range.sublist List.filter_sublist
      rw [hnd.erase_eq_filter,List.filter_filter]
      congr 1
      funext k
      rw [hset]
      by_cases hki:k=s+n<;>simp [hki]
     rw [hsub,List.length_erase_of_mem]
     ·omega
     ·rw [List.mem_filter]; exact ⟨by simpa using hil,by rw [hni]; rfl⟩
    ·have hput: ∀x,o.dst≠some x→(a.put o.dst v).tmps.getD x undef=a.tmps.getD x undef:=by
      intro x hne
      cases hd':o.dst with
      | none=>rfl
      | some d =>
       rw [hd'] at hne
       have:d≠x:=fun e=>hne (by rw [e])
       simp [Act.put,Array.getElem?_setIfInBounds_ne this]
     have hputsame: ∀x,o.dst=some x→(a.put o.dst v).tmps.getD x undef=v:=by
      intro x hs'
      rw [hs']
      have:x<a.tmps.size:=by
       rw [hs'] at hd
       rw [hI.size]
       exact blt_iff.1 hd
      simp [Act.put,this]
     have hdst: ∀ {k p d},ops[s+k]?=some p→p.dst=some d→k≠n→o.dst≠some d:=by
      intro k p d hk hd' hki h
      have:=huniq hok' h hk hd'
      omega
     have hold: ∀k p d G e E,ops[s+k]?=some p→p.dst=some d→ges[k]?=some (G,e,E)→k≠n→listed.getD (s+k) false=true→ ¬eatenBy ges s listed d→ ¬d∈Ei→slotOK G e (a.tmps.getD d undef) w':=by
      intro k p d G e E hk hd' hge hki hlk hnk hdE
      have h1:=hI.done k p d G e E hk hd' hge hlk hnk
      have hme:dc.good (dc.tok p) e:=(hstep k p G e E hk hge).2.2.2.1
      have hsti:dc.tok p=true→dc.still w w':=fun hp=>by
       cases hto:dc.tok o with
       | true=>exact absurd (htok k n p o (hgl hge) hnl hk hok' hp hto) hki
       | false=>exact hlo.1 hto
      exact ⟨fun hc=>dc.keep _ e hme _ w w' _ hI.below hst hsti (hEat k p d G e E hk hd' hge hlk hnk hc hdE) (h1.1 hc),h1.2⟩
     have hnew: ∀k p d G e E,ops[s+k]?=some p→p.dst=some d→ges[k]?=some (G,e,E)→k≠n→listed.getD (s+k) false=true→ ¬eatenBy ges s listed d→ ¬d∈Ei→Cnd G→Cnd Gi→ ∀g,dc.foot e (a.tmps.getD d undef) g→dc.foot ei v g→False:=by
      intro k p d G e E hk hd' hge hki hlk hnk hdE hcG hcGi g hf1 hf2
      rcases hfoot hcGi g hf2 with h|h
      ·exact hEat k p d G e E hk hd' hge hlk hnk hcG hdE g hf1 h
      ·have h1:=(hI.done k p d G e E hk hd' hge hlk hnk).1 hcG
       have hme:dc.good (dc.tok p) e:=(hstep k p G e E hk hge).2.2.2.1
       have:=dc.bound _ e hme _ w h1 g hf1
       omega
     refine ⟨dc.rel_step w w' _ hI.below hst,fun k p hkl hk htk hlk=> ?_,dc.inv_step _ _ _ hst hI.inv,fun k p G e E hk hge htk hlk hcG=> ?_,?_,?_,?_,?_,?_,?_,?_,?_,?_⟩
     ·rw [hset] at hlk
      by_cases hki:k=n
      ·subst hki; simp at hlk
      ·rw [if_neg (by omega)] at hlk
       have hlw:=hI.lock k p hkl hk htk hlk
       cases hto:dc.tok o with
       | true=>exact absurd (htok k n p o (by omega) hnl hk hok' htk hto) hki
       | false=>exact dc.lock_still _ _ (hlo.1 hto) hlw
     ·rw [hset] at hlk
      by_cases hki:k=n
      ·subst hki
       rw [hok'] at hk; cases hk
       rw [hgi] at hge; cases hge
       exact hlo.2 hcG htk
      ·rw [if_neg (by omega)] at hlk
       have hfw:=hI.fin k p G e E hk hge htk hlk hcG
       cases hto:dc.tok o with
       | true=>exact absurd (htok k n p o (hgl hge) hnl hk hok' htk hto) hki
       | false=>exact dc.fin_still _ _ (hlo.1 hto) hfw
     ·cases hd':o.dst<;>simp [Act.put,hI.size]
     ·cases hd':o.dst<;>simp [Act.put,hI.defers]
     ·intro k hk
      rw [hset,if_neg (by omega)]
      exact hI.pre k hk
     ·intro k hk
      rw [hset,if_neg (by omega)]
      exact hI.post k hk
     ·intro k p d G e E hk hd' hge hlk hnk
      obtain ⟨hnk1,hnk2⟩:=heaten d hnk
      rw [hset] at hlk
      by_cases hki:k=n
      ·subst hki
       rw [hok'] at hk; cases hk
       rw [hgi] at hge; cases hge
       rw [hputsame d hd']
       exact hs
      ·rw [if_neg (by omega)] at hlk
       rw [hput d (hdst hk hd' hki)]
       exact hold k p d G e E hk hd' hge hki hlk hnk1 hnk2
     ·intro k p d G e E k' o' d' G' e' E' hk hd1 hge hlk hnk hcG hk' hd1' hge' hlk' hnk' hcG' hkk g hf hf'
      obtain ⟨hnk1,hnk2⟩:=heaten d hnk
      obtain ⟨hnk1',hnk2'⟩:=heaten d' hnk'
      rw [hset] at hlk hlk'
      by_cases hki:k=n
      ·subst hki
       have hki':k'≠k:=fun e=>hkk e.symm
       rw [if_neg (by omega)] at hlk'
       rw [hok'] at hk; cases hk
       rw [hgi] at hge; cases hge
       rw [hputsame d hd1] at hf
       rw [hput d' (hdst hk' hd1' hki')] at hf'
       exact hnew k' o' d' G' e' E' hk' hd1' hge' hki' hlk' hnk1' hnk2' hcG' hcG g hf' hf
      ·rw [if_neg (by omega)] at hlk
       rw [hput d (hdst hk hd1 hki)] at hf
       by_cases hki':k'=n
       ·subst hki'
        rw [hok'] at hk'; cases hk'
        rw [hgi] at hge'; cases hge'
        rw [hputsame d' hd1'] at hf'
        exact hnew k p d G e E hk hd1 hge hki hlk hnk1 hnk2 hcG hcG' g hf hf'
       ·rw [if_neg (by omega)] at hlk'
        rw [hput d' (hdst hk' hd1' hki')] at hf'
        exact hI.apart k p d G e E k' o' d' G' e' E' hk hd1 hge hlk hnk1 hcG hk' hd1' hge' hlk' hnk1' hcG' hkk g hf hf'
     ·intro k p d hkl hk hd' hlk
      rw [hset] at hlk
      by_cases hki:k=n
      ·subst hki; simp at hlk
      ·rw [if_neg (by omega)] at hlk
       rw [hput d (hdst hk hd' hki)]
       exact hI.todo k p d hkl hk hd' hlk
     ·intro x hns
      rw [hput x (hns n o (by omega) hok')]
      exact hI.others x hns
     ·intro k p hk hlk e he hbi
      rw [hset] at hlk ⊢
      by_cases hei:e.on=s+n
      ·simp [hei]
      ·rw [if_neg hei]
       by_cases hki:k=s+n
       ·subst hki
        rw [hok'] at hk; cases hk
        exact hdeps e he hbi
       ·rw [if_neg hki] at hlk
        exact hI.closed k p hk hlk e he hbi
   unfold wpOpIn
   simp only [List.getElem?_toArray,hok']
   by_cases hc:Cnd Gi
   ·rw [if_pos (hw1 hc)]
    refine ⟨fun _ _=>trivial,?_⟩
    rw [semAt_of hn]
    rcases hop hc a w hI.below (fun ht=>hI.lock n o (by rw [hl]; omega) hok' ht hni) hfit with ⟨v,w',hrun,hb,hlo,hs,hf⟩|⟨f,vs,hrun,hgv⟩
    ·rcases hrun with hrun|⟨hdn,hrun⟩
     ·rw [hrun]
      exact hnext v w' hb ⟨hlo.1,fun _=>hlo.2⟩ ⟨fun _=>hs,fun h=>absurd hc h⟩ (fun _=>hf)
     ·rw [hrun]
      have hx:=hnext v w' hb ⟨hlo.1,fun _=>hlo.2⟩ ⟨fun _=>hs,fun h=>absurd hc h⟩ (fun _=>hf)
      rw [hdn] at hx
      show wpAnyIn (FR r) 0 P .any ops.toArray Q fuel (listed.setIfInBounds (s+n) true) (a.put o.dst undef) w'
      rw [hdn]
      exact hx
    ·rw [hrun]
     refine ⟨fun h=>by simp [Fence.wide] at h,CallsIn.mono (callsIn_of hgv) ?_⟩
     rintro e w' ⟨v,rfl,hb,hlo,hs,hf⟩
     exact hnext v w' hb ⟨hlo.1,fun _=>hlo.2⟩ ⟨fun _=>hs,fun h=>absurd hc h⟩ (fun _=>hf)
   ·rw [if_neg (by rw [hw2 hc]; simp)]
    exact ⟨fun _ _=>trivial,hnext undef w (dc.step_refl _ _) ⟨fun _=>dc.still_refl _,fun h=>absurd h hc⟩ ⟨fun h=>absurd h hc,fun _=>rfl⟩ (fun h=>absurd h hc)⟩
def RK (P:Program) (r:Option Nat) (Q:Exit→Act→World→Prop) (ops:List Oper) (s:Nat) (a:Act) (w:World):Prop :=
 ∀ (listed:Array Bool) (fuel:Nat),listed.size=ops.length→(∀k,k<ops.length→listed.getD k false=decide (k<s))→ops.length-s≤fuel→wpAnyIn (FR r) 0 P .any ops.toArray Q fuel listed a w
theorem wpIn_shift {o:Oper} {a:Act} {w:World} {K K':Act→World→Prop} {R:Act→World→Prop} (hh:o.wpIn (FR r) 0 P a w K (Exit.then R Q)) (h: ∀a w,K a w→K' a w):o.wpIn (FR r) 0 P a w K' Q:=by
 unfold Oper.wpIn at *
 refine ⟨hh.1,?_⟩
 have hh:=hh.2
 generalize (o.semAt (FR r).round a.eval).run P w=x at *
 cases x with
 | ok x w' =>
  cases x<;>simp only [Oper.uponIn] at hh ⊢ <;>
   first
    | exact h _ _ hh
    | exact ⟨hh.1,CallsIn.mono hh.2 (fun e w'' he=>by cases e<;>first|exact h _ _ he|exact he)⟩
    | exact ⟨hh.1,RowsIn.mono hh.2 (fun _ _ he=>h _ _ he)⟩
    | exact ⟨hh.1,RoundIn.mono hh.2 (fun e w'' he=>by cases e<;>first|exact h _ _ he|exact he)⟩
 | halt x w'=>cases x<;>simp only [Oper.uponIn] at hh ⊢ <;>exact hh
def RW (P:Program) (r:Option Nat) (Q:Exit→Act→World→Prop) (N:Nat) (ds:List Deferred) (ops:List Oper) (s:Nat) (E:Env) (w:World):Prop :=
 ∀ (a:Act),Fit N ds E a→RK P r Q ops s a w
theorem CW.drawR {id:Nat} {E:Env} {w:World} (hm:P.follows .mixedOrders=true) (h: ∀W,Below w.heap.size w W→RW P r Q N ds ops 0 E W):CW P r Q N ds (.region id ops.toArray true) E w:=by
 intro a ha
 refine wpIn_region_any hm ?_
 have e:ops.toArray.size=ops.length:=by simp
 rw [e]
 exact h {w with drawn:=w.drawn+1} ⟨rfl,rfl,rfl,Nat.le_refl _,fun _ _=>rfl⟩ a ha (Array.replicate ops.length false) _ (by simp) (fun k hk=>by simp [hk]) (Nat.sub_le _ _)
theorem RW.drawI {E:Env} {w W:World} {s:Nat} (m:Mode) (t:Nat) (hlex:lexOK ops=true) (hcut:cutOK ops s t=true) (hst:Nat.ble s t=true) (htl:Nat.ble t ops.length=true) (hb:Below w.heap.size w W)
  (h:DW P N ds m ops w (fun D=> ∀a w',Below w.heap.size w w'→(discOf w W.drawn m).inv w'→FitD N ds D a w'→RK P r Q ops t a w') (stretch ops s t) (lift E)):RW P r Q N ds ops s E W:=by
 have hst:=Nat.le_of_ble_eq_true hst
 have htl:=Nat.le_of_ble_eq_true htl
 intro a ha listed fuel hsz hls hfu
 obtain ⟨ges,hl,hF,hstep⟩:=DW.entries W.drawn h
 have hl':ges.length=t-s:=by rw [hl]; unfold stretch; simp; omega
 refine draw_sound (N:=N) (ds:=ds) (w0:=w) (a0:=a) (D0:=lift E) (ges:=ges) (discOf w W.drawn m) hlex hcut hst htl hl' ?_ (fun i j o o' _ _ _ _ h _=>by cases m<;>cases h) ?_ ?_ fuel listed a W hsz ?_ ?_
 ·intro i o G e E hi hg
  have hil:i<t-s:=by rw [←hl']; exact (List.getElem?_eq_some_iff.1 hg).1
  exact hstep i o G e E (by rw [stretch_get,if_pos hil]; exact hi) hg
 ·intro i c e he
  rw [dlook_lift] at he
  cases hlk:look E i with
  | none=>rw [hlk] at he; cases he
  | some p =>
   rw [hlk] at he
   simp only [Option.map_some,Option.some.injEq,Prod.mk.injEq] at he
   obtain ⟨rfl,rfl⟩:=he
   exact ⟨_,rfl,ha.slots i p.1 p.2 hlk⟩
 ·intro fuel listed a w' hsz hls hfu hb' hinv _ hfit
  exact hF a w' (by cases m<;>exact hb') hinv hfit listed fuel hsz hls hfu
 ·refine Nat.le_trans ?_ hfu
  have:(List.range ops.length).filter (fun k=> !listed.getD k false)=(List.range ops.length).filter (fun k=>decide (s≤k)):=by
   refine List.filter_congr fun k hk=> ?_
   rw [hls k (by simpa using hk)]
   by_cases h1:k<s<;>simp [h1]<;>omega
  rw [this,show ops.length=s+(ops.length-s) by omega,List.range_add,List.filter_append]
  simp
  rw [List.filter_eq_nil_iff.2 (by intro x hx; simp at hx; simp; omega)]
  refine Nat.le_trans (Nat.add_le_add_left (List.length_filter_le _ _) _) ?_
  simp
 ·have hnl: ∀k,s≤k→listed.getD k false=false:=by
   intro k hk
   rcases Nat.lt_or_ge k ops.length with h|h
   ·rw [hls k h]; simp; omega
   ·simp [Array.getElem?_eq_none (show listed.size≤k by omega)]
  refine ⟨by cases m<;>exact hb,fun k o _ _ h _=>(by cases m<;>cases h),by cases m<;>first|trivial|exact Nat.le_refl _,fun k o _ _ _ _ _ h=>(by cases m<;>cases h),ha.size,ha.defers,fun k hk=>by rw [hls k (by omega)]; simp [hk],fun k hk=>hnl k (by omega),?_,?_,fun _ _ _ _ _ _ _=>rfl,fun _ _=>rfl,?_⟩
  ·intro k o d G e E hk _ _ hlk
   rw [hnl _ (by omega)] at hlk; cases hlk
  ·intro k o d G e E k' o' d' G' e' E' hk _ _ hlk
   rw [hnl _ (by omega)] at hlk; cases hlk
  ·intro k o hk hlk e he hbi
   have hks:k<s:=by
    rcases Nat.lt_or_ge k s with h|h
    ·exact h
    ·rw [hnl k h] at hlk; cases hlk
   have hon:=(lexOK_spec hlex hk hk).1 e he hbi
   rw [hls e.on (by omega)]
   simp; omega
theorem DW.mono {w:World} {F F':DE→Prop} (hF: ∀D,F D→F' D) (m:Mode) (rest:List Oper): ∀(D:DE),DW P N ds m ops w F rest D→DW P N ds m ops w F' rest D:=by
 induction rest with
 | nil=>intro D h; cases m<;>exact hF D h
 | cons o rest ih =>
  intro D h
  cases m with
  | weak=>obtain ⟨G,e,h1,h2⟩:=h; exact ⟨G,e,h1,ih _ h2⟩
  | own=>obtain ⟨G,e,s,h1,h2⟩:=h; exact ⟨G,e,s,h1,ih _ h2⟩
  | cnt=>obtain ⟨G,e,h1,h2⟩:=h; exact ⟨G,e,h1,ih _ h2⟩
theorem RW.draw {E:Env} {w W:World} {s:Nat} (m:Mode) (t:Nat) (hlex:lexOK ops=true) (hcut:cutOK ops s t=true) (hst:Nat.ble s t=true) (htl:Nat.ble t ops.length=true) (hb:Below w.heap.size w W)
  (h:DW P N ds m ops w (fun D=> ∀a w',Below w.heap.size w w'→FitD N ds D a w'→RK P r Q ops t a w') (stretch ops s t) (lift E)):RW P r Q N ds ops s E W :=
 RW.drawI m t hlex hcut hst htl hb (DW.mono (fun _ hD a w' hb' _ hfit=>hD a w' hb' hfit) m _ _ h)
theorem RW.one {E:Env} {w:World} {s:Nat} {o:Oper} (hlex:lexOK ops=true) (hcut:cutOK ops s (s+1)=true) (ho:ops[s]?=some o)
  (h:TW P r (Exit.then (RK P r Q ops (s+1)) Q) N ds ops [o] E w):RW P r Q N ds ops s E w:=by
 have hsl:s<ops.length:=(List.getElem?_eq_some_iff.1 ho).1
 intro a ha listed fuel hsz hls hfu
 obtain ⟨fuel,rfl⟩: ∃f,fuel=f+1:=⟨fuel-1,by omega⟩
 have hready: ∀i,i∈Region.ready .any ops.toArray listed→i=s:=by
  intro i hi
  unfold Region.ready at hi
  rw [List.mem_filter] at hi
  obtain ⟨hi1,hi2⟩:=hi
  have hil:i<ops.length:=by simpa using hi1
  have hok:ops[i]?=some ops[i]:=List.getElem?_eq_getElem hil
  simp only [Bool.and_eq_true,List.getElem?_toArray,hok,Option.map_some,Option.getD_some] at hi2
  obtain ⟨hi2,hi3⟩:=hi2
  have hni:listed.getD i false=false:=by
   have hs:i<listed.size:=by omega
   simpa [hs] using hi2
  rw [hls i hil] at hni
  have hsi:s≤i:=by simpa using hni
  rcases Nat.lt_or_ge s i with hlt|hge
  ·exfalso
   rw [Array.all_eq_true'] at hi3
   have hback: ∀k o,ops[k]?=some o→ ∀e∈o.after,Region.binds .any e=true→e.on<k:=fun k o hk e he hb=>(lexOK_spec hlex hk hk).1 e he hb
   have hclosed: ∀k o,ops[k]?=some o→listed.getD k false=true→ ∀e∈o.after,Region.binds .any e=true→listed.getD e.on false=true:=by
    intro k o hk hlk e he hb
    have hkl:=(List.getElem?_eq_some_iff.1 hk).1
    rw [hls k hkl] at hlk
    have:=hback k o hk e he hb
    rw [hls e.on (by omega)]
    simp at hlk ⊢; omega
   have:=reach_listed hclosed hback (cutOK_spec hcut hlt hil (Nat.le_refl s) (by omega)) (fun o ho e he hb=>by
    rw [hok] at ho; cases ho
    have:=hi3 e he
    rw [hb] at this
    simpa using this)
   rw [hls s hsl] at this
   simp at this
  ·omega
 have hin:s∈Region.ready .any ops.toArray listed:=by
  unfold Region.ready
  rw [List.mem_filter]
  refine ⟨by simpa using hsl,?_⟩
  have hc':listed.getD s true=false:=by
   have h1:=hls s hsl
   have:s<listed.size:=by omega
   simpa [this] using h1
  simp only [hc',List.getElem?_toArray,ho,Option.map_some,Option.getD_some,Bool.not_false,Bool.true_and]
  rw [Array.all_eq_true']
  intro e he
  cases hbi:Region.binds .any e with
  | false=>simp
  | true =>
   have hon:=(lexOK_spec hlex ho ho).1 e he hbi
   have:listed.getD e.on false=true:=by rw [hls _ (by omega)]; simpa using hon
   simp [this]
 refine ⟨fun hr=>(by rw [hr] at hin; cases hin),fun i hi=> ?_⟩
 obtain rfl:=hready i hi
 have h1:=h a ha
 have hset: ∀k,k<ops.length→(listed.setIfInBounds i true).getD k false=decide (k<i+1):=by
  intro k hk
  by_cases hki:k=i
  ·subst hki; simp [hsz,hsl]
  ·have:i≠k:=fun e=>hki e.symm
   have h2:=hls k hk
   simp only [Array.getD_eq_getD_getElem?] at h2 ⊢
   rw [Array.getElem?_setIfInBounds_ne this,h2]
   have:(k<i)↔(k<i+1):=by omega
   simp [this]
 unfold wpOpIn
 simp only [List.getElem?_toArray,ho]
 unfold wpListIn at h1
 split at h1
 ·rename_i hwant
  rw [if_pos hwant]
  refine wpIn_shift h1 fun a' w' hK=> ?_
  exact hK _ _ (by simpa using hsz) hset (by omega)
 ·rename_i hwant
  rw [if_neg hwant]
  exact ⟨fun _ _=>trivial,h1.2 _ _ (by simpa using hsz) hset (by omega)⟩
theorem RW.nil {E:Env} {w:World} (h:KW N ds (Q .normal) E w):RW P r Q N ds ops ops.length E w:=by
 intro a ha listed fuel hsz hls _
 have hr:Region.ready .any ops.toArray listed= []:=by
  unfold Region.ready
  rw [List.filter_eq_nil_iff]
  intro k hk
  have hk:k<ops.length:=by simpa using hk
  have h1:=hls k hk
  have:k<listed.size:=by omega
  have h2:listed.getD k true=true:=by simpa [this,hk] using h1
  simp [h2]
 cases fuel with
 | zero=>exact ⟨hr,h a ha⟩
 | succ f=>exact ⟨fun _=>h a ha,fun i hi=>by rw [hr] at hi; cases hi⟩
theorem CW.drawM (m:Mode) {id:Nat} {E:Env} {w:World} (hm:P.follows .mixedOrders=true) (hlex:lexOK ops=true)
  (h:DW P N ds m ops w (fun D=> ∀a w',Below w.heap.size w w'→FitD N ds D a w'→Q .normal a w') ops (lift E)):CW P r Q N ds (.region id ops.toArray true) E w:=by
 refine CW.drawR hm fun W hb=>RW.draw m ops.length hlex ?_ (Nat.ble_eq_true_of_le (Nat.zero_le _)) (Nat.ble_eq_true_of_le (Nat.le_refl _)) hb ?_
 ·unfold cutOK
  have hlen:(masks ops).length=ops.length:=by unfold masks; rw [masksGo_len]; simp
  rw [List.drop_eq_nil_of_le (by omega)]
  rfl
 ·have e:stretch ops 0 ops.length=ops:=by unfold stretch; simp
  rw [e]
  refine DW.mono (fun D hD a w' hb' hfit listed fuel hsz hls hfu=> ?_) m ops (lift E) h
  have hr:Region.ready .any ops.toArray listed= []:=by
   unfold Region.ready
   rw [List.filter_eq_nil_iff]
   intro k hk
   have hk:k<ops.length:=by simpa using hk
   have h1:=hls k hk
   have:k<listed.size:=by omega
   have h2:listed.getD k true=true:=by simpa [this,hk] using h1
   simp [h2]
  cases fuel with
  | zero=>exact ⟨hr,hD a w' hb' hfit⟩
  | succ f=>exact ⟨fun _=>hD a w' hb' hfit,fun i hi=>by rw [hr] at hi; cases hi⟩
theorem CW.draw {id:Nat} {E:Env} {w:World} (hm:P.follows .mixedOrders=true) (hlex:lexOK ops=true)
  (h:DW P N ds .weak ops w (fun D=> ∀a w',Below w.heap.size w w'→FitD N ds D a w'→Q .normal a w') ops (lift E)):CW P r Q N ds (.region id ops.toArray true) E w:=CW.drawM .weak hm hlex h
theorem CW.drawO {id:Nat} {E:Env} {w:World} (hm:P.follows .mixedOrders=true) (hlex:lexOK ops=true)
  (h:DW P N ds .own ops w (fun D=> ∀a w',Below w.heap.size w w'→FitD N ds D a w'→Q .normal a w') ops (lift E)):CW P r Q N ds (.region id ops.toArray true) E w:=CW.drawM .own hm hlex h
end sound
end Go.PF
namespace Go.PF
open Go.RowKit
section
variable {P:Program} {r:Option Nat} {Q:Exit→Act→World→Prop} {N:Nat} {ds:List Deferred} {ops rest:List Oper} {E:Env} {D:DE} {w:World} {G:Option Bool} {Fin:DE→Prop} {md:Mode}
variable {d:Option Tmp} {ty:TypeId} {pos:String} {af:Array Edge} {gu:Option (Nat×Bool)}
variable {x y z:Operand} {cx cy cz:Option Bool} {ρ:Operand→Value}
theorem CW.scope {c:Code} (h:CW P none (Exit.noGoto Q) N ds c E w):CW P none Q N ds (.scope c) E w:=fun a ha=>wpIn_wide.2 (wp_scope_straight (wpIn_wide.1 (h a ha)))
theorem CW.label {l:Nat} (h:KW N ds (Q .normal) E w):CW P r Q N ds (.label l) E w:=fun a ha=>wpIn_label (h a ha)
theorem KW.scopeN (h:KW N ds (Q .normal) E w):KW N ds (Exit.noGoto Q .normal) E w:=h
theorem KW.scopeX {id:Nat} (h:KW N ds (Q (.exit id)) E w):KW N ds (Exit.noGoto Q (.exit id)) E w:=h
theorem KW.scopeR (h:KW N ds (Q .ret) E w):KW N ds (Exit.noGoto Q .ret) E w:=h
theorem TW.dead {o:Oper} (v:Value) (hg:gd ops E o.guard=some G) (hn: ¬Cnd G) (hd:okDst N o.dst=true) (next:TW P r Q N ds ops rest (ins E o.dst G v) w):TW P r Q N ds ops (o::rest) E w:=by
 intro a ha
 obtain ⟨_,h2⟩:=wanted_of ha hg
 unfold wpListIn
 rw [if_neg (by rw [h2 hn]; simp)]
 exact ⟨fun _ _=>trivial,next _ (ha.put hd (fun h=>absurd h hn) (fun _=>rfl))⟩
theorem DW.dead {o:Oper} (v:Value) (hg:dgd ops D o.guard=some G) (hn: ¬Cnd G) (hd:okDst N o.dst=true) (hno:noDefer o.op=true) (next:DW P N ds md ops w Fin rest (dins D o.dst G (.ex v))):DW P N ds md ops w Fin (o::rest) D :=
 DW.val hg hd hno (fun hG=>absurd hG hn) next
theorem RW.end {s:Nat} (hs:s=ops.length) (h:KW N ds (Q .normal) E w):RW P r Q N ds ops s E w:=by subst hs; exact RW.nil h
theorem KW.rk {s:Nat} (h:RW P r Q N ds ops s E w):KW N ds (Exit.then (RK P r Q ops s) Q .normal) E w:=h
theorem KW.rk' {s:Nat} (h:RW P r Q N ds ops s E w):KW N ds (RK P r Q ops s) E w:=h
theorem X.sliceH {A:Option Addr} {l c sz:Nat} {k:IntKind} {i:Int} {t e:TypeId} (ht:P.underlying t=some (.slice e)) (hs:(P.info? e).map (·.size)=some sz) (hx:ρ x= .slice A l c) (hy:ρ y= .int k i) (hb:0≤i∧i≤(c:Int)):(execOp ρ ⟨d,.slice t x none (some y) none,ty,pos,af,gu⟩).run P w= .ok (.value (.slice A i.toNat c)) w:=by 
  simp only [execOp,Option.map_some,Option.map_none]; rw [hx,hy]
  simp [Instr.sliceAt,Instr.slice,run_underlying ht,Instr.sliceBounds,Instr.sliceBound,asIntOf,hb,run_sizeOf hs]
  intro _
  cases A with
  | none=>rfl
  | some a=>obtain ⟨b,o,f⟩:=a; cases f<;>simp [Addr.add]
theorem V.sliceH {A:Option Addr} {l c sz:Nat} {k:IntKind} {i:Int} {t e:TypeId} [Und P t (.slice e)] [Sz P e sz]:Val P ⟨d,.slice t x none (some y) none,ty,pos,af,gu⟩ [x,y] [.slice A l c,.int k i] (0≤i∧i≤(c:Int)) (.slice A i.toNat c) :=
 ⟨rfl,by simp [Op.operands,Call.operands],fun hb ρ w h=>by
  obtain ⟨hx,hy⟩:=map2 h
  have ht:P.underlying t=some (.slice e):=Und.q
  have hs:(P.info? e).map (·.size)=some sz:=Sz.q
  simp only [execOp,Option.map_some,Option.map_none]; rw [hx,hy]
  simp [Instr.sliceAt,Instr.slice,run_underlying ht,Instr.sliceBounds,Instr.sliceBound,asIntOf,hb,run_sizeOf hs]
  intro _
  cases A with
  | none=>rfl
  | some a=>obtain ⟨b,o,f⟩:=a; cases f<;>simp [Addr.add]⟩
theorem X.sliceL {A:Option Addr} {l c sz:Nat} {k:IntKind} {i:Int} {t e:TypeId} (ht:P.underlying t=some (.slice e)) (hs:(P.info? e).map (·.size)=some sz) (hx:ρ x= .slice A l c) (hy:ρ y= .int k i) (hb:0≤i∧i≤(l:Int)):(execOp ρ ⟨d,.slice t x (some y) none none,ty,pos,af,gu⟩).run P w= .ok (.value (.slice (if c=i.toNat then A else A.map (·.add (i.toNat*sz))) (l-i.toNat) (c-i.toNat))) w:=by 
  simp only [execOp,Option.map_some,Option.map_none]; rw [hx,hy]
  simp [Instr.sliceAt,Instr.slice,run_underlying ht,Instr.sliceBounds,Instr.sliceBound,asIntOf,hb,run_sizeOf hs]
theorem V.sliceL {A:Option Addr} {l c sz:Nat} {k:IntKind} {i:Int} {t e:TypeId} [Und P t (.slice e)] [Sz P e sz]:Val P ⟨d,.slice t x (some y) none none,ty,pos,af,gu⟩ [x,y] [.slice A l c,.int k i] (0≤i∧i≤(l:Int)) (.slice (if c=i.toNat then A else A.map (·.add (i.toNat*sz))) (l-i.toNat) (c-i.toNat)) :=
 ⟨rfl,by simp [Op.operands,Call.operands],fun hb ρ w h=>by
  obtain ⟨hx,hy⟩:=map2 h
  have ht:P.underlying t=some (.slice e):=Und.q
  have hs:(P.info? e).map (·.size)=some sz:=Sz.q
  simp only [execOp,Option.map_some,Option.map_none]; rw [hx,hy]
  simp [Instr.sliceAt,Instr.slice,run_underlying ht,Instr.sliceBounds,Instr.sliceBound,asIntOf,hb,run_sizeOf hs]⟩
theorem X.indexAddrA {ad:Addr} {l sz:Nat} {t e:TypeId} {k:IntKind} {i:Int} (ht:P.underlying t=some (.array l e)) (hs:(P.info? e).map (·.size)=some sz) (hx:ρ x= .pointer (some ad)) (hy:ρ y= .int k i) (hi:0≤i∧i<(l:Int)):(execOp ρ ⟨d,.indexAddr t x y,ty,pos,af,gu⟩).run P w= .ok (.value (.pointer (some (ad.add (i.toNat*sz))))) w:=by simp only [execOp]; rw [hx,hy]; simp [Instr.indexAt,run_underlying ht,asIntOf,Instr.sureAddr,hi,run_sizeOf hs]
theorem V.indexAddrA {ad:Addr} {l sz:Nat} {t e:TypeId} {k:IntKind} {i:Int} [Und P t (.array l e)] [Sz P e sz]:Val P ⟨d,.indexAddr t x y,ty,pos,af,gu⟩ [x,y] [.pointer (some ad),.int k i] (0≤i∧i<(l:Int)) (.pointer (some (ad.add (i.toNat*sz)))) :=
 ⟨rfl,by simp [Op.operands,Call.operands],fun hi ρ w h=>by
  obtain ⟨hx,hy⟩:=map2 h
  have ht:P.underlying t=some (.array l e):=Und.q
  have hs:(P.info? e).map (·.size)=some sz:=Sz.q
  simp only [execOp]; rw [hx,hy]; simp [Instr.indexAt,run_underlying ht,asIntOf,Instr.sureAddr,hi,run_sizeOf hs]⟩
theorem TW.bytesOf {s:ByteArray} {t t' e:TypeId} (hg:gu=none) (hd:okDst N d=true) (ht:P.underlying t=some .string) (ht':P.underlying t'=some (.slice e)) (he:P.underlying e=some (.int .u8)) (hx:ev E x=some (none,.string s))
  (next: ∀g c w',w'.heap.size=w.heap.size+1→g=w.heap.size→Below w.heap.size w w'→(∀i,i<s.size→w'.cell? ⟨g,i,none⟩=some (.int .u8 ((s.data.getD i 0).toNat:Int)))→TW P r Q N ds ops rest (ins E d none (.slice (some ⟨g,0,none⟩) s.size c)) w') :
  TW P r Q N ds ops (⟨d,.convert t t' x,ty,pos,af,gu⟩::rest) E w:=by
 refine TW.eff (v:= .slice (some ⟨w.heap.size,0,none⟩) s.size (grownCap w s.size 0 e)) hg hd rfl (fun a ha=> ?_) (next w.heap.size _ (w.drew.alloc (.cells (bytesRow s (grownCap w s.size 0 e)) e ((bytesRow s (grownCap w s.size 0 e)).size,(bytesRow s (grownCap w s.size 0 e)).size+1))) ?_ rfl ?_ ?_)
 ·simp only [execOp]; rw [ha.eval hx trivial]
  simp [run_bytes_of_string w t t' e s ht ht' he]
 ·simp
 ·exact ((Below.refl _ _).drew).alloc (Nat.le_refl _) _
 ·intro i hi
  have h1:(w.drew.alloc (.cells (bytesRow s (grownCap w s.size 0 e)) e ((bytesRow s (grownCap w s.size 0 e)).size,(bytesRow s (grownCap w s.size 0 e)).size+1))).heap[w.heap.size]?=some (.cells (bytesRow s (grownCap w s.size 0 e)) e ((bytesRow s (grownCap w s.size 0 e)).size,(bytesRow s (grownCap w s.size 0 e)).size+1)):=heap_alloc_new w.drew _
  have hi':i<s.data.size:=hi
  unfold World.cell?
  rw [h1]
  simp [bytesRow,hi,Array.getElem?_append,Array.getElem?_eq_getElem hi']
def rowE (w0:World) (e:TypeId) (sz n:Nat) (xs:List Value):Ent:= .own (fun v w=>OwnS w e sz v n xs∧ ∀g,v.ownBlock=some g→w0.heap.size≤g) (fun v g=>v.ownBlock=some g)
theorem rowE_strong (w0:World) (e:TypeId) (sz n:Nat) (xs:List Value):(rowE w0 e sz n xs).strong w0 :=
 ⟨fun _ _ _ _ hk h=>⟨h.1.kept hk,h.2⟩,fun _ _ h g hg=>⟨h.2 g hg,h.1.lt hg⟩⟩
theorem OW.gen {o:Oper} (e:Ent) (eats:List Nat) (hg:dgd ops D o.guard=some G) (hd:okDst N o.dst=true) (hn:noDefer o.op=true) (hst:e.strong w) (hso:sole ops o eats=true) (heo: ∀s,s∈eats→ ∃c φ S,dlook D s=some (c,.own φ S))
  (hrun:Cnd G→ ∀a w',Below w.heap.size w w'→FitL N ds (o.looksAt ops.toArray) D a w'→ ∃v w'',(execOp a.eval o).run P w'= .ok (.value v) w''∧StepO w w' w'' (EatF D eats a)∧e.sat v w''∧ ∀g,e.foot v g→EatF D eats a g∨w'.heap.size≤g)
  (next:DW P N ds .own ops w Fin rest (dins (ddrop D eats) o.dst G e)):DW P N ds .own ops w Fin (o::rest) D :=
 ⟨G,e,eats,⟨hg,hd,hn,hst,hso,heo,fun hG a w' hb ha=> .inl (hrun hG a w' hb ha)⟩,next⟩
theorem OW.enter {o:Oper} (e:Ent) (eats:List Nat) (hg:dgd ops D o.guard=some G) (hd:okDst N o.dst=true) (hn:noDefer o.op=true) (hst:e.strong w) (hso:sole ops o eats=true) (heo: ∀s,s∈eats→ ∃c φ S,dlook D s=some (c,.own φ S))
  (hrun:Cnd G→ ∀a w',Below w.heap.size w w'→FitL N ds (o.looksAt ops.toArray) D a w'→ ∃f vs,(execOp a.eval o).run P w'= .ok (.enter f vs) w'∧Gives P f vs w' fun v w''=>StepO w w' w'' (EatF D eats a)∧e.sat v w''∧ ∀g,e.foot v g→EatF D eats a g∨w'.heap.size≤g)
  (next:DW P N ds .own ops w Fin rest (dins (ddrop D eats) o.dst G e)):DW P N ds .own ops w Fin (o::rest) D :=
 ⟨G,e,eats,⟨hg,hd,hn,hst,hso,heo,fun hG a w' hb ha=> .inr (hrun hG a w' hb ha)⟩,next⟩
theorem stepO_below {w0 w w':World} {E:Nat→Prop} (hb:Below w0.heap.size w0 w) (h:Below w.heap.size w w'):StepO w0 w w' E:=⟨h.mono hb.size,fun b _ hb _=>h.block b hb⟩
theorem OW.buildSlice {t:TypeId} (e:TypeId) {sz len:Nat} {parts:Array (Nat×Operand)} (xs:List Operand) {vs cs:List Value} (hg:dgd ops D gu=some G) (hd:okDst N d=true) (hp:parts.toList=number xs) (he:elemOK P t e sz=true)
  (hx:DArgs (Oper.looksAt ops.toArray ⟨d,.buildSlice t len parts,ty,pos,af,gu⟩) N ds D G xs vs) (hl:len=vs.length) (hsz:vs.all (fun v=>Nat.beq v.cells.size sz)=true) (hsm:Nat.ble (vs.length*sz) 16777216=true) (hpos:Nat.blt 0 vs.length=true) (hc:(vs.map fun v=>v.cells.toList).flatten=cs)
  (next:DW P N ds .own ops w Fin rest (dins D d G (rowE w e sz len cs))):DW P N ds .own ops w Fin (⟨d,.buildSlice t len parts,ty,pos,af,gu⟩::rest) D:=by
 subst hl
 have hv': ∀v∈vs,v.cells.size=sz:=fun v hm=>Nat.eq_of_beq_eq_true (List.all_eq_true.1 hsz v hm)
 have hcl:cs.length=vs.length*sz:=by
  have key: ∀us:List Value,(∀v∈us,v.cells.size=sz)→((us.map fun v=>v.cells.toList).flatten).length=us.length*sz:=by
   intro us
   induction us with
   | nil=>simp
   | cons v us ih =>
    intro h
    have h1:=h v (by simp)
    have h2:=ih (fun u hu=>h u (by simp [hu]))
    simp only [List.map_cons,List.flatten_cons,List.length_append,List.length_cons,h2,Array.length_toList,h1]
    rw [Nat.succ_mul]; omega
  rw [←hc]; exact key vs hv'
 have hfl:vs.flatMap (fun v=>v.cells.toList)=cs:=by rw [←hc]; simp [List.flatMap]
 refine OW.gen (rowE w e sz vs.length cs) [] hg hd rfl (rowE_strong _ _ _ _ _) rfl (fun s hs=>by simp at hs) (fun hG a w' hb ha=> ?_) (by rw [ddrop_nil]; exact next)
 refine ⟨_,_,X.buildSlice hp rfl he (hx (fun t ht=>mem_looks ?_) a w' ha hG) hv' (Nat.le_of_ble_eq_true hsm) (blt_iff.1 hpos),stepO_below hb ((Below.refl _ _).alloc (Nat.le_refl _) _),⟨?_,?_⟩,?_⟩
 ·simp only [Op.operands]
  rw [hp]
  simp only [number,List.map_map]
  rw [List.mem_map]
  obtain ⟨j,hj,he⟩:=List.getElem_of_mem ht
  exact ⟨(Operand.tmp t,j),by rw [List.mem_zipIdx_iff_getElem?]; simp [he.symm],rfl⟩
 ·rw [hfl]
  refine OwnS.of_blk (Blk.new w' e cs) hcl ?_
  have h1:=Nat.le_of_ble_eq_true hsm
  obtain ⟨_,_,_,_,_,_,_,h0⟩:=elemOK_spec he
  have:vs.length≤vs.length*sz:=Nat.le_mul_of_pos_right _ h0
  omega
 ·intro g hg
  simp [Value.ownBlock] at hg
  subst hg
  exact hb.size
 ·intro g hg
  simp [Ent.foot,rowE,Value.ownBlock] at hg
  exact .inr (by omega)
theorem OW.buildSlice0 {t:TypeId} (e:TypeId) {sz:Nat} (hg:dgd ops D gu=some G) (hd:okDst N d=true) (he:elemOK P t e sz=true)
  (next:DW P N ds .own ops w Fin rest (dins D d G (rowE w e sz 0 []))):DW P N ds .own ops w Fin (⟨d,.buildSlice t 0 #[],ty,pos,af,gu⟩::rest) D:=by
 obtain ⟨i,zv,hu,hi,hz,rfl,hzs,hs⟩:=elemOK_spec he
 refine OW.gen (rowE w e i.size 0 []) [] hg hd rfl (rowE_strong _ _ _ _ _) rfl (fun s hs=>by simp at hs) (fun hG a w' hb ha=> ?_) (by rw [ddrop_nil]; exact next)
 refine ⟨.slice (some ⟨w'.heap.size,0,none⟩) 0 0,w'.alloc (.cells [].toArray e),?_,stepO_below hb ((Below.refl _ _).alloc (Nat.le_refl _) _),⟨?_,?_⟩,?_⟩
 ·simp [execOp,Instr.buildSlice,run_underlying hu,sizeOf,typeInfo,hi,Instr.fill,newRow,Array.range_zero']
 ·exact OwnS.of_blk (Blk.new w' e []) (by simp) (by omega)
 ·intro g hg
  simp [Value.ownBlock] at hg
  subst hg
  exact hb.size
 ·intro g hg
  simp [Ent.foot,rowE,Value.ownBlock] at hg
  exact .inr (by omega)
theorem OW.appendG {t e:TypeId} {sz bytes n m:Nat} {st:Tmp} {xs:List Value} (news:List Value) (hg:dgd ops D gu=some G) (hd:okDst N d=true) (ho:growOK P t e sz bytes=true) (hs:dlook D st=some (none,rowE w e sz n xs)) (hso:sole ops ⟨d,.call ⟨.builtin .append,#[.tmp st,x],#[t,t]⟩,ty,pos,af,gu⟩ [st]=true)
  (hx:Cnd G→ ∀a w',Below w.heap.size w w'→FitL N ds (Oper.looksAt ops.toArray ⟨d,.call ⟨.builtin .append,#[.tmp st,x],#[t,t]⟩,ty,pos,af,gu⟩) D a w'→ ∃A c,a.eval x= .slice A m c∧ ∀j u,news[j]?=some u→ ∃ad,A=some ad∧w'.cell? (ad.add j)=some u)
  (hl:news.length=m*sz) (h1: ∀u∈news,u.oneCell'=true) (hb:(n+m)*bytes≤140737488355328) (hb0:1≤bytes)
  (next:DW P N ds .own ops w Fin rest (dins (ddrop D [st]) d G (rowE w e sz (n+m) (xs++news)))):DW P N ds .own ops w Fin (⟨d,.call ⟨.builtin .append,#[.tmp st,x],#[t,t]⟩,ty,pos,af,gu⟩::rest) D:=by
 refine OW.gen (rowE w e sz (n+m) (xs++news)) [st] hg hd rfl (rowE_strong _ _ _ _ _) hso (fun s hs'=>⟨none,_,_,by simp at hs'; subst hs'; exact hs⟩) (fun hG a w' hb' ha=> ?_) next
 have hst:OwnS w' e sz (a.eval (.tmp st)) n xs∧ ∀g,(a.eval (.tmp st)).ownBlock=some g→w.heap.size≤g :=
  (ha.slots st (mem_looks (o:=⟨d,.call ⟨.builtin .append,#[.tmp st,x],#[t,t]⟩,ty,pos,af,gu⟩) (by simp [Op.operands,Call.operands])) none _ hs).1 trivial
 obtain ⟨A,c,hev,hcell⟩:=hx hG a w' hb' ha
 obtain ⟨v',w'',a1,a2,a3,a5⟩:=append_run (ty:=ty) (c:=c) ho hst.1 hl hcell h1 hb hb0
 refine ⟨v',w'',?_,⟨?_,?_⟩,⟨a2,?_⟩,?_⟩
 ·simp only [execOp,resolve,invoke,builtin,Sem.run_bind,Sem.run_pure,Result.andThen_ok,List.map_toArray,List.map_cons,List.map_nil,hev,a1]
 ·exact (Below.refl _ _).grown a3 hb'.size hst.2
 ·intro b hb1 hb2 hE
  refine a3.block b hb2 (fun h=>hE ⟨st,none,_,by simp [hasN,beq_self],hs,trivial,?_⟩)
  exact h.symm
 ·intro g hg
  rcases a5 with h|h
  ·exact hst.2 g (by rw [←h]; exact hg)
  ·rw [hg] at h; simp at h; have:=hb'.size; omega
 ·intro g hg
  rcases a5 with h|h
  ·exact .inl ⟨st,none,_,by simp [hasN,beq_self],hs,trivial,by show (a.eval (.tmp st)).ownBlock=some g; rw [←h]; exact hg⟩
  ·have hg:v'.ownBlock=some g:=hg
   rw [hg] at h; simp at h; exact .inr (by omega)
theorem OW.append {t e:TypeId} {sz bytes n m c:Nat} {st:Tmp} {xs:List Value} {A:Option Addr} (news:List Value) (hg:dgd ops D gu=some G) (hd:okDst N d=true) (ho:growOK P t e sz bytes=true) (hs:dlook D st=some (none,rowE w e sz n xs)) (hso:sole ops ⟨d,.call ⟨.builtin .append,#[.tmp st,x],#[t,t]⟩,ty,pos,af,gu⟩ [st]=true)
  (hx:dev D x=some (cx,.ex (.slice A m c))) (ix:Cnd G→Cnd cx) (hn: ∀j u,news[j]?=some u→ ∃ad,A=some ad∧w.cell? (ad.add j)=some u)
  (hl:news.length=m*sz) (h1: ∀u∈news,u.oneCell'=true) (hb:(n+m)*bytes≤140737488355328) (hb0:1≤bytes)
  (next:DW P N ds .own ops w Fin rest (dins (ddrop D [st]) d G (rowE w e sz (n+m) (xs++news)))):DW P N ds .own ops w Fin (⟨d,.call ⟨.builtin .append,#[.tmp st,x],#[t,t]⟩,ty,pos,af,gu⟩::rest) D :=
 OW.appendG news hg hd ho hs hso (fun hG a w' hb' ha=>⟨A,c,ha.eval (o:=⟨d,.call ⟨.builtin .append,#[.tmp st,x],#[t,t]⟩,ty,pos,af,gu⟩) hx (by simp [Op.operands,Call.operands]) (ix hG),fun j u hj=>by
  obtain ⟨ad,h1,h2⟩:=hn j u hj
  exact ⟨ad,h1,(hb'.cell (block_lt_of_cell h2)).trans h2⟩⟩) hl h1 hb hb0 next
theorem OW.appendR {t e e':TypeId} {sz bytes n m:Nat} {st sx:Tmp} {xs:List Value} (news:List Value) (hg:dgd ops D gu=some G) (hd:okDst N d=true) (ho:growOK P t e sz bytes=true) (hs:dlook D st=some (none,rowE w e sz n xs)) (hso:sole ops ⟨d,.call ⟨.builtin .append,#[.tmp st,.tmp sx],#[t,t]⟩,ty,pos,af,gu⟩ [st]=true)
  (hx:dlook D sx=some (cx,rowE w e' sz m news)) (ix:Cnd G→Cnd cx)
  (h1: ∀u∈news,u.oneCell'=true) (hb:(n+m)*bytes≤140737488355328) (hb0:1≤bytes) (hl:news.length=m*sz)
  (next:DW P N ds .own ops w Fin rest (dins (ddrop D [st]) d G (rowE w e sz (n+m) (xs++news)))):DW P N ds .own ops w Fin (⟨d,.call ⟨.builtin .append,#[.tmp st,.tmp sx],#[t,t]⟩,ty,pos,af,gu⟩::rest) D :=
 OW.appendG news hg hd ho hs hso (fun hG a w' hb' ha=>by
  have hr:OwnS w' e' sz (a.eval (.tmp sx)) m news∧_:=(ha.slots sx (mem_looks (o:=⟨d,.call ⟨.builtin .append,#[.tmp st,.tmp sx],#[t,t]⟩,ty,pos,af,gu⟩) (by simp [Op.operands,Call.operands])) cx _ hx).1 (ix hG)
  obtain ⟨A,cap,h1,_,_,h2⟩:=hr.1.form
  refine ⟨A,cap,h1,fun j u hj=> ?_⟩
  obtain ⟨g,q1,_,q3,_⟩:=h2 j u hj
  exact ⟨_,q1,by
   have e:Addr.add ⟨g,0,none⟩ j=⟨g,j,none⟩:=by unfold Addr.add; split<;>simp_all
   rw [e]; exact q3⟩) hl h1 hb hb0 next
theorem OW.assign {φ:Value→World→Prop} {S:Value→Nat→Prop} {st:Tmp} (hg:dgd ops D gu=some G) (hd:okDst N d=true) (hs:dlook D st=some (cx,.own φ S)) (ix:Cnd G→Cnd cx) (hst:(Ent.own φ S).strong w) (hso:sole ops ⟨d,.assign (.tmp st),ty,pos,af,gu⟩ [st]=true)
  (next:DW P N ds .own ops w Fin rest (dins (ddrop D [st]) d G (.own φ S))):DW P N ds .own ops w Fin (⟨d,.assign (.tmp st),ty,pos,af,gu⟩::rest) D :=
 OW.gen (.own φ S) [st] hg hd rfl hst hso (fun s hs'=>⟨cx,φ,S,by simp at hs'; subst hs'; exact hs⟩) (fun hG a w' hb' ha =>
  have h:=(ha.slots st (mem_looks (o:=⟨d,.assign (.tmp st),ty,pos,af,gu⟩) (by simp [Op.operands])) cx _ hs).1 (ix hG)
  ⟨a.tmps.getD st undef,w',rfl,⟨Below.refl _ _,fun _ _ _ _=>rfl⟩,h,fun g hg=> .inl ⟨st,cx,_,by simp [hasN,beq_self],hs,ix hG,hg⟩⟩) next
theorem OW.move {φ:Value→World→Prop} {S:Value→Nat→Prop} {st:Tmp} (hg:dgd ops D gu=some G) (hd:okDst N d=true) (hs:dlook D st=some (cx,.own φ S)) (ix:Cnd G→Cnd cx) (hst:(Ent.own φ S).strong w) (hso:sole ops ⟨d,.move (.tmp st),ty,pos,af,gu⟩ [st]=true)
  (next:DW P N ds .own ops w Fin rest (dins (ddrop D [st]) d G (.own φ S))):DW P N ds .own ops w Fin (⟨d,.move (.tmp st),ty,pos,af,gu⟩::rest) D :=
 OW.gen (.own φ S) [st] hg hd rfl hst hso (fun s hs'=>⟨cx,φ,S,by simp at hs'; subst hs'; exact hs⟩) (fun hG a w' hb' ha =>
  have h:=(ha.slots st (mem_looks (o:=⟨d,.move (.tmp st),ty,pos,af,gu⟩) (by simp [Op.operands])) cx _ hs).1 (ix hG)
  ⟨a.tmps.getD st undef,w',rfl,⟨Below.refl _ _,fun _ _ _ _=>rfl⟩,h,fun g hg=> .inl ⟨st,cx,_,by simp [hasN,beq_self],hs,ix hG,hg⟩⟩) next
end
end Go.PF
namespace Go.PF
open Go.RowKit
structure Ty.Now {α:Type} (T:Ty α):Prop where
 pos:0<T.n
 now: ∀F w cs x,T.rep F w cs x→T.rep (fun k=>k<w.heap.size) w cs x
theorem intT_now:Ty.Now intT:=⟨by decide,fun _ _ _ _ h=>h⟩
theorem strT_now:Ty.Now strT:=⟨by decide,fun _ _ _ _ h=>h⟩
theorem boolT_now:Ty.Now boolT:=⟨by decide,fun _ _ _ _ h=>h⟩
theorem SL.now {α:Type} {T:Ty α} (hT:T.Now) {F:Nat→Prop} {w:World} {v:Value} {l:List α} (h:SL T F w v l):SL T (fun k=>k<w.heap.size) w v l:=by
 obtain ⟨A,cap,rfl,h1,h2,h3⟩:=h
 refine ⟨A,cap,rfl,h1,h2,fun i x hx=> ?_⟩
 obtain ⟨ad,cs,ha,hF,hc,hr⟩:=h3 i x hx
 refine ⟨ad,cs,ha,?_,hc,hT.now _ _ _ _ hr⟩
 have hl:=T.len _ _ _ _ hr
 have h0:0<cs.length:=by rw [hl]; exact hT.pos
 have:=block_lt_of_cell (hc 0 cs[0] (List.getElem?_eq_getElem h0))
 rwa [add_block,add_block] at this
theorem sliceT_now {α:Type} {T:Ty α} (hT:T.Now):Ty.Now (sliceT T):=⟨by show 0<1; decide,fun F w cs x ⟨v,h1,h2⟩=>⟨v,h1,SL.now hT h2⟩⟩
theorem SL.step {α:Type} {T:Ty α} (hT:T.Now) {F:Nat→Prop} {w w':World} {v:Value} {l:List α} (h:SL T F w v l) (hb:Below w.heap.size w w'):SL T (fun k=>k<w'.heap.size) w' v l:=(h.below hb).now hT
theorem SL.form {α:Type} {T:Ty α} {F:Nat→Prop} {w:World} {v:Value} {l:List α} (h:SL T F w v l): ∃A cap,v= .slice A l.length cap∧l.length≤cap:=by
 obtain ⟨A,cap,rfl,h1,_⟩:=h
 exact ⟨A,cap,rfl,h1⟩
theorem SL.at {α:Type} {T:Ty α} {F:Nat→Prop} {w:World} {A:Option Addr} {n cap:Nat} {l:List α} (h:SL T F w (.slice A n cap) l) {i:Nat} {x:α} (hx:l[i]?=some x) :
  ∃ ad cs,A=some ad∧F ad.block∧T.rep F w cs x∧ ∀j u,cs[j]?=some u→w.cell? ((ad.add (i*T.n)).add j)=some u:=by
 obtain ⟨A',cap',hv,_,_,h3⟩:=h
 simp only [Value.slice.injEq] at hv
 obtain ⟨rfl,_,rfl⟩:=hv
 obtain ⟨ad,cs,ha,hF,hc,hr⟩:=h3 i x hx
 exact ⟨ad,cs,ha,hF,hr,hc⟩
theorem SL.addr {α:Type} {T:Ty α} {F:Nat→Prop} {w:World} {A:Option Addr} {n cap:Nat} {l:List α} (h:SL T F w (.slice A n cap) l) (hl:0<l.length): ∃ad,A=some ad:=by
 obtain ⟨ad,_,h1,_⟩:=h.at (List.getElem?_eq_getElem hl)
 exact ⟨ad,h1⟩
theorem SL.getI {F:Nat→Prop} {w:World} {ad:Addr} {n cap:Nat} {l:List Int} (h:SL intT F w (.slice (some ad) n cap) l) {i:Nat} {x:Int} (hx:l[i]?=some x):w.cell? (ad.add ((i:Int).toNat*1))=some (.int .i64 x):=by
 obtain ⟨ad',h1,h2,_⟩:=h.int hx
 cases h1
 exact h2
theorem SL.rngI {F:Nat→Prop} {w:World} {v:Value} {l:List Int} (h:SL intT F w v l) {i:Nat} {x:Int} (hx:l[i]?=some x):I64 x:=by
 obtain ⟨A,cap,rfl,_⟩:=h.form
 obtain ⟨_,_,_,h3⟩:=h.int hx
 exact h3
theorem SL.row {α:Type} {T:Ty α} {F:Nat→Prop} {w:World} {ad:Addr} {n cap:Nat} {l:List (List α)} (h:SL (sliceT T) F w (.slice (some ad) n cap) l) {i:Nat} {r:List α} (hr:l[i]?=some r) :
  ∃ v,w.cell? (ad.add ((i:Int).toNat*1))=some v∧SL T F w v r:=by
 obtain ⟨ad',cs,h1,_,⟨v,rfl,hv⟩,hc⟩:=h.at hr
 cases h1
 refine ⟨v,?_,hv⟩
 have:=hc 0 v rfl
 rw [Addr.add_add,Nat.add_zero] at this
 exact this
end Go.PF
