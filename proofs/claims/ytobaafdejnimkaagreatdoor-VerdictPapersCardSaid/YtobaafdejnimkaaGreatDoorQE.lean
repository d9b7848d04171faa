/- Texts of this claim,joined. -/
import Derived.Test.YtobaafdejnimkaaGreatDoorQD
import Derived.Test.YtobaafdejnimkaaGreatDoorProg
import Derived.KernelRfl
set_option linter.unusedSimpArgs false
set_option linter.unusedVariables false
set_option maxRecDepth 100000
set_option maxHeartbeats 4000000
namespace Go.Ord
variable {d:Dist}
structure Ev where
 office:Int
 low:Int
 high:Int
 needs:List Int
def lowC (e:Ev):Int:=min (max e.low 0) 1000001
def highC (e:Ev):Int:=max (min e.high 1000000) (-1)
def uOf (e:Ev):U:=⟨lowC e,highC e,0,e.office.toNat,e.office.toNat⟩
structure EOK (d:Dist) (e:Ev):Prop where
 o1:0≤e.office
 o2:e.office<d.length
theorem uok_of (hd:WfD d) {e:Ev} (h:EOK d e):UOK d (uOf e):=by
 have:e.office.toNat<d.length:=by have:=h.o1; have:=h.o2; omega
 exact ⟨this,this,by rw [show at2 d (uOf e).entry (uOf e).exit=at2 d e.office.toNat e.office.toNat from rfl,hd.diag _ this]; decide,by rw [show at2 d (uOf e).entry (uOf e).exit=at2 d e.office.toNat e.office.toNat from rfl,hd.diag _ this]; exact Int.le_refl _⟩
abbrev ET:=Ev×Int
def Aft (d:Dist) (a b:ET):Prop:=at2 d a.1.office.toNat b.1.office.toNat≠ -1∧at2 d a.1.office.toNat b.1.office.toNat≤b.2-a.2
structure HoldsN (d:Dist) (l:List ET):Prop where
 each: ∀x∈l,0≤x.2∧x.2≤1000000∧x.1.low≤x.2∧x.2≤x.1.high
 two:l.Pairwise fun a b=>Aft d a b∨Aft d b a
def Poss (d:Dist) (evs:List Ev):Prop:= ∃l:List ET,l.map (·.1)=evs∧HoldsN d l
theorem pairwise_or {α:Type} {R:α→α→Prop}: ∀ {l l':List α},l.Perm l'→l.Pairwise (fun a b=>R a b∨R b a)→l'.Pairwise (fun a b=>R a b∨R b a):=fun hp h=>hp.pairwise h (fun h=>h.symm)
theorem feas_iff (hd:WfD d) {evs:List Ev} (he: ∀e∈evs,EOK d e) {us:List U} (hp:us.Perm (evs.map uOf)):Poss d evs↔(∀u∈us,u.low≤u.high)∧Feas d (none,0) us:=by
 constructor
 ·rintro ⟨l,rfl,h⟩
  have hwin: ∀x∈l,(uOf x.1).low≤x.2∧x.2≤(uOf x.1).high:=by
   intro x hx
   obtain ⟨h1,h2,h3,h4⟩:=h.each x hx
   show lowC x.1≤x.2∧x.2≤highC x.1
   unfold lowC highC
   omega
  refine ⟨fun u hu=> ?_,?_⟩
  ·have:=hp.mem_iff.1 hu
   rw [List.map_map,List.mem_map] at this
   obtain ⟨x,hx,rfl⟩:=this
   have:=hwin x hx
   show (uOf x.1).low≤(uOf x.1).high
   omega
  ·have hf:=feas_of_times hd (l:=l.map fun x=>(uOf x.1,x.2)) ?_ ?_ ?_
   ·obtain ⟨o,h1,h2⟩:=hf
    refine ⟨o,?_,h2⟩
    refine h1.trans ?_
    rw [List.map_map]
    refine List.Perm.trans ?_ hp.symm
    rw [List.map_map]
    exact List.Perm.refl _
   ·intro x hx
    rw [List.mem_map] at hx
    obtain ⟨y,hy,rfl⟩:=hx
    exact uok_of hd (he _ (List.mem_map.2 ⟨y,hy,rfl⟩))
   ·intro x hx
    rw [List.mem_map] at hx
    obtain ⟨y,hy,rfl⟩:=hx
    exact ⟨(h.each y hy).1,hwin y hy⟩
   ·rw [List.pairwise_map]
    refine h.two.imp fun {a b} hab=> ?_
    rcases hab with q|q
    ·exact .inl ⟨q.1,by show a.2+0+at2 d a.1.office.toNat b.1.office.toNat≤b.2; have:=q.2; omega⟩
    ·exact .inr ⟨q.1,by show b.2+0+at2 d b.1.office.toNat a.1.office.toNat≤a.2; have:=q.2; omega⟩
 ·rintro ⟨hw,hf⟩
  have hu: ∀u∈us,UOK d u:=fun u hu=>by
   have:=hp.mem_iff.1 hu
   rw [List.mem_map] at this
   obtain ⟨e,hx,rfl⟩:=this
   exact uok_of hd (he e hx)
  obtain ⟨l,h1,h2,h3⟩:=times_of_feas hd hu hw hf
  have key: ∀(evs:List Ev) (l:List UB),(l.map (·.1)).Perm (evs.map uOf)→l.Pairwise (fun a b=>Bef d a b∨Bef d b a)→ ∃m:List ET,m.map (·.1)=evs∧(m.map fun x=>(uOf x.1,x.2)).Perm l:=by
   intro evs
   induction evs with
   | nil =>
    intro l hl _
    have:l= []:=by
     have:=hl.length_eq
     simp at this
     exact this
    subst this
    exact ⟨[],rfl,List.Perm.refl _⟩
   | cons e evs ih =>
    intro l hl hpw
    have hm:uOf e∈l.map (·.1):=hl.mem_iff.2 (by simp)
    rw [List.mem_map] at hm
    obtain ⟨x,hx,hxe⟩:=hm
    obtain ⟨pre,post,rfl⟩:=List.append_of_mem hx
    have h4:((pre++post).map (·.1)).Perm (evs.map uOf):=by
     have q:((pre++x::post).map (·.1)).Perm (uOf e::(pre++post).map (·.1)):=by
      rw [←hxe]
      exact (List.perm_middle (a:=x) (l₁:=pre) (l₂:=post)).map (fun y:UB=>y.1)
     have q2:(uOf e::(pre++post).map (·.1)).Perm (uOf e::evs.map uOf):=q.symm.trans (by simpa using hl)
     exact List.Perm.cons_inv q2
    have hpw':(x::(pre++post)).Pairwise (fun a b=>Bef d a b∨Bef d b a):=pairwise_or List.perm_middle hpw
    obtain ⟨m,hm1,hm2⟩:=ih (pre++post) h4 (List.pairwise_cons.1 hpw').2
    refine ⟨(e,x.2)::m,by simp [hm1],?_⟩
    refine List.Perm.trans ?_ List.perm_middle.symm
    have:(uOf e,x.2)=x:=by rw [←hxe]
    rw [List.map_cons]
    show ((uOf e,x.2)::_).Perm _
    rw [this]
    exact hm2.cons x
  have hor:l.Pairwise (fun a b=>Bef d a b∨Bef d b a):=h3.imp fun h=> .inl h
  obtain ⟨m,hm1,hm2⟩:=key evs l (h1.trans hp) hor
  refine ⟨m,hm1,fun x hx=> ?_,?_⟩
  ·have hxl:(uOf x.1,x.2)∈l:=hm2.mem_iff.1 (List.mem_map.2 ⟨x,hx,rfl⟩)
   obtain ⟨a1,a2,a3⟩:=h2 _ hxl
   have a2:lowC x.1≤x.2:=a2
   have a3:x.2≤highC x.1:=a3
   unfold lowC at a2
   unfold highC at a3
   have a1:0≤x.2:=a1
   refine ⟨a1,by omega,by omega,by omega⟩
  ·have hpm:=pairwise_or hm2.symm hor
   rw [List.pairwise_map] at hpm
   refine hpm.imp fun {a b} hab=> ?_
   rcases hab with q|q
   ·refine .inl ⟨q.1,?_⟩
    have:a.2+0+at2 d a.1.office.toNat b.1.office.toNat≤b.2:=q.2
    omega
   ·refine .inr ⟨q.1,?_⟩
    have:b.2+0+at2 d b.1.office.toNat a.1.office.toNat≤a.2:=q.2
    omega
theorem Poss.sub {evs evs':List Ev} (h:Poss d evs) (hs:evs'.Sublist evs):Poss d evs':=by
 obtain ⟨l,rfl,h1⟩:=h
 obtain ⟨l',h2,rfl⟩:=List.sublist_map_iff.1 hs
 exact ⟨l',rfl,fun x hx=>h1.each x (h2.subset hx),h1.two.sublist h2⟩
end Go.Ord
namespace Go.PF
noncomputable def dec (p:Prop):Bool:= @decide p (Classical.propDecidable p)
theorem dec_iff {p:Prop}:dec p=true↔p:= @decide_eq_true_iff p (Classical.propDecidable p)
theorem dec_pos {p:Prop} (h:p):dec p=true:=dec_iff.2 h
theorem dec_neg {p:Prop} (h: ¬p):dec p=false:=by
 cases hd:dec p with
 | false=>rfl
 | true=>exact absurd (dec_iff.1 hd) h
theorem dec_congr {p q:Prop} (h:p↔q):dec p=dec q:=by rw [show p=q from propext h]
theorem dec_eq_decide {p:Prop} [Decidable p]:dec p=decide p:=by
 by_cases h:p
 ·rw [dec_pos h]; simp [h]
 ·rw [dec_neg h]; simp [h]
theorem nb {p:Prop} [Decidable p] (h:(!decide p)=true): ¬p:=by simpa using h
theorem ndec {p:Prop} (h:(!dec p)=true): ¬p:=fun hp=>by rw [dec_pos hp] at h; cases h
theorem ndec' {p:Prop} (h:(!dec p)=false):p:=dec_iff.1 (by simpa using h)
end Go.PF
namespace Go.Ord
open Go.PF
structure RowOK (d:Dist) (i:Nat) (r:List Int):Prop where
 len:r.length=d.length
 diag:r[i]?=some 0
 rng: ∀(j:Nat) (x:Int),r[j]?=some x→ -1≤x∧x≤1000000
def Tri (d:Dist) (i k j:Nat):Prop:=at2 d i k≠ -1→at2 d k j≠ -1→at2 d i j≠ -1∧at2 d i j≤at2 d i k+at2 d k j
theorem at2_eq {d:Dist} {i j:Nat} {r:List Int} {x:Int} (hr:d[i]?=some r) (hx:r[j]?=some x):at2 d i j=x:=by
 unfold at2
 simp [List.getD_eq_getElem?_getD,hr,hx]
theorem wfd_of {d:Dist} (h1:d.length≤12) (h2: ∀(i:Nat) (r:List Int),d[i]?=some r→RowOK d i r) (h3: ∀i k j,i<d.length→k<d.length→j<d.length→Tri d i k j):WfD d:=by
 refine ⟨h1,fun i r hr=>(h2 i r hr).len,fun i hi=> ?_,fun i j hi hj=> ?_,h3⟩
 ·have hr:d[i]?=some d[i]:=List.getElem?_eq_getElem hi
  exact at2_eq hr (h2 i _ hr).diag
 ·have hr:d[i]?=some d[i]:=List.getElem?_eq_getElem hi
  have hl:=(h2 i _ hr).len
  have hx:d[i][j]?=some (d[i][j]'(by omega)):=List.getElem?_eq_getElem (by omega)
  rw [at2_eq hr hx]
  exact (h2 i _ hr).rng j _ hx
theorem WfD.rowOK {d:Dist} (h:WfD d) {i:Nat} {r:List Int} (hr:d[i]?=some r):RowOK d i r:=by
 have hi:=(List.getElem?_eq_some_iff.1 hr).1
 have hl:=h.row i r hr
 refine ⟨hl,?_,fun j x hx=> ?_⟩
 ·have hx:r[i]?=some (r[i]'(by omega)):=List.getElem?_eq_getElem (by omega)
  have:=h.diag i hi
  rw [at2_eq hr hx] at this
  rw [hx,this]
 ·have hj:=(List.getElem?_eq_some_iff.1 hx).1
  have:=h.rng i j hi (by omega)
  rw [at2_eq hr hx] at this
  exact this
end Go.Ord
namespace Go.PF
open Go.RowKit
class En (P:Program) (k:FuncId):Prop where
 q:enters P k=true
class FnI (P:Program) (k:FuncId) (fn:outParam Func) (N:outParam Nat):Prop where
 q:P.funcs[k]?=some fn
 n:fn.ntmps=N
class Sr (P:Program) (t:TypeId) (n:outParam Nat):Prop where
 u: ∃fs,P.underlying t=some (.struct fs)
 s:(P.info? t).map (·.size)=some n
section
variable {P:Program} {r:Option Nat} {Q:Exit→Act→World→Prop} {N:Nat} {ds:List Deferred} {ops rest:List Oper} {E:Env} {D:DE} {w:World} {G:Option Bool} {Fin:DE→Prop} {md:Mode}
variable {d:Option Tmp} {ty:TypeId} {pos:String} {af:Array Edge} {gu:Option (Nat×Bool)}
variable {x y z:Operand} {cx cy cz:Option Bool} {ρ:Operand→Value}
theorem rnT {p q:Prop} (next:q) (imp:q→p:=by
  intro hq
  repeat (first
   | ((first|apply TW.v V.move|apply TW.v V.assign|apply TW.v V.lss|apply TW.v V.leq|apply TW.v V.gtr|apply TW.v V.geq|apply TW.v V.eql|apply TW.v V.neq|apply TW.v V.add|apply TW.v V.sub|apply TW.v V.mul|apply TW.v V.not|apply TW.v V.lenSlice|apply TW.v V.fieldAddr|apply TW.v V.indexAddr|apply TW.v V.extract|apply TW.v (V.conv rfl)|apply TW.v V.quo|apply TW.v V.rem|apply TW.v V.index); exact rfl; (first|exact ⟨ct,trivial⟩|exact ⟨ct,ct,trivial⟩|exact ⟨id,trivial⟩|(clear hq; repeat (first|exact trivial|(apply And.intro; (first|exact ct|exact id|exact candL|(simp_all [Cnd]; done)))))); (first|exact fun _=>trivial|exact fun _=>rfl|(clear hq; intro h; (try dsimp only); (first|omega|(simp [Cnd] at h; omega)))))
   | (apply TW.pickOr; exact rfl; exact rfl; exact rfl; (first|exact ct|exact id|exact candL|(clear hq; simp_all [Cnd]; done)); exact rfl; (first|exact pT|exact pOr0|exact pOr1|exact pAnd0|exact pAnd1))
   | (apply TW.pickAnd; exact rfl; exact rfl; exact rfl; (first|exact ct|exact id|exact candL|(clear hq; simp_all [Cnd]; done)); exact rfl; (first|exact pT|exact pOr0|exact pOr1|exact pAnd0|exact pAnd1))
   | ((first|apply TW.v V.eqlS|apply TW.v V.neqS|apply TW.v V.lenString); exact rfl; (first|exact ⟨ct,trivial⟩|exact ⟨ct,ct,trivial⟩|exact ⟨id,trivial⟩|(clear hq; repeat (first|exact trivial|(apply And.intro; (first|exact ct|exact id|exact candL|(simp_all [Cnd]; done)))))); (first|exact fun _=>trivial|exact fun _=>rfl|(clear hq; intro h; (try dsimp only); (first|omega|(simp [Cnd] at h; omega)))))
   | ((first|apply TW.v V.eqlB); exact rfl; (first|exact ⟨ct,trivial⟩|exact ⟨ct,ct,trivial⟩|exact ⟨id,trivial⟩|(clear hq; repeat (first|exact trivial|(apply And.intro; (first|exact ct|exact id|exact candL|(simp_all [Cnd]; done)))))); (first|exact fun _=>trivial|exact fun _=>rfl|(clear hq; intro h; (try dsimp only); (first|omega|(simp [Cnd] at h; omega)))))
   | (apply TW.eqlNil; exact rfl; exact rfl; exact Und.q; exact rfl; (first|exact ct|exact id|exact candL|(clear hq; simp_all [Cnd]; done)))
   | refine TW.nil ?_
   | refine CW.seq ?_
   | refine CW.region ?_
   | refine KW.then_ ?_
   | refine CW.skip ?_
   | refine CW.block ?_
   | refine CW.ret ?_
   | refine KW.thenR ?_
   | refine KW.blockN ?_
   | refine CW.exit ?_
   | refine KW.blockX ?_
   | refine KW.thenX ?_
   | (refine KW.blockY ?_ ?_; exact rfl)
   | refine KW.blockR ?_
   | refine CW.scope ?_
   | refine KW.scopeN ?_
   | refine KW.scopeX ?_
   | refine KW.scopeR ?_
   | refine CW.label ?_
   )
  exact hq):p:=imp next
theorem rnD {p q:Prop} (next:q) (imp:q→p:=by
  intro hq
  repeat (first
   | ((first|apply DW.v V.move|apply DW.v V.assign|apply DW.v V.lss|apply DW.v V.leq|apply DW.v V.gtr|apply DW.v V.geq|apply DW.v V.eql|apply DW.v V.neq|apply DW.v V.add|apply DW.v V.sub|apply DW.v V.mul|apply DW.v V.not|apply DW.v V.lenSlice|apply DW.v V.fieldAddr|apply DW.v V.indexAddr|apply DW.v V.extract|apply DW.v (V.conv rfl)|apply DW.v V.quo|apply DW.v V.rem|apply DW.v V.index); exact rfl; (first|exact ⟨ct,trivial⟩|exact ⟨ct,ct,trivial⟩|exact ⟨id,trivial⟩|(clear hq; repeat (first|exact trivial|(apply And.intro; (first|exact ct|exact id|exact candL|(simp_all [Cnd]; done)))))); (first|exact fun _=>trivial|exact fun _=>rfl|(clear hq; intro h; (try dsimp only); (first|omega|(simp [Cnd] at h; omega)))))
   | (apply DW.pickOr; exact rfl; exact rfl; exact rfl; (first|exact ct|exact id|exact candL|(clear hq; simp_all [Cnd]; done)); exact rfl; (first|exact pT|exact pOr0|exact pOr1|exact pAnd0|exact pAnd1))
   | (apply DW.pickAnd; exact rfl; exact rfl; exact rfl; (first|exact ct|exact id|exact candL|(clear hq; simp_all [Cnd]; done)); exact rfl; (first|exact pT|exact pOr0|exact pOr1|exact pAnd0|exact pAnd1))
   | ((first|apply DW.v V.eqlS|apply DW.v V.neqS|apply DW.v V.lenString); exact rfl; (first|exact ⟨ct,trivial⟩|exact ⟨ct,ct,trivial⟩|exact ⟨id,trivial⟩|(clear hq; repeat (first|exact trivial|(apply And.intro; (first|exact ct|exact id|exact candL|(simp_all [Cnd]; done)))))); (first|exact fun _=>trivial|exact fun _=>rfl|(clear hq; intro h; (try dsimp only); (first|omega|(simp [Cnd] at h; omega)))))
   | ((first|apply DW.v V.eqlB); exact rfl; (first|exact ⟨ct,trivial⟩|exact ⟨ct,ct,trivial⟩|exact ⟨id,trivial⟩|(clear hq; repeat (first|exact trivial|(apply And.intro; (first|exact ct|exact id|exact candL|(simp_all [Cnd]; done)))))); (first|exact fun _=>trivial|exact fun _=>rfl|(clear hq; intro h; (try dsimp only); (first|omega|(simp [Cnd] at h; omega)))))
   )
  exact hq):p:=imp next
theorem look_add: ∀ {E E':Env} {i:Nat} {c:Option Bool} {v:Value},look (E++E') i=some (c,v)→look E i=some (c,v)∨look E' i=some (c,v)
 | [],_,_,_,_,h=> .inr h
 | (j,c',v')::E,E',i,c,v,h=>by
  simp only [List.cons_append,look] at h ⊢
  cases hb:Nat.beq j i with
  | true=>rw [hb] at h; exact .inl h
  | false=>rw [hb] at h; exact look_add h
theorem Fit.app {E E':Env} {a:Act} (h:Fit N ds E a) (h':Fit N ds E' a):Fit N ds (E++E') a:=⟨h.size,h.defers,fun i c v hl=>(look_add hl).elim (h.slots i c v) (h'.slots i c v)⟩
theorem TW.pk (is:List Nat) {E':Env} (hp:PF.pick E is=some E') (h:TW P r Q N ds ops rest E' w):TW P r Q N ds ops rest E w:=fun a ha=>h a (ha.pick hp)
theorem CW.pk {c:Code} (is:List Nat) {E':Env} (hp:PF.pick E is=some E') (h:CW P r Q N ds c E' w):CW P r Q N ds c E w:=CW.pick is E' hp h
theorem TW.ld {t:TypeId} {ad:Addr} {v:Value} [One P t] (h:(gd ops E gu,okDst N d,ev E x)=(some G,true,some (cx,.pointer (some ad)))) (hc:w.cell? ad=some v)
  (next:TW P r Q N ds ops rest (ins E d G v) w) (ix:Cnd G→Cnd cx:=by first|exact ct|exact id|exact candL|(simp_all [Cnd]; done)):TW P r Q N ds ops (⟨d,.load t x,ty,pos,af,gu⟩::rest) E w:=by
 simp only [Prod.mk.injEq] at h
 exact TW.load h.1 h.2.1 One.q h.2.2 ix (fun _=>hc) next
theorem DW.ld {t:TypeId} {ad:Addr} {v:Value} [One P t] (h:(dgd ops D gu,okDst N d,dev D x)=(some G,true,some (cx,.ex (.pointer (some ad))))) (hc:w.cell? ad=some v)
  (next:DW P N ds md ops w Fin rest (dins D d G (.ex v))) (ix:Cnd G→Cnd cx:=by first|exact ct|exact id|exact candL|(simp_all [Cnd]; done)):DW P N ds md ops w Fin (⟨d,.load t x,ty,pos,af,gu⟩::rest) D:=by
 simp only [Prod.mk.injEq] at h
 exact DW.load h.1 h.2.1 One.q h.2.2 ix (fun _=>hc) next
def evs (E:Env):List Operand→Option (List Value)
 | []=>some []
 | x::xs=>match ev E x with
  | some (none,v)=>match evs E xs with
   | some vs=>some (v::vs)
   | none=>none
  | _=>none
theorem evs_args: ∀ {xs:List Operand} {vs:List Value},evs E xs=some vs→Args N ds E G xs vs
 | [],vs,h=>by simp [evs] at h; subst h; exact Args.nil
 | x::xs,vs,h=>by
  simp only [evs] at h
  split at h
  ·rename_i v hv
   split at h
   ·rename_i us hu
    simp only [Option.some.injEq] at h
    subst h
    exact Args.cons hv ct (evs_args hu)
   ·cases h
  ·cases h
theorem TW.cl {k:FuncId} {xs:List Operand} {vs:List Value} {ts:Array TypeId} {R:Value→World→Prop} [En P k] (h:(okDst N d,evs E xs)=(true,some vs)) (hc:Gives P k vs.toArray w R)
  (next: ∀v w',R v w'→TW P r Q N ds ops rest (ins E d none v) w'):TW P r Q N ds ops (⟨d,.call ⟨.value (.func k),xs.toArray,ts⟩,ty,pos,af,none⟩::rest) E w:=by
 simp only [Prod.mk.injEq] at h
 exact TW.call0 (cap:= []) rfl h.1 En.q rfl (evs_args h.2) (by simpa using hc) next
def devs (D:DE):List Operand→Option (List Value)
 | []=>some []
 | x::xs=>match dev D x with
  | some (none,.ex v)=>match devs D xs with
   | some vs=>some (v::vs)
   | none=>none
  | _=>none
theorem devs_args {L:List Nat}: ∀ {xs:List Operand} {vs:List Value},devs D xs=some vs→DArgs L N ds D G xs vs
 | [],vs,h=>by simp [devs] at h; subst h; exact DArgs.nil
 | x::xs,vs,h=>by
  simp only [devs] at h
  split at h
  ·rename_i v hv
   split at h
   ·rename_i us hu
    simp only [Option.some.injEq] at h
    subst h
    exact DArgs.cons hv ct (devs_args hu)
   ·cases h
  ·cases h
theorem DW.cl {k:FuncId} {xs:List Operand} {vs:List Value} {ts:Array TypeId} [En P k] (e:Ent) (hm:e.mono) (h:(dgd ops D gu,okDst N d,devs D xs)=(some G,true,some vs))
  (hc:Cnd G→ ∀w',Below w.heap.size w w'→Gives P k vs.toArray w' fun v w''=>Below w'.heap.size w' w''∧e.sat v w'')
  (next:DW P N ds .weak ops w Fin rest (dins D d G e)):DW P N ds .weak ops w Fin (⟨d,.call ⟨.value (.func k),xs.toArray,ts⟩,ty,pos,af,gu⟩::rest) D:=by
 simp only [Prod.mk.injEq] at h
 exact DW.call (cap:= []) e hm h.1 h.2.1 En.q rfl ct (devs_args h.2.2) (fun g w' hb=>by simpa using hc g w' hb) next
theorem TW.ldS {t:TypeId} {ad:Addr} {cs:List Value} {n:Nat} [Sr P t n] (h:(gd ops E gu,okDst N d,ev E x)=(some G,true,some (cx,.pointer (some ad)))) (hc: ∀j v,cs[j]?=some v→w.cell? (ad.add j)=some v)
  (next:TW P r Q N ds ops rest (ins E d G (.agg cs.toArray)) w) (hl:cs.length=n:=by rfl) (ix:Cnd G→Cnd cx:=by first|exact ct|exact id|exact candL|(simp_all [Cnd]; done)):TW P r Q N ds ops (⟨d,.load t x,ty,pos,af,gu⟩::rest) E w:=by
 simp only [Prod.mk.injEq] at h
 obtain ⟨fs,hu⟩:=Sr.u (P:=P) (t:=t)
 exact TW.loadS cs h.1 h.2.1 hu Sr.s h.2.2 ix (fun _=>hc) hl next
theorem DW.ldS {t:TypeId} {ad:Addr} {cs:List Value} {n:Nat} [Sr P t n] (h:(dgd ops D gu,okDst N d,dev D x)=(some G,true,some (cx,.ex (.pointer (some ad))))) (hc: ∀j v,cs[j]?=some v→w.cell? (ad.add j)=some v)
  (next:DW P N ds md ops w Fin rest (dins D d G (.ex (.agg cs.toArray)))) (hl:cs.length=n:=by rfl) (ix:Cnd G→Cnd cx:=by first|exact ct|exact id|exact candL|(simp_all [Cnd]; done)):DW P N ds md ops w Fin (⟨d,.load t x,ty,pos,af,gu⟩::rest) D:=by
 simp only [Prod.mk.injEq] at h
 obtain ⟨fs,hu⟩:=Sr.u (P:=P) (t:=t)
 exact DW.loadS cs h.1 h.2.1 hu Sr.s h.2.2 ix (fun _=>hc) hl next
theorem DW.fi {K:Act→World→Prop} (is:List Nat) {E':Env} (hp:dpick D is=some E') (h: ∀w',Below w.heap.size w w'→KW N ds K E' w'):DW P N ds md ops w (fun D=> ∀a w',Below w.heap.size w w'→FitD N ds D a w'→K a w') [] D:=DW.nil (DW.fin is E' hp h)
theorem gv {f:FuncId} {fn:Func} {c:Code} {vs:List Value} {R:Value→World→Prop} [FnI P f fn N]
  (h:CW P none (bodyPost P fn fun e w'=> ∃v,e= .returned v∧R v w') N [] c (argEnv vs 0) w) (hb:fn.body=some c:=by rfl) (hle:Nat.ble vs.length N=true:=by rfl):Gives P f vs.toArray w R:=gives_of _ FnI.q hb (FnI.n P f) hle rfl h
theorem gvM {f:FuncId} {fn:Func} {c:Code} {vs:List Value} {R:Value→World→Prop} [FnI P f fn N]
  (h:CW P none (bodyPostM (FR none) 0 P fn fun e w'=> ∃v,e= .returned v∧R v w') N [] c (argEnv vs 0) w) (hb:fn.body=some c:=by rfl) (hle:Nat.ble vs.length N=true:=by rfl):Gives P f vs.toArray w R:=gives_ofM _ FnI.q hb (FnI.n P f) hle rfl h
theorem CW.lp {α:Type} {c:Code} {K:Env} (ks:List Nat) (F:α→Env) (J:α→World→Prop) (m:α→Nat) (x0:α) (h0:J x0 w)
  (round: ∀x w,J x w→CW P r (Exit.then (fun a' w'=> ∃x',Fit N ds (F x'++K) a'∧J x' w'∧m x'<m x) Q) N ds c (F x++K) w)
  (hK:PF.pick E ks=some K:=by rfl) (hE:PF.pick E ((F x0).map (·.1))=some (F x0):=by rfl):CW P r Q N ds (.loop c) E w :=
 CW.loop (fun x=>F x++K) J m x0 h0 (fun _ ha=>(ha.pick hE).app (ha.pick hK)) round
theorem KW.rd {α:Type} {F:α→Env} {K:Env} {J:α→World→Prop} {m:α→Nat} {x:α} (x':α) (hJ:J x' w) (hm:m x'<m x:=by (try dsimp only); omega)
  (hp:PF.pick E ((F x'++K).map (·.1))=some (F x'++K):=by rfl):KW N ds (Exit.then (fun a' w'=> ∃x',Fit N ds (F x'++K) a'∧J x' w'∧m x'<m x) Q .normal) E w :=
 fun _ ha=>⟨x',ha.pick hp,hJ,hm⟩
variable {fn:Func} {R:Value→World→Prop} {s t:Nat} {v u:Value}
theorem rt1 (h:(fn.results,look E s)=(#[.tmp s],some (none,v))) (hR:R v w):KW N [] (bodyPost P fn (fun e w'=> ∃v,e= .returned v∧R v w') .ret) E w:=by
 simp only [Prod.mk.injEq] at h
 exact ret1 h.1 h.2 hR
theorem rt2 (h:(fn.results,look E s,look E t)=(#[.tmp s,.tmp t],some (none,v),some (none,u))) (hR:R (.tuple #[v,u]) w):KW N [] (bodyPost P fn (fun e w'=> ∃v,e= .returned v∧R v w') .ret) E w:=by
 simp only [Prod.mk.injEq] at h
 exact ret2 h.1 h.2.1 h.2.2 hR
end
end Go.PF
namespace Go.Proofs.YtobaafdejnimkaaGreatDoor
open Go.PF
theorem mixed:Tryz.prog.follows .mixedOrders=true:=by kernel_rfl
instance iu2:Und Tryz.prog 2 (.int .i64):=⟨Tryz.underlying2⟩
instance io3:One Tryz.prog 3:=⟨by kernel_rfl⟩
theorem one3:one Tryz.prog 3=true:=io3.q
instance is3:Sz Tryz.prog 3 1:=⟨by kernel_rfl⟩
theorem sz3:(Tryz.prog.info? 3).map (·.size)=some 1:=is3.q
instance iu3:Und Tryz.prog 3 (.int .i64):=⟨Tryz.underlying3⟩
theorem zc3:zeroCells Tryz.prog 3=some [.int .i64 0]:=by kernel_rfl
theorem ze3:(Tryz.prog.info? 3).bind (·.zero)=some (.int .i64 0):=by kernel_rfl
instance io4:One Tryz.prog 4:=⟨by kernel_rfl⟩
instance is4:Sz Tryz.prog 4 1:=⟨by kernel_rfl⟩
theorem sz4:(Tryz.prog.info? 4).map (·.size)=some 1:=is4.q
instance iu4:Und Tryz.prog 4 (.bool):=⟨Tryz.underlying4⟩
theorem ze4:(Tryz.prog.info? 4).bind (·.zero)=some (.bool false):=by kernel_rfl
instance io5:One Tryz.prog 5:=⟨by kernel_rfl⟩
instance is5:Sz Tryz.prog 5 1:=⟨by kernel_rfl⟩
instance iu5:Und Tryz.prog 5 (.int .u8):=⟨Tryz.underlying5⟩
instance io9:One Tryz.prog 9:=⟨by kernel_rfl⟩
theorem one9:one Tryz.prog 9=true:=io9.q
instance is9:Sz Tryz.prog 9 1:=⟨by kernel_rfl⟩
theorem sz9:(Tryz.prog.info? 9).map (·.size)=some 1:=is9.q
instance iu9:Und Tryz.prog 9 (.string):=⟨Tryz.underlying9⟩
instance iu21:Und Tryz.prog 21 (.int .i32):=⟨Tryz.underlying21⟩
instance io22:One Tryz.prog 22:=⟨by kernel_rfl⟩
instance iu22:Und Tryz.prog 22 (.slice 136):=⟨Tryz.underlying22⟩
theorem eo22:elemOK Tryz.prog 22 136 3=true:=by kernel_rfl
instance io23:One Tryz.prog 23:=⟨by kernel_rfl⟩
instance iu23:Und Tryz.prog 23 (.slice 9):=⟨Tryz.underlying23⟩
theorem eo23:elemOK Tryz.prog 23 9 1=true:=by kernel_rfl
theorem go23:growOK Tryz.prog 23 9 1 16=true:=by kernel_rfl
instance io24:One Tryz.prog 24:=⟨by kernel_rfl⟩
instance iu24:Und Tryz.prog 24 (.slice 138):=⟨Tryz.underlying24⟩
theorem eo24:elemOK Tryz.prog 24 138 1=true:=by kernel_rfl
instance io25:One Tryz.prog 25:=⟨by kernel_rfl⟩
instance iu25:Und Tryz.prog 25 (.slice 110):=⟨Tryz.underlying25⟩
theorem eo25:elemOK Tryz.prog 25 110 7=true:=by kernel_rfl
instance io26:One Tryz.prog 26:=⟨by kernel_rfl⟩
instance iu26:Und Tryz.prog 26 (.slice 113):=⟨Tryz.underlying26⟩
theorem eo26:elemOK Tryz.prog 26 113 6=true:=by kernel_rfl
instance io27:One Tryz.prog 27:=⟨by kernel_rfl⟩
instance iu27:Und Tryz.prog 27 (.slice 199):=⟨Tryz.underlying27⟩
instance is29:Sz Tryz.prog 29 6:=⟨by kernel_rfl⟩
theorem sz29:(Tryz.prog.info? 29).map (·.size)=some 6:=is29.q
theorem zc29:zeroCells Tryz.prog 29=some [.slice none 0 0,.slice none 0 0,.slice none 0 0,.slice none 0 0,.slice none 0 0,.slice none 0 0]:=by kernel_rfl
instance ir29:Sr Tryz.prog 29 6:=⟨⟨_,Tryz.underlying29⟩,is29.q⟩
instance if29_0:FO Tryz.prog 29 0 0:=⟨by kernel_rfl⟩
instance if29_1:FO Tryz.prog 29 1 1:=⟨by kernel_rfl⟩
instance if29_2:FO Tryz.prog 29 2 2:=⟨by kernel_rfl⟩
instance if29_3:FO Tryz.prog 29 3 3:=⟨by kernel_rfl⟩
instance if29_4:FO Tryz.prog 29 4 4:=⟨by kernel_rfl⟩
instance if29_5:FO Tryz.prog 29 5 5:=⟨by kernel_rfl⟩
instance io30:One Tryz.prog 30:=⟨by kernel_rfl⟩
instance is30:Sz Tryz.prog 30 1:=⟨by kernel_rfl⟩
theorem sz30:(Tryz.prog.info? 30).map (·.size)=some 1:=is30.q
instance iu30:Und Tryz.prog 30 (.slice 32):=⟨Tryz.underlying30⟩
theorem zc30:zeroCells Tryz.prog 30=some [.slice none 0 0]:=by kernel_rfl
theorem eo30:elemOK Tryz.prog 30 32 1=true:=by kernel_rfl
theorem go30:growOK Tryz.prog 30 32 1 24=true:=by kernel_rfl
instance io31:One Tryz.prog 31:=⟨by kernel_rfl⟩
instance is31:Sz Tryz.prog 31 1:=⟨by kernel_rfl⟩
theorem sz31:(Tryz.prog.info? 31).map (·.size)=some 1:=is31.q
instance iu31:Und Tryz.prog 31 (.slice 60):=⟨Tryz.underlying31⟩
theorem zc31:zeroCells Tryz.prog 31=some [.slice none 0 0]:=by kernel_rfl
theorem eo31:elemOK Tryz.prog 31 60 4=true:=by kernel_rfl
theorem go31:growOK Tryz.prog 31 60 4 48=true:=by kernel_rfl
instance io32:One Tryz.prog 32:=⟨by kernel_rfl⟩
instance is32:Sz Tryz.prog 32 1:=⟨by kernel_rfl⟩
theorem sz32:(Tryz.prog.info? 32).map (·.size)=some 1:=is32.q
instance iu32:Und Tryz.prog 32 (.slice 3):=⟨Tryz.underlying32⟩
theorem zc32:zeroCells Tryz.prog 32=some [.slice none 0 0]:=by kernel_rfl
theorem eo32:elemOK Tryz.prog 32 3 1=true:=by kernel_rfl
theorem go32:growOK Tryz.prog 32 3 1 8=true:=by kernel_rfl
theorem ze32:(Tryz.prog.info? 32).bind (·.zero)=some (.slice none 0 0):=by kernel_rfl
instance io33:One Tryz.prog 33:=⟨by kernel_rfl⟩
instance iu33:Und Tryz.prog 33 (.slice 67):=⟨Tryz.underlying33⟩
theorem eo33:elemOK Tryz.prog 33 67 11=true:=by kernel_rfl
theorem go33:growOK Tryz.prog 33 67 11 120=true:=by kernel_rfl
instance if35_0:FO Tryz.prog 35 0 0:=⟨by kernel_rfl⟩
instance if35_1:FO Tryz.prog 35 1 1:=⟨by kernel_rfl⟩
instance if35_2:FO Tryz.prog 35 2 2:=⟨by kernel_rfl⟩
instance if35_4:FO Tryz.prog 35 4 4:=⟨by kernel_rfl⟩
instance is37:Sz Tryz.prog 37 7:=⟨by kernel_rfl⟩
instance ir37:Sr Tryz.prog 37 7:=⟨⟨_,Tryz.underlying37⟩,is37.q⟩
instance if37_0:FO Tryz.prog 37 0 0:=⟨by kernel_rfl⟩
instance if37_1:FO Tryz.prog 37 1 5:=⟨by kernel_rfl⟩
instance if37_2:FO Tryz.prog 37 2 6:=⟨by kernel_rfl⟩
instance io38:One Tryz.prog 38:=⟨by kernel_rfl⟩
instance is42:Sz Tryz.prog 42 2:=⟨by kernel_rfl⟩
theorem sz42:(Tryz.prog.info? 42).map (·.size)=some 2:=is42.q
theorem zc42:zeroCells Tryz.prog 42=some [.int .i64 0,.int .i64 0]:=by kernel_rfl
instance ir42:Sr Tryz.prog 42 2:=⟨⟨_,Tryz.underlying42⟩,is42.q⟩
instance if42_0:FO Tryz.prog 42 0 0:=⟨by kernel_rfl⟩
instance io43:One Tryz.prog 43:=⟨by kernel_rfl⟩
instance iu43:Und Tryz.prog 43 (.int .i64):=⟨Tryz.underlying43⟩
instance io54:One Tryz.prog 54:=⟨by kernel_rfl⟩
instance is54:Sz Tryz.prog 54 1:=⟨by kernel_rfl⟩
theorem sz54:(Tryz.prog.info? 54).map (·.size)=some 1:=is54.q
instance iu54:Und Tryz.prog 54 (.slice 58):=⟨Tryz.underlying54⟩
theorem zc54:zeroCells Tryz.prog 54=some [.slice none 0 0]:=by kernel_rfl
theorem eo54:elemOK Tryz.prog 54 58 2=true:=by kernel_rfl
theorem go54:growOK Tryz.prog 54 58 2 16=true:=by kernel_rfl
instance is58:Sz Tryz.prog 58 2:=⟨by kernel_rfl⟩
theorem sz58:(Tryz.prog.info? 58).map (·.size)=some 2:=is58.q
theorem zc58:zeroCells Tryz.prog 58=some [.int .i64 0,.int .i64 0]:=by kernel_rfl
instance ir58:Sr Tryz.prog 58 2:=⟨⟨_,Tryz.underlying58⟩,is58.q⟩
instance if58_0:FO Tryz.prog 58 0 0:=⟨by kernel_rfl⟩
instance if58_1:FO Tryz.prog 58 1 1:=⟨by kernel_rfl⟩
instance is60:Sz Tryz.prog 60 4:=⟨by kernel_rfl⟩
theorem sz60:(Tryz.prog.info? 60).map (·.size)=some 4:=is60.q
theorem zc60:zeroCells Tryz.prog 60=some [.int .i64 0,.int .i64 0,.int .i64 0,.slice none 0 0]:=by kernel_rfl
instance ir60:Sr Tryz.prog 60 4:=⟨⟨_,Tryz.underlying60⟩,is60.q⟩
instance if60_0:FO Tryz.prog 60 0 0:=⟨by kernel_rfl⟩
instance if60_1:FO Tryz.prog 60 1 1:=⟨by kernel_rfl⟩
instance if60_2:FO Tryz.prog 60 2 2:=⟨by kernel_rfl⟩
instance if60_3:FO Tryz.prog 60 3 3:=⟨by kernel_rfl⟩
instance is63:Sz Tryz.prog 63 8:=⟨by kernel_rfl⟩
theorem sz63:(Tryz.prog.info? 63).map (·.size)=some 8:=is63.q
theorem zc63:zeroCells Tryz.prog 63=some [.string ByteArray.empty,.int .i64 0,.int .i64 0,.int .i64 0,.int .i64 0,.int .i64 0,.int .i64 0,.int .i64 0]:=by kernel_rfl
instance ir63:Sr Tryz.prog 63 8:=⟨⟨_,Tryz.underlying63⟩,is63.q⟩
instance if63_0:FO Tryz.prog 63 0 0:=⟨by kernel_rfl⟩
instance if63_1:FO Tryz.prog 63 1 1:=⟨by kernel_rfl⟩
instance if63_2:FO Tryz.prog 63 2 2:=⟨by kernel_rfl⟩
instance if63_3:FO Tryz.prog 63 3 3:=⟨by kernel_rfl⟩
instance if63_4:FO Tryz.prog 63 4 4:=⟨by kernel_rfl⟩
instance if63_5:FO Tryz.prog 63 5 5:=⟨by kernel_rfl⟩
instance if63_6:FO Tryz.prog 63 6 6:=⟨by kernel_rfl⟩
instance if63_7:FO Tryz.prog 63 7 7:=⟨by kernel_rfl⟩
instance is65:Sz Tryz.prog 65 2:=⟨by kernel_rfl⟩
theorem sz65:(Tryz.prog.info? 65).map (·.size)=some 2:=is65.q
theorem zc65:zeroCells Tryz.prog 65=some [.int .i64 0,.slice none 0 0]:=by kernel_rfl
instance ir65:Sr Tryz.prog 65 2:=⟨⟨_,Tryz.underlying65⟩,is65.q⟩
instance if65_0:FO Tryz.prog 65 0 0:=⟨by kernel_rfl⟩
instance if65_1:FO Tryz.prog 65 1 1:=⟨by kernel_rfl⟩
instance is67:Sz Tryz.prog 67 11:=⟨by kernel_rfl⟩
theorem sz67:(Tryz.prog.info? 67).map (·.size)=some 11:=is67.q
theorem zc67:zeroCells Tryz.prog 67=some [.string ByteArray.empty,.int .i64 0,.int .i64 0,.int .i64 0,.int .i64 0,.int .i64 0,.int .i64 0,.int .i64 0,.string ByteArray.empty,.int .i64 0,.slice none 0 0]:=by kernel_rfl
instance ir67:Sr Tryz.prog 67 11:=⟨⟨_,Tryz.underlying67⟩,is67.q⟩
instance if67_0:FO Tryz.prog 67 0 0:=⟨by kernel_rfl⟩
instance if67_1:FO Tryz.prog 67 1 8:=⟨by kernel_rfl⟩
instance if67_2:FO Tryz.prog 67 2 9:=⟨by kernel_rfl⟩
instance iu85:Und Tryz.prog 85 (.slice 167):=⟨Tryz.underlying85⟩
theorem eo85:elemOK Tryz.prog 85 167 3=true:=by kernel_rfl
theorem go85:growOK Tryz.prog 85 167 3 24=true:=by kernel_rfl
instance io89:One Tryz.prog 89:=⟨by kernel_rfl⟩
instance is91:Sz Tryz.prog 91 2:=⟨by kernel_rfl⟩
theorem sz91:(Tryz.prog.info? 91).map (·.size)=some 2:=is91.q
theorem zc91:zeroCells Tryz.prog 91=some [.nilFunc,.nilFunc]:=by kernel_rfl
instance ir91:Sr Tryz.prog 91 2:=⟨⟨_,Tryz.underlying91⟩,is91.q⟩
instance if91_0:FO Tryz.prog 91 0 0:=⟨by kernel_rfl⟩
instance if91_1:FO Tryz.prog 91 1 1:=⟨by kernel_rfl⟩
instance iu92:Und Tryz.prog 92 (.slice 91):=⟨Tryz.underlying92⟩
theorem eo92:elemOK Tryz.prog 92 91 2=true:=by kernel_rfl
instance io93:One Tryz.prog 93:=⟨by kernel_rfl⟩
instance is93:Sz Tryz.prog 93 1:=⟨by kernel_rfl⟩
theorem sz93:(Tryz.prog.info? 93).map (·.size)=some 1:=is93.q
theorem zc93:zeroCells Tryz.prog 93=some [.map none]:=by kernel_rfl
instance io98:One Tryz.prog 98:=⟨by kernel_rfl⟩
instance is98:Sz Tryz.prog 98 1:=⟨by kernel_rfl⟩
theorem sz98:(Tryz.prog.info? 98).map (·.size)=some 1:=is98.q
instance iu98:Und Tryz.prog 98 (.slice 31):=⟨Tryz.underlying98⟩
theorem zc98:zeroCells Tryz.prog 98=some [.slice none 0 0]:=by kernel_rfl
theorem eo98:elemOK Tryz.prog 98 31 1=true:=by kernel_rfl
theorem go98:growOK Tryz.prog 98 31 1 24=true:=by kernel_rfl
instance io101:One Tryz.prog 101:=⟨by kernel_rfl⟩
instance io103:One Tryz.prog 103:=⟨by kernel_rfl⟩
instance is110:Sz Tryz.prog 110 7:=⟨by kernel_rfl⟩
theorem sz110:(Tryz.prog.info? 110).map (·.size)=some 7:=is110.q
theorem zc110:zeroCells Tryz.prog 110=some [.string ByteArray.empty,.int .i64 0,.int .i64 0,.int .i64 0,.int .i64 0,.int .i64 0,.slice none 0 0]:=by kernel_rfl
instance ir110:Sr Tryz.prog 110 7:=⟨⟨_,Tryz.underlying110⟩,is110.q⟩
instance if110_0:FO Tryz.prog 110 0 0:=⟨by kernel_rfl⟩
instance if110_1:FO Tryz.prog 110 1 1:=⟨by kernel_rfl⟩
instance if110_2:FO Tryz.prog 110 2 2:=⟨by kernel_rfl⟩
instance if110_3:FO Tryz.prog 110 3 3:=⟨by kernel_rfl⟩
instance if110_4:FO Tryz.prog 110 4 4:=⟨by kernel_rfl⟩
instance if110_5:FO Tryz.prog 110 5 5:=⟨by kernel_rfl⟩
instance if110_6:FO Tryz.prog 110 6 6:=⟨by kernel_rfl⟩
instance is113:Sz Tryz.prog 113 6:=⟨by kernel_rfl⟩
theorem sz113:(Tryz.prog.info? 113).map (·.size)=some 6:=is113.q
theorem zc113:zeroCells Tryz.prog 113=some [.string ByteArray.empty,.int .i64 0,.int .i64 0,.int .i64 0,.int .i64 0,.int .i64 0]:=by kernel_rfl
instance ir113:Sr Tryz.prog 113 6:=⟨⟨_,Tryz.underlying113⟩,is113.q⟩
instance if113_0:FO Tryz.prog 113 0 0:=⟨by kernel_rfl⟩
instance if113_1:FO Tryz.prog 113 1 1:=⟨by kernel_rfl⟩
instance if113_2:FO Tryz.prog 113 2 2:=⟨by kernel_rfl⟩
instance if113_3:FO Tryz.prog 113 3 3:=⟨by kernel_rfl⟩
instance if113_4:FO Tryz.prog 113 4 4:=⟨by kernel_rfl⟩
instance if113_5:FO Tryz.prog 113 5 5:=⟨by kernel_rfl⟩
instance is115:Sz Tryz.prog 115 9:=⟨by kernel_rfl⟩
theorem sz115:(Tryz.prog.info? 115).map (·.size)=some 9:=is115.q
theorem zc115:zeroCells Tryz.prog 115=some [.string ByteArray.empty,.int .i64 0,.int .i64 0,.int .i64 0,.int .i64 0,.int .i64 0,.int .i64 0,.int .i64 0,.slice none 0 0]:=by kernel_rfl
instance ir115:Sr Tryz.prog 115 9:=⟨⟨_,Tryz.underlying115⟩,is115.q⟩
instance if115_0:FO Tryz.prog 115 0 0:=⟨by kernel_rfl⟩
instance if115_1:FO Tryz.prog 115 1 8:=⟨by kernel_rfl⟩
instance is117:Sz Tryz.prog 117 12:=⟨by kernel_rfl⟩
theorem sz117:(Tryz.prog.info? 117).map (·.size)=some 12:=is117.q
theorem zc117:zeroCells Tryz.prog 117=some [.string ByteArray.empty,.int .i64 0,.int .i64 0,.int .i64 0,.int .i64 0,.int .i64 0,.int .i64 0,.int .i64 0,.slice none 0 0,.string ByteArray.empty,.int .i64 0,.slice none 0 0]:=by kernel_rfl
instance ir117:Sr Tryz.prog 117 12:=⟨⟨_,Tryz.underlying117⟩,is117.q⟩
instance if117_0:FO Tryz.prog 117 0 0:=⟨by kernel_rfl⟩
instance if117_1:FO Tryz.prog 117 1 9:=⟨by kernel_rfl⟩
instance if117_2:FO Tryz.prog 117 2 10:=⟨by kernel_rfl⟩
instance is120:Sz Tryz.prog 120 2:=⟨by kernel_rfl⟩
theorem sz120:(Tryz.prog.info? 120).map (·.size)=some 2:=is120.q
theorem zc120:zeroCells Tryz.prog 120=some [.nilFunc,.int .i64 0]:=by kernel_rfl
instance ir120:Sr Tryz.prog 120 2:=⟨⟨_,Tryz.underlying120⟩,is120.q⟩
instance if120_0:FO Tryz.prog 120 0 0:=⟨by kernel_rfl⟩
instance if120_1:FO Tryz.prog 120 1 1:=⟨by kernel_rfl⟩
instance iu129:Und Tryz.prog 129 (.slice 133):=⟨Tryz.underlying129⟩
theorem eo129:elemOK Tryz.prog 129 133 3=true:=by kernel_rfl
instance is133:Sz Tryz.prog 133 3:=⟨by kernel_rfl⟩
theorem sz133:(Tryz.prog.info? 133).map (·.size)=some 3:=is133.q
theorem zc133:zeroCells Tryz.prog 133=some [.int .i64 0,.int .i64 0,.int .i64 0]:=by kernel_rfl
instance ir133:Sr Tryz.prog 133 3:=⟨⟨_,Tryz.underlying133⟩,is133.q⟩
instance if133_0:FO Tryz.prog 133 0 0:=⟨by kernel_rfl⟩
theorem fo133_0:fieldOff Tryz.prog 133 0=some 0:=if133_0.q
instance if133_1:FO Tryz.prog 133 1 1:=⟨by kernel_rfl⟩
theorem fo133_1:fieldOff Tryz.prog 133 1=some 1:=if133_1.q
instance if133_2:FO Tryz.prog 133 2 2:=⟨by kernel_rfl⟩
theorem fo133_2:fieldOff Tryz.prog 133 2=some 2:=if133_2.q
instance io134:One Tryz.prog 134:=⟨by kernel_rfl⟩
instance is134:Sz Tryz.prog 134 1:=⟨by kernel_rfl⟩
theorem sz134:(Tryz.prog.info? 134).map (·.size)=some 1:=is134.q
instance iu134:Und Tryz.prog 134 (.slice 4):=⟨Tryz.underlying134⟩
theorem zc134:zeroCells Tryz.prog 134=some [.slice none 0 0]:=by kernel_rfl
theorem eo134:elemOK Tryz.prog 134 4 1=true:=by kernel_rfl
theorem go134:growOK Tryz.prog 134 4 1 1=true:=by kernel_rfl
instance is136:Sz Tryz.prog 136 3:=⟨by kernel_rfl⟩
theorem sz136:(Tryz.prog.info? 136).map (·.size)=some 3:=is136.q
theorem zc136:zeroCells Tryz.prog 136=some [.int .i64 0,.slice none 0 0,.slice none 0 0]:=by kernel_rfl
instance ir136:Sr Tryz.prog 136 3:=⟨⟨_,Tryz.underlying136⟩,is136.q⟩
instance if136_0:FO Tryz.prog 136 0 0:=⟨by kernel_rfl⟩
instance if136_1:FO Tryz.prog 136 1 1:=⟨by kernel_rfl⟩
instance if136_2:FO Tryz.prog 136 2 2:=⟨by kernel_rfl⟩
instance is138:Sz Tryz.prog 138 1:=⟨by kernel_rfl⟩
instance ir138:Sr Tryz.prog 138 1:=⟨⟨_,Tryz.underlying138⟩,is138.q⟩
instance if138_0:FO Tryz.prog 138 0 0:=⟨by kernel_rfl⟩
instance is139:Sz Tryz.prog 139 12:=⟨by kernel_rfl⟩
instance iu139:Und Tryz.prog 139 (.array 12 3):=⟨Tryz.underlying139⟩
instance is140:Sz Tryz.prog 140 144:=⟨by kernel_rfl⟩
theorem sz140:(Tryz.prog.info? 140).map (·.size)=some 144:=is140.q
instance iu140:Und Tryz.prog 140 (.array 12 139):=⟨Tryz.underlying140⟩
theorem zc140:zeroCells Tryz.prog 140=some [.int .i64 0,.int .i64 0,.int .i64 0,.int .i64 0,.int .i64 0,.int .i64 0,.int .i64 0,.int .i64 0,.int .i64 0,.int .i64 0,.int .i64 0,.int .i64 0,.int .i64 0,.int .i64 0,.int .i64 0,.int .i64 0,.int .i64 0,.int .i64 0,.int .i64 0,.int .i64 0,.int .i64 0,.int .i64 0,.int .i64 0,.int .i64 0,.int .i64 0,.int .i64 0,.int .i64 0,.int .i64 0,.int .i64 0,.int .i64 0,.int .i64 0,.int .i64 0,.int .i64 0,.int .i64 0,.int .i64 0,.int .i64 0,.int .i64 0,.int .i64 0,.int .i64 0,.int .i64 0,.int .i64 0,.int .i64 0,.int .i64 0,.int .i64 0,.int .i64 0,.int .i64 0,.int .i64 0,.int .i64 0,.int .i64 0,.int .i64 0,.int .i64 0,.int .i64 0,.int .i64 0,.int .i64 0,.int .i64 0,.int .i64 0,.int .i64 0,.int .i64 0,.int .i64 0,.int .i64 0,.int .i64 0,.int .i64 0,.int .i64 0,.int .i64 0,.int .i64 0,.int .i64 0,.int .i64 0,.int .i64 0,.int .i64 0,.int .i64 0,.int .i64 0,.int .i64 0,.int .i64 0,.int .i64 0,.int .i64 0,.int .i64 0,.int .i64 0,.int .i64 0,.int .i64 0,.int .i64 0,.int .i64 0,.int .i64 0,.int .i64 0,.int .i64 0,.int .i64 0,.int .i64 0,.int .i64 0,.int .i64 0,.int .i64 0,.int .i64 0,.int .i64 0,.int .i64 0,.int .i64 0,.int .i64 0,.int .i64 0,.int .i64 0,.int .i64 0,.int .i64 0,.int .i64 0,.int .i64 0,.int .i64 0,.int .i64 0,.int .i64 0,.int .i64 0,.int .i64 0,.int .i64 0,.int .i64 0,.int .i64 0,.int .i64 0,.int .i64 0,.int .i64 0,.int .i64 0,.int .i64 0,.int .i64 0,.int .i64 0,.int .i64 0,.int .i64 0,.int .i64 0,.int .i64 0,.int .i64 0,.int .i64 0,.int .i64 0,.int .i64 0,.int .i64 0,.int .i64 0,.int .i64 0,.int .i64 0,.int .i64 0,.int .i64 0,.int .i64 0,.int .i64 0,.int .i64 0,.int .i64 0,.int .i64 0,.int .i64 0,.int .i64 0,.int .i64 0,.int .i64 0,.int .i64 0,.int .i64 0,.int .i64 0,.int .i64 0,.int .i64 0,.int .i64 0]:=by kernel_rfl
instance io146:One Tryz.prog 146:=⟨by kernel_rfl⟩
instance iu146:Und Tryz.prog 146 (.slice 159):=⟨Tryz.underlying146⟩
theorem eo146:elemOK Tryz.prog 146 159 1=true:=by kernel_rfl
theorem go146:growOK Tryz.prog 146 159 1 16=true:=by kernel_rfl
instance io150:One Tryz.prog 150:=⟨by kernel_rfl⟩
instance is150:Sz Tryz.prog 150 1:=⟨by kernel_rfl⟩
theorem sz150:(Tryz.prog.info? 150).map (·.size)=some 1:=is150.q
instance iu150:Und Tryz.prog 150 (.slice 154):=⟨Tryz.underlying150⟩
theorem go150:growOK Tryz.prog 150 154 1 4=true:=by kernel_rfl
instance if152_0:FO Tryz.prog 152 0 0:=⟨by kernel_rfl⟩
instance if152_1:FO Tryz.prog 152 1 1:=⟨by kernel_rfl⟩
instance if152_2:FO Tryz.prog 152 2 2:=⟨by kernel_rfl⟩
instance io154:One Tryz.prog 154:=⟨by kernel_rfl⟩
instance is154:Sz Tryz.prog 154 1:=⟨by kernel_rfl⟩
theorem sz154:(Tryz.prog.info? 154).map (·.size)=some 1:=is154.q
instance iu154:Und Tryz.prog 154 (.int .u32):=⟨Tryz.underlying154⟩
theorem ze154:(Tryz.prog.info? 154).bind (·.zero)=some (.int .u32 0):=by kernel_rfl
instance is156:Sz Tryz.prog 156 2:=⟨by kernel_rfl⟩
theorem sz156:(Tryz.prog.info? 156).map (·.size)=some 2:=is156.q
theorem zc156:zeroCells Tryz.prog 156=some [.int .u32 0,.int .i64 0]:=by kernel_rfl
instance ir156:Sr Tryz.prog 156 2:=⟨⟨_,Tryz.underlying156⟩,is156.q⟩
instance if156_0:FO Tryz.prog 156 0 0:=⟨by kernel_rfl⟩
instance if156_1:FO Tryz.prog 156 1 1:=⟨by kernel_rfl⟩
instance io159:One Tryz.prog 159:=⟨by kernel_rfl⟩
instance is159:Sz Tryz.prog 159 1:=⟨by kernel_rfl⟩
theorem sz159:(Tryz.prog.info? 159).map (·.size)=some 1:=is159.q
instance io163:One Tryz.prog 163:=⟨by kernel_rfl⟩
instance iu174:Und Tryz.prog 174 (.slice 175):=⟨Tryz.underlying174⟩
theorem eo174:elemOK Tryz.prog 174 175 1=true:=by kernel_rfl
instance io175:One Tryz.prog 175:=⟨by kernel_rfl⟩
instance is175:Sz Tryz.prog 175 1:=⟨by kernel_rfl⟩
instance io188:One Tryz.prog 188:=⟨by kernel_rfl⟩
instance io191:One Tryz.prog 191:=⟨by kernel_rfl⟩
instance io194:One Tryz.prog 194:=⟨by kernel_rfl⟩
instance io197:One Tryz.prog 197:=⟨by kernel_rfl⟩
instance is199:Sz Tryz.prog 199 3:=⟨by kernel_rfl⟩
instance ir199:Sr Tryz.prog 199 3:=⟨⟨_,Tryz.underlying199⟩,is199.q⟩
instance if199_0:FO Tryz.prog 199 0 0:=⟨by kernel_rfl⟩
instance if199_1:FO Tryz.prog 199 1 1:=⟨by kernel_rfl⟩
instance if199_2:FO Tryz.prog 199 2 2:=⟨by kernel_rfl⟩
instance io201:One Tryz.prog 201:=⟨by kernel_rfl⟩
instance iu202:Und Tryz.prog 202 (.slice 120):=⟨Tryz.underlying202⟩
theorem eo202:elemOK Tryz.prog 202 120 2=true:=by kernel_rfl
instance io206:One Tryz.prog 206:=⟨by kernel_rfl⟩
instance if216_0:FO Tryz.prog 216 0 0:=⟨by kernel_rfl⟩
theorem fo216_0:fieldOff Tryz.prog 216 0=some 0:=if216_0.q
instance if216_1:FO Tryz.prog 216 1 3:=⟨by kernel_rfl⟩
instance if216_2:FO Tryz.prog 216 2 7:=⟨by kernel_rfl⟩
instance if218_0:FO Tryz.prog 218 0 0:=⟨by kernel_rfl⟩
instance if218_1:FO Tryz.prog 218 1 1:=⟨by kernel_rfl⟩
instance is226:Sz Tryz.prog 226 3:=⟨by kernel_rfl⟩
theorem sz226:(Tryz.prog.info? 226).map (·.size)=some 3:=is226.q
theorem zc226:zeroCells Tryz.prog 226=some [.int .i64 0,.int .i64 0,.int .i64 0]:=by kernel_rfl
instance if226_0:FO Tryz.prog 226 0 0:=⟨by kernel_rfl⟩
instance if226_1:FO Tryz.prog 226 1 1:=⟨by kernel_rfl⟩
instance if226_2:FO Tryz.prog 226 2 2:=⟨by kernel_rfl⟩
instance iu228:Und Tryz.prog 228 (.slice 156):=⟨Tryz.underlying228⟩
theorem eo228:elemOK Tryz.prog 228 156 2=true:=by kernel_rfl
theorem go228:growOK Tryz.prog 228 156 2 16=true:=by kernel_rfl
instance iu241:Und Tryz.prog 241 (.int .u64):=⟨Tryz.underlying241⟩
instance io250:One Tryz.prog 250:=⟨by kernel_rfl⟩
theorem one250:one Tryz.prog 250=true:=io250.q
instance is250:Sz Tryz.prog 250 1:=⟨by kernel_rfl⟩
theorem sz250:(Tryz.prog.info? 250).map (·.size)=some 1:=is250.q
instance is251:Sz Tryz.prog 251 3:=⟨by kernel_rfl⟩
theorem sz251:(Tryz.prog.info? 251).map (·.size)=some 3:=is251.q
instance iu251:Und Tryz.prog 251 (.array 3 250):=⟨Tryz.underlying251⟩
theorem zc251:zeroCells Tryz.prog 251=some [.nilFunc,.nilFunc,.nilFunc]:=by kernel_rfl
instance is256:Sz Tryz.prog 256 6:=⟨by kernel_rfl⟩
instance ir256:Sr Tryz.prog 256 6:=⟨⟨_,Tryz.underlying256⟩,is256.q⟩
instance if256_0:FO Tryz.prog 256 0 0:=⟨by kernel_rfl⟩
instance if256_1:FO Tryz.prog 256 1 1:=⟨by kernel_rfl⟩
instance if256_2:FO Tryz.prog 256 2 2:=⟨by kernel_rfl⟩
instance if256_3:FO Tryz.prog 256 3 3:=⟨by kernel_rfl⟩
instance if256_4:FO Tryz.prog 256 4 4:=⟨by kernel_rfl⟩
instance if256_5:FO Tryz.prog 256 5 5:=⟨by kernel_rfl⟩
instance iu281:Und Tryz.prog 281 (.slice 5):=⟨Tryz.underlying281⟩
instance is282:Sz Tryz.prog 282 17:=⟨by kernel_rfl⟩
theorem sz282:(Tryz.prog.info? 282).map (·.size)=some 17:=is282.q
instance iu282:Und Tryz.prog 282 (.array 17 9):=⟨Tryz.underlying282⟩
instance iu311:Und Tryz.prog 311 (.array 24 5):=⟨Tryz.underlying311⟩
instance ig6:FnI Tryz.prog 6 Tryz.f6 95:=⟨Tryz.func6,Tryz.ntmps6⟩
instance ig7:FnI Tryz.prog 7 Tryz.f7 158:=⟨Tryz.func7,Tryz.ntmps7⟩
instance ig9:FnI Tryz.prog 9 Tryz.f9 150:=⟨Tryz.func9,Tryz.ntmps9⟩
instance ie10:En Tryz.prog 10:=⟨by kernel_rfl⟩
instance ig10:FnI Tryz.prog 10 Tryz.f10 140:=⟨Tryz.func10,Tryz.ntmps10⟩
instance ie11:En Tryz.prog 11:=⟨by kernel_rfl⟩
instance ig11:FnI Tryz.prog 11 Tryz.f11 46:=⟨Tryz.func11,Tryz.ntmps11⟩
instance ie12:En Tryz.prog 12:=⟨by kernel_rfl⟩
theorem en12:enters Tryz.prog 12=true:=ie12.q
instance ig12:FnI Tryz.prog 12 Tryz.f12 47:=⟨Tryz.func12,Tryz.ntmps12⟩
instance ie13:En Tryz.prog 13:=⟨by kernel_rfl⟩
theorem en13:enters Tryz.prog 13=true:=ie13.q
instance ig13:FnI Tryz.prog 13 Tryz.f13 76:=⟨Tryz.func13,Tryz.ntmps13⟩
instance ie15:En Tryz.prog 15:=⟨by kernel_rfl⟩
instance ig15:FnI Tryz.prog 15 Tryz.f15 26:=⟨Tryz.func15,Tryz.ntmps15⟩
instance ie16:En Tryz.prog 16:=⟨by kernel_rfl⟩
instance ig16:FnI Tryz.prog 16 Tryz.f16 46:=⟨Tryz.func16,Tryz.ntmps16⟩
instance ie18:En Tryz.prog 18:=⟨by kernel_rfl⟩
theorem en18:enters Tryz.prog 18=true:=ie18.q
instance ig18:FnI Tryz.prog 18 Tryz.f18 30:=⟨Tryz.func18,Tryz.ntmps18⟩
instance ie20:En Tryz.prog 20:=⟨by kernel_rfl⟩
theorem en20:enters Tryz.prog 20=true:=ie20.q
instance ig20:FnI Tryz.prog 20 Tryz.f20 46:=⟨Tryz.func20,Tryz.ntmps20⟩
instance ie21:En Tryz.prog 21:=⟨by kernel_rfl⟩
instance ig21:FnI Tryz.prog 21 Tryz.f21 37:=⟨Tryz.func21,Tryz.ntmps21⟩
instance ie22:En Tryz.prog 22:=⟨by kernel_rfl⟩
instance ig22:FnI Tryz.prog 22 Tryz.f22 44:=⟨Tryz.func22,Tryz.ntmps22⟩
instance ie23:En Tryz.prog 23:=⟨by kernel_rfl⟩
instance ig23:FnI Tryz.prog 23 Tryz.f23 57:=⟨Tryz.func23,Tryz.ntmps23⟩
instance ie24:En Tryz.prog 24:=⟨by kernel_rfl⟩
instance ig24:FnI Tryz.prog 24 Tryz.f24 50:=⟨Tryz.func24,Tryz.ntmps24⟩
instance ie25:En Tryz.prog 25:=⟨by kernel_rfl⟩
theorem en25:enters Tryz.prog 25=true:=ie25.q
instance ig25:FnI Tryz.prog 25 Tryz.f25 31:=⟨Tryz.func25,Tryz.ntmps25⟩
instance ie26:En Tryz.prog 26:=⟨by kernel_rfl⟩
instance ig26:FnI Tryz.prog 26 Tryz.f26 42:=⟨Tryz.func26,Tryz.ntmps26⟩
instance ie27:En Tryz.prog 27:=⟨by kernel_rfl⟩
instance ig27:FnI Tryz.prog 27 Tryz.f27 54:=⟨Tryz.func27,Tryz.ntmps27⟩
instance ie28:En Tryz.prog 28:=⟨by kernel_rfl⟩
instance ig28:FnI Tryz.prog 28 Tryz.f28 169:=⟨Tryz.func28,Tryz.ntmps28⟩
instance ie29:En Tryz.prog 29:=⟨by kernel_rfl⟩
instance ig29:FnI Tryz.prog 29 Tryz.f29 23:=⟨Tryz.func29,Tryz.ntmps29⟩
instance ie30:En Tryz.prog 30:=⟨by kernel_rfl⟩
instance ig30:FnI Tryz.prog 30 Tryz.f30 51:=⟨Tryz.func30,Tryz.ntmps30⟩
instance ie31:En Tryz.prog 31:=⟨by kernel_rfl⟩
instance ig31:FnI Tryz.prog 31 Tryz.f31 29:=⟨Tryz.func31,Tryz.ntmps31⟩
instance ie32:En Tryz.prog 32:=⟨by kernel_rfl⟩
instance ig32:FnI Tryz.prog 32 Tryz.f32 22:=⟨Tryz.func32,Tryz.ntmps32⟩
instance ie33:En Tryz.prog 33:=⟨by kernel_rfl⟩
theorem en33:enters Tryz.prog 33=true:=ie33.q
instance ig33:FnI Tryz.prog 33 Tryz.f33 88:=⟨Tryz.func33,Tryz.ntmps33⟩
instance ie34:En Tryz.prog 34:=⟨by kernel_rfl⟩
instance ig34:FnI Tryz.prog 34 Tryz.f34 90:=⟨Tryz.func34,Tryz.ntmps34⟩
instance ie35:En Tryz.prog 35:=⟨by kernel_rfl⟩
theorem en35:enters Tryz.prog 35=true:=ie35.q
instance ig35:FnI Tryz.prog 35 Tryz.f35 22:=⟨Tryz.func35,Tryz.ntmps35⟩
instance ie36:En Tryz.prog 36:=⟨by kernel_rfl⟩
instance ig36:FnI Tryz.prog 36 Tryz.f36 41:=⟨Tryz.func36,Tryz.ntmps36⟩
instance ie37:En Tryz.prog 37:=⟨by kernel_rfl⟩
theorem en37:enters Tryz.prog 37=true:=ie37.q
instance ig37:FnI Tryz.prog 37 Tryz.f37 36:=⟨Tryz.func37,Tryz.ntmps37⟩
instance ie38:En Tryz.prog 38:=⟨by kernel_rfl⟩
theorem en38:enters Tryz.prog 38=true:=ie38.q
instance ig38:FnI Tryz.prog 38 Tryz.f38 42:=⟨Tryz.func38,Tryz.ntmps38⟩
instance ie39:En Tryz.prog 39:=⟨by kernel_rfl⟩
theorem en39:enters Tryz.prog 39=true:=ie39.q
instance ig39:FnI Tryz.prog 39 Tryz.f39 18:=⟨Tryz.func39,Tryz.ntmps39⟩
instance ie40:En Tryz.prog 40:=⟨by kernel_rfl⟩
theorem en40:enters Tryz.prog 40=true:=ie40.q
instance ig40:FnI Tryz.prog 40 Tryz.f40 37:=⟨Tryz.func40,Tryz.ntmps40⟩
instance ie41:En Tryz.prog 41:=⟨by kernel_rfl⟩
theorem en41:enters Tryz.prog 41=true:=ie41.q
instance ig41:FnI Tryz.prog 41 Tryz.f41 12:=⟨Tryz.func41,Tryz.ntmps41⟩
instance ie42:En Tryz.prog 42:=⟨by kernel_rfl⟩
theorem en42:enters Tryz.prog 42=true:=ie42.q
instance ig42:FnI Tryz.prog 42 Tryz.f42 2:=⟨Tryz.func42,Tryz.ntmps42⟩
instance ie43:En Tryz.prog 43:=⟨by kernel_rfl⟩
theorem en43:enters Tryz.prog 43=true:=ie43.q
instance ig43:FnI Tryz.prog 43 Tryz.f43 7:=⟨Tryz.func43,Tryz.ntmps43⟩
instance ie44:En Tryz.prog 44:=⟨by kernel_rfl⟩
theorem en44:enters Tryz.prog 44=true:=ie44.q
instance ig44:FnI Tryz.prog 44 Tryz.f44 20:=⟨Tryz.func44,Tryz.ntmps44⟩
instance ie45:En Tryz.prog 45:=⟨by kernel_rfl⟩
theorem en45:enters Tryz.prog 45=true:=ie45.q
instance ig45:FnI Tryz.prog 45 Tryz.f45 50:=⟨Tryz.func45,Tryz.ntmps45⟩
instance ie48:En Tryz.prog 48:=⟨by kernel_rfl⟩
instance ie51:En Tryz.prog 51:=⟨by kernel_rfl⟩
instance ig51:FnI Tryz.prog 51 Tryz.f51 18:=⟨Tryz.func51,Tryz.ntmps51⟩
instance ie52:En Tryz.prog 52:=⟨by kernel_rfl⟩
theorem en52:enters Tryz.prog 52=true:=ie52.q
instance ig52:FnI Tryz.prog 52 Tryz.f52 8:=⟨Tryz.func52,Tryz.ntmps52⟩
instance ie53:En Tryz.prog 53:=⟨by kernel_rfl⟩
theorem en53:enters Tryz.prog 53=true:=ie53.q
instance ig53:FnI Tryz.prog 53 Tryz.f53 16:=⟨Tryz.func53,Tryz.ntmps53⟩
instance ie54:En Tryz.prog 54:=⟨by kernel_rfl⟩
theorem en54:enters Tryz.prog 54=true:=ie54.q
instance ig54:FnI Tryz.prog 54 Tryz.f54 9:=⟨Tryz.func54,Tryz.ntmps54⟩
instance ie55:En Tryz.prog 55:=⟨by kernel_rfl⟩
theorem en55:enters Tryz.prog 55=true:=ie55.q
instance ig55:FnI Tryz.prog 55 Tryz.f55 8:=⟨Tryz.func55,Tryz.ntmps55⟩
instance ie57:En Tryz.prog 57:=⟨by kernel_rfl⟩
theorem en57:enters Tryz.prog 57=true:=ie57.q
instance ig57:FnI Tryz.prog 57 Tryz.f57 29:=⟨Tryz.func57,Tryz.ntmps57⟩
instance ie58:En Tryz.prog 58:=⟨by kernel_rfl⟩
instance ig58:FnI Tryz.prog 58 Tryz.f58 10:=⟨Tryz.func58,Tryz.ntmps58⟩
instance ie59:En Tryz.prog 59:=⟨by kernel_rfl⟩
instance ig59:FnI Tryz.prog 59 Tryz.f59 22:=⟨Tryz.func59,Tryz.ntmps59⟩
instance ie60:En Tryz.prog 60:=⟨by kernel_rfl⟩
instance ig60:FnI Tryz.prog 60 Tryz.f60 8:=⟨Tryz.func60,Tryz.ntmps60⟩
instance ie61:En Tryz.prog 61:=⟨by kernel_rfl⟩
theorem en61:enters Tryz.prog 61=true:=ie61.q
instance ig61:FnI Tryz.prog 61 Tryz.f61 9:=⟨Tryz.func61,Tryz.ntmps61⟩
instance ie62:En Tryz.prog 62:=⟨by kernel_rfl⟩
theorem en62:enters Tryz.prog 62=true:=ie62.q
instance ig62:FnI Tryz.prog 62 Tryz.f62 9:=⟨Tryz.func62,Tryz.ntmps62⟩
instance ie63:En Tryz.prog 63:=⟨by kernel_rfl⟩
instance ig63:FnI Tryz.prog 63 Tryz.f63 6:=⟨Tryz.func63,Tryz.ntmps63⟩
instance ie64:En Tryz.prog 64:=⟨by kernel_rfl⟩
instance ig64:FnI Tryz.prog 64 Tryz.f64 57:=⟨Tryz.func64,Tryz.ntmps64⟩
instance ie65:En Tryz.prog 65:=⟨by kernel_rfl⟩
theorem en65:enters Tryz.prog 65=true:=ie65.q
instance ig65:FnI Tryz.prog 65 Tryz.f65 13:=⟨Tryz.func65,Tryz.ntmps65⟩
instance ie66:En Tryz.prog 66:=⟨by kernel_rfl⟩
theorem en66:enters Tryz.prog 66=true:=ie66.q
instance ig66:FnI Tryz.prog 66 Tryz.f66 13:=⟨Tryz.func66,Tryz.ntmps66⟩
instance ie67:En Tryz.prog 67:=⟨by kernel_rfl⟩
instance ig67:FnI Tryz.prog 67 Tryz.f67 17:=⟨Tryz.func67,Tryz.ntmps67⟩
instance ie68:En Tryz.prog 68:=⟨by kernel_rfl⟩
theorem en68:enters Tryz.prog 68=true:=ie68.q
instance ig68:FnI Tryz.prog 68 Tryz.f68 67:=⟨Tryz.func68,Tryz.ntmps68⟩
instance ie69:En Tryz.prog 69:=⟨by kernel_rfl⟩
theorem en69:enters Tryz.prog 69=true:=ie69.q
instance ig69:FnI Tryz.prog 69 Tryz.f69 19:=⟨Tryz.func69,Tryz.ntmps69⟩
instance ie70:En Tryz.prog 70:=⟨by kernel_rfl⟩
theorem en70:enters Tryz.prog 70=true:=ie70.q
instance ig70:FnI Tryz.prog 70 Tryz.f70 18:=⟨Tryz.func70,Tryz.ntmps70⟩
instance ie71:En Tryz.prog 71:=⟨by kernel_rfl⟩
theorem en71:enters Tryz.prog 71=true:=ie71.q
instance ig71:FnI Tryz.prog 71 Tryz.f71 28:=⟨Tryz.func71,Tryz.ntmps71⟩
instance ie72:En Tryz.prog 72:=⟨by kernel_rfl⟩
theorem en72:enters Tryz.prog 72=true:=ie72.q
instance ig72:FnI Tryz.prog 72 Tryz.f72 9:=⟨Tryz.func72,Tryz.ntmps72⟩
instance ie73:En Tryz.prog 73:=⟨by kernel_rfl⟩
theorem en73:enters Tryz.prog 73=true:=ie73.q
instance ig73:FnI Tryz.prog 73 Tryz.f73 9:=⟨Tryz.func73,Tryz.ntmps73⟩
instance ie74:En Tryz.prog 74:=⟨by kernel_rfl⟩
theorem en74:enters Tryz.prog 74=true:=ie74.q
instance ig74:FnI Tryz.prog 74 Tryz.f74 7:=⟨Tryz.func74,Tryz.ntmps74⟩
instance ie75:En Tryz.prog 75:=⟨by kernel_rfl⟩
instance ig75:FnI Tryz.prog 75 Tryz.f75 8:=⟨Tryz.func75,Tryz.ntmps75⟩
instance ie76:En Tryz.prog 76:=⟨by kernel_rfl⟩
instance ig76:FnI Tryz.prog 76 Tryz.f76 23:=⟨Tryz.func76,Tryz.ntmps76⟩
instance ie77:En Tryz.prog 77:=⟨by kernel_rfl⟩
instance ig77:FnI Tryz.prog 77 Tryz.f77 31:=⟨Tryz.func77,Tryz.ntmps77⟩
instance ie78:En Tryz.prog 78:=⟨by kernel_rfl⟩
instance ig78:FnI Tryz.prog 78 Tryz.f78 6:=⟨Tryz.func78,Tryz.ntmps78⟩
instance ie79:En Tryz.prog 79:=⟨by kernel_rfl⟩
instance ig79:FnI Tryz.prog 79 Tryz.f79 71:=⟨Tryz.func79,Tryz.ntmps79⟩
instance ie80:En Tryz.prog 80:=⟨by kernel_rfl⟩
theorem en80:enters Tryz.prog 80=true:=ie80.q
instance ig80:FnI Tryz.prog 80 Tryz.f80 39:=⟨Tryz.func80,Tryz.ntmps80⟩
instance ie81:En Tryz.prog 81:=⟨by kernel_rfl⟩
instance ig81:FnI Tryz.prog 81 Tryz.f81 86:=⟨Tryz.func81,Tryz.ntmps81⟩
instance ie82:En Tryz.prog 82:=⟨by kernel_rfl⟩
instance ig82:FnI Tryz.prog 82 Tryz.f82 54:=⟨Tryz.func82,Tryz.ntmps82⟩
instance ie83:En Tryz.prog 83:=⟨by kernel_rfl⟩
instance ig83:FnI Tryz.prog 83 Tryz.f83 22:=⟨Tryz.func83,Tryz.ntmps83⟩
instance ie84:En Tryz.prog 84:=⟨by kernel_rfl⟩
instance ig84:FnI Tryz.prog 84 Tryz.f84 116:=⟨Tryz.func84,Tryz.ntmps84⟩
instance ie85:En Tryz.prog 85:=⟨by kernel_rfl⟩
instance ig85:FnI Tryz.prog 85 Tryz.f85 73:=⟨Tryz.func85,Tryz.ntmps85⟩
instance ie86:En Tryz.prog 86:=⟨by kernel_rfl⟩
instance ig86:FnI Tryz.prog 86 Tryz.f86 51:=⟨Tryz.func86,Tryz.ntmps86⟩
instance ie87:En Tryz.prog 87:=⟨by kernel_rfl⟩
instance ig87:FnI Tryz.prog 87 Tryz.f87 144:=⟨Tryz.func87,Tryz.ntmps87⟩
instance ie88:En Tryz.prog 88:=⟨by kernel_rfl⟩
theorem en88:enters Tryz.prog 88=true:=ie88.q
instance ig88:FnI Tryz.prog 88 Tryz.f88 64:=⟨Tryz.func88,Tryz.ntmps88⟩
instance ie89:En Tryz.prog 89:=⟨by kernel_rfl⟩
instance ig89:FnI Tryz.prog 89 Tryz.f89 27:=⟨Tryz.func89,Tryz.ntmps89⟩
instance ie90:En Tryz.prog 90:=⟨by kernel_rfl⟩
instance ig90:FnI Tryz.prog 90 Tryz.f90 13:=⟨Tryz.func90,Tryz.ntmps90⟩
instance ie91:En Tryz.prog 91:=⟨by kernel_rfl⟩
instance ig91:FnI Tryz.prog 91 Tryz.f91 110:=⟨Tryz.func91,Tryz.ntmps91⟩
instance ie92:En Tryz.prog 92:=⟨by kernel_rfl⟩
instance ig92:FnI Tryz.prog 92 Tryz.f92 33:=⟨Tryz.func92,Tryz.ntmps92⟩
instance ie93:En Tryz.prog 93:=⟨by kernel_rfl⟩
theorem en93:enters Tryz.prog 93=true:=ie93.q
instance ig93:FnI Tryz.prog 93 Tryz.f93 45:=⟨Tryz.func93,Tryz.ntmps93⟩
instance ie94:En Tryz.prog 94:=⟨by kernel_rfl⟩
theorem en94:enters Tryz.prog 94=true:=ie94.q
instance ig94:FnI Tryz.prog 94 Tryz.f94 15:=⟨Tryz.func94,Tryz.ntmps94⟩
instance ie95:En Tryz.prog 95:=⟨by kernel_rfl⟩
instance ig95:FnI Tryz.prog 95 Tryz.f95 46:=⟨Tryz.func95,Tryz.ntmps95⟩
instance ie96:En Tryz.prog 96:=⟨by kernel_rfl⟩
theorem en96:enters Tryz.prog 96=true:=ie96.q
instance ig96:FnI Tryz.prog 96 Tryz.f96 115:=⟨Tryz.func96,Tryz.ntmps96⟩
instance ie97:En Tryz.prog 97:=⟨by kernel_rfl⟩
theorem en97:enters Tryz.prog 97=true:=ie97.q
instance ig97:FnI Tryz.prog 97 Tryz.f97 12:=⟨Tryz.func97,Tryz.ntmps97⟩
instance ie103:En Tryz.prog 103:=⟨by kernel_rfl⟩
instance ig103:FnI Tryz.prog 103 Tryz.f103 7:=⟨Tryz.func103,Tryz.ntmps103⟩
instance ie104:En Tryz.prog 104:=⟨by kernel_rfl⟩
theorem en104:enters Tryz.prog 104=true:=ie104.q
instance ig104:FnI Tryz.prog 104 Tryz.f104 15:=⟨Tryz.func104,Tryz.ntmps104⟩
instance ie108:En Tryz.prog 108:=⟨by kernel_rfl⟩
theorem en108:enters Tryz.prog 108=true:=ie108.q
instance ig108:FnI Tryz.prog 108 Tryz.f108 9:=⟨Tryz.func108,Tryz.ntmps108⟩
instance ie109:En Tryz.prog 109:=⟨by kernel_rfl⟩
theorem en109:enters Tryz.prog 109=true:=ie109.q
instance ig109:FnI Tryz.prog 109 Tryz.f109 14:=⟨Tryz.func109,Tryz.ntmps109⟩
instance ie110:En Tryz.prog 110:=⟨by kernel_rfl⟩
instance ig110:FnI Tryz.prog 110 Tryz.f110 9:=⟨Tryz.func110,Tryz.ntmps110⟩
instance ie111:En Tryz.prog 111:=⟨by kernel_rfl⟩
theorem en111:enters Tryz.prog 111=true:=ie111.q
instance ig111:FnI Tryz.prog 111 Tryz.f111 23:=⟨Tryz.func111,Tryz.ntmps111⟩
instance ie112:En Tryz.prog 112:=⟨by kernel_rfl⟩
theorem en112:enters Tryz.prog 112=true:=ie112.q
instance ig112:FnI Tryz.prog 112 Tryz.f112 15:=⟨Tryz.func112,Tryz.ntmps112⟩
instance ie113:En Tryz.prog 113:=⟨by kernel_rfl⟩
theorem en113:enters Tryz.prog 113=true:=ie113.q
instance ig113:FnI Tryz.prog 113 Tryz.f113 36:=⟨Tryz.func113,Tryz.ntmps113⟩
instance ie114:En Tryz.prog 114:=⟨by kernel_rfl⟩
instance ig114:FnI Tryz.prog 114 Tryz.f114 19:=⟨Tryz.func114,Tryz.ntmps114⟩
instance ie115:En Tryz.prog 115:=⟨by kernel_rfl⟩
theorem en115:enters Tryz.prog 115=true:=ie115.q
instance ig115:FnI Tryz.prog 115 Tryz.f115 40:=⟨Tryz.func115,Tryz.ntmps115⟩
instance ie116:En Tryz.prog 116:=⟨by kernel_rfl⟩
instance ig116:FnI Tryz.prog 116 Tryz.f116 6:=⟨Tryz.func116,Tryz.ntmps116⟩
instance ie117:En Tryz.prog 117:=⟨by kernel_rfl⟩
theorem en117:enters Tryz.prog 117=true:=ie117.q
instance ig117:FnI Tryz.prog 117 Tryz.f117 14:=⟨Tryz.func117,Tryz.ntmps117⟩
instance ie118:En Tryz.prog 118:=⟨by kernel_rfl⟩
instance ig118:FnI Tryz.prog 118 Tryz.f118 57:=⟨Tryz.func118,Tryz.ntmps118⟩
instance ie119:En Tryz.prog 119:=⟨by kernel_rfl⟩
theorem en119:enters Tryz.prog 119=true:=ie119.q
instance ig119:FnI Tryz.prog 119 Tryz.f119 43:=⟨Tryz.func119,Tryz.ntmps119⟩
instance ie120:En Tryz.prog 120:=⟨by kernel_rfl⟩
theorem en120:enters Tryz.prog 120=true:=ie120.q
instance ig120:FnI Tryz.prog 120 Tryz.f120 10:=⟨Tryz.func120,Tryz.ntmps120⟩
instance ie121:En Tryz.prog 121:=⟨by kernel_rfl⟩
instance ig121:FnI Tryz.prog 121 Tryz.f121 57:=⟨Tryz.func121,Tryz.ntmps121⟩
instance ie122:En Tryz.prog 122:=⟨by kernel_rfl⟩
theorem en122:enters Tryz.prog 122=true:=ie122.q
instance ig122:FnI Tryz.prog 122 Tryz.f122 3:=⟨Tryz.func122,Tryz.ntmps122⟩
instance ie123:En Tryz.prog 123:=⟨by kernel_rfl⟩
theorem en123:enters Tryz.prog 123=true:=ie123.q
instance ig123:FnI Tryz.prog 123 Tryz.f123 10:=⟨Tryz.func123,Tryz.ntmps123⟩
instance ie124:En Tryz.prog 124:=⟨by kernel_rfl⟩
instance ig124:FnI Tryz.prog 124 Tryz.f124 57:=⟨Tryz.func124,Tryz.ntmps124⟩
instance ie125:En Tryz.prog 125:=⟨by kernel_rfl⟩
theorem en125:enters Tryz.prog 125=true:=ie125.q
instance ig125:FnI Tryz.prog 125 Tryz.f125 7:=⟨Tryz.func125,Tryz.ntmps125⟩
instance ie126:En Tryz.prog 126:=⟨by kernel_rfl⟩
instance ig126:FnI Tryz.prog 126 Tryz.f126 51:=⟨Tryz.func126,Tryz.ntmps126⟩
instance ie127:En Tryz.prog 127:=⟨by kernel_rfl⟩
theorem en127:enters Tryz.prog 127=true:=ie127.q
instance ig127:FnI Tryz.prog 127 Tryz.f127 10:=⟨Tryz.func127,Tryz.ntmps127⟩
instance ie128:En Tryz.prog 128:=⟨by kernel_rfl⟩
instance ig128:FnI Tryz.prog 128 Tryz.f128 57:=⟨Tryz.func128,Tryz.ntmps128⟩
instance ie129:En Tryz.prog 129:=⟨by kernel_rfl⟩
theorem en129:enters Tryz.prog 129=true:=ie129.q
instance ig129:FnI Tryz.prog 129 Tryz.f129 7:=⟨Tryz.func129,Tryz.ntmps129⟩
instance ie130:En Tryz.prog 130:=⟨by kernel_rfl⟩
instance ig130:FnI Tryz.prog 130 Tryz.f130 39:=⟨Tryz.func130,Tryz.ntmps130⟩
instance ie131:En Tryz.prog 131:=⟨by kernel_rfl⟩
theorem en131:enters Tryz.prog 131=true:=ie131.q
instance ig131:FnI Tryz.prog 131 Tryz.f131 10:=⟨Tryz.func131,Tryz.ntmps131⟩
instance ie132:En Tryz.prog 132:=⟨by kernel_rfl⟩
instance ig132:FnI Tryz.prog 132 Tryz.f132 57:=⟨Tryz.func132,Tryz.ntmps132⟩
instance ie133:En Tryz.prog 133:=⟨by kernel_rfl⟩
theorem en133:enters Tryz.prog 133=true:=ie133.q
instance ig133:FnI Tryz.prog 133 Tryz.f133 11:=⟨Tryz.func133,Tryz.ntmps133⟩
instance ie134:En Tryz.prog 134:=⟨by kernel_rfl⟩
theorem en134:enters Tryz.prog 134=true:=ie134.q
instance ig134:FnI Tryz.prog 134 Tryz.f134 5:=⟨Tryz.func134,Tryz.ntmps134⟩
instance ie135:En Tryz.prog 135:=⟨by kernel_rfl⟩
instance ig135:FnI Tryz.prog 135 Tryz.f135 15:=⟨Tryz.func135,Tryz.ntmps135⟩
instance ie136:En Tryz.prog 136:=⟨by kernel_rfl⟩
theorem en136:enters Tryz.prog 136=true:=ie136.q
instance ig136:FnI Tryz.prog 136 Tryz.f136 7:=⟨Tryz.func136,Tryz.ntmps136⟩
instance ie137:En Tryz.prog 137:=⟨by kernel_rfl⟩
theorem en137:enters Tryz.prog 137=true:=ie137.q
instance ig137:FnI Tryz.prog 137 Tryz.f137 12:=⟨Tryz.func137,Tryz.ntmps137⟩
instance ie138:En Tryz.prog 138:=⟨by kernel_rfl⟩
theorem en138:enters Tryz.prog 138=true:=ie138.q
instance ig138:FnI Tryz.prog 138 Tryz.f138 18:=⟨Tryz.func138,Tryz.ntmps138⟩
instance ie139:En Tryz.prog 139:=⟨by kernel_rfl⟩
theorem en139:enters Tryz.prog 139=true:=ie139.q
instance ig139:FnI Tryz.prog 139 Tryz.f139 5:=⟨Tryz.func139,Tryz.ntmps139⟩
instance ie140:En Tryz.prog 140:=⟨by kernel_rfl⟩
theorem en140:enters Tryz.prog 140=true:=ie140.q
instance ig140:FnI Tryz.prog 140 Tryz.f140 5:=⟨Tryz.func140,Tryz.ntmps140⟩
instance ie141:En Tryz.prog 141:=⟨by kernel_rfl⟩
instance ig141:FnI Tryz.prog 141 Tryz.f141 30:=⟨Tryz.func141,Tryz.ntmps141⟩
instance ie142:En Tryz.prog 142:=⟨by kernel_rfl⟩
theorem en142:enters Tryz.prog 142=true:=ie142.q
instance ig142:FnI Tryz.prog 142 Tryz.f142 14:=⟨Tryz.func142,Tryz.ntmps142⟩
instance ie143:En Tryz.prog 143:=⟨by kernel_rfl⟩
instance ig143:FnI Tryz.prog 143 Tryz.f143 62:=⟨Tryz.func143,Tryz.ntmps143⟩
instance ie144:En Tryz.prog 144:=⟨by kernel_rfl⟩
instance ig144:FnI Tryz.prog 144 Tryz.f144 19:=⟨Tryz.func144,Tryz.ntmps144⟩
instance ie145:En Tryz.prog 145:=⟨by kernel_rfl⟩
instance ig145:FnI Tryz.prog 145 Tryz.f145 9:=⟨Tryz.func145,Tryz.ntmps145⟩
instance ie146:En Tryz.prog 146:=⟨by kernel_rfl⟩
theorem en146:enters Tryz.prog 146=true:=ie146.q
instance ig146:FnI Tryz.prog 146 Tryz.f146 21:=⟨Tryz.func146,Tryz.ntmps146⟩
instance ie147:En Tryz.prog 147:=⟨by kernel_rfl⟩
theorem en147:enters Tryz.prog 147=true:=ie147.q
instance ig147:FnI Tryz.prog 147 Tryz.f147 5:=⟨Tryz.func147,Tryz.ntmps147⟩
instance ie148:En Tryz.prog 148:=⟨by kernel_rfl⟩
instance ig148:FnI Tryz.prog 148 Tryz.f148 9:=⟨Tryz.func148,Tryz.ntmps148⟩
instance ie149:En Tryz.prog 149:=⟨by kernel_rfl⟩
instance ig149:FnI Tryz.prog 149 Tryz.f149 4:=⟨Tryz.func149,Tryz.ntmps149⟩
instance ie150:En Tryz.prog 150:=⟨by kernel_rfl⟩
theorem en150:enters Tryz.prog 150=true:=ie150.q
instance ig150:FnI Tryz.prog 150 Tryz.f150 38:=⟨Tryz.func150,Tryz.ntmps150⟩
instance ie151:En Tryz.prog 151:=⟨by kernel_rfl⟩
instance ig151:FnI Tryz.prog 151 Tryz.f151 102:=⟨Tryz.func151,Tryz.ntmps151⟩
instance ie152:En Tryz.prog 152:=⟨by kernel_rfl⟩
theorem en152:enters Tryz.prog 152=true:=ie152.q
instance ig152:FnI Tryz.prog 152 Tryz.f152 22:=⟨Tryz.func152,Tryz.ntmps152⟩
instance ie153:En Tryz.prog 153:=⟨by kernel_rfl⟩
theorem en153:enters Tryz.prog 153=true:=ie153.q
instance ig153:FnI Tryz.prog 153 Tryz.f153 27:=⟨Tryz.func153,Tryz.ntmps153⟩
instance ie154:En Tryz.prog 154:=⟨by kernel_rfl⟩
instance ig154:FnI Tryz.prog 154 Tryz.f154 15:=⟨Tryz.func154,Tryz.ntmps154⟩
instance ie155:En Tryz.prog 155:=⟨by kernel_rfl⟩
instance ig155:FnI Tryz.prog 155 Tryz.f155 15:=⟨Tryz.func155,Tryz.ntmps155⟩
instance ie156:En Tryz.prog 156:=⟨by kernel_rfl⟩
instance ig156:FnI Tryz.prog 156 Tryz.f156 35:=⟨Tryz.func156,Tryz.ntmps156⟩
instance ie157:En Tryz.prog 157:=⟨by kernel_rfl⟩
instance ig157:FnI Tryz.prog 157 Tryz.f157 9:=⟨Tryz.func157,Tryz.ntmps157⟩
instance ie158:En Tryz.prog 158:=⟨by kernel_rfl⟩
theorem en158:enters Tryz.prog 158=true:=ie158.q
instance ig158:FnI Tryz.prog 158 Tryz.f158 22:=⟨Tryz.func158,Tryz.ntmps158⟩
instance ie159:En Tryz.prog 159:=⟨by kernel_rfl⟩
instance ig159:FnI Tryz.prog 159 Tryz.f159 20:=⟨Tryz.func159,Tryz.ntmps159⟩
instance ie160:En Tryz.prog 160:=⟨by kernel_rfl⟩
instance ig160:FnI Tryz.prog 160 Tryz.f160 49:=⟨Tryz.func160,Tryz.ntmps160⟩
instance ie161:En Tryz.prog 161:=⟨by kernel_rfl⟩
instance ig161:FnI Tryz.prog 161 Tryz.f161 61:=⟨Tryz.func161,Tryz.ntmps161⟩
instance ie162:En Tryz.prog 162:=⟨by kernel_rfl⟩
instance ig162:FnI Tryz.prog 162 Tryz.f162 75:=⟨Tryz.func162,Tryz.ntmps162⟩
instance ie163:En Tryz.prog 163:=⟨by kernel_rfl⟩
instance ig163:FnI Tryz.prog 163 Tryz.f163 65:=⟨Tryz.func163,Tryz.ntmps163⟩
instance ie164:En Tryz.prog 164:=⟨by kernel_rfl⟩
instance ig164:FnI Tryz.prog 164 Tryz.f164 101:=⟨Tryz.func164,Tryz.ntmps164⟩
instance ie165:En Tryz.prog 165:=⟨by kernel_rfl⟩
instance ig165:FnI Tryz.prog 165 Tryz.f165 126:=⟨Tryz.func165,Tryz.ntmps165⟩
instance ie188:En Tryz.prog 188:=⟨by kernel_rfl⟩
instance ig188:FnI Tryz.prog 188 Tryz.f188 19:=⟨Tryz.func188,Tryz.ntmps188⟩
instance ie189:En Tryz.prog 189:=⟨by kernel_rfl⟩
instance ig189:FnI Tryz.prog 189 Tryz.f189 19:=⟨Tryz.func189,Tryz.ntmps189⟩
instance ie190:En Tryz.prog 190:=⟨by kernel_rfl⟩
instance ig190:FnI Tryz.prog 190 Tryz.f190 27:=⟨Tryz.func190,Tryz.ntmps190⟩
instance ie191:En Tryz.prog 191:=⟨by kernel_rfl⟩
theorem en191:enters Tryz.prog 191=true:=ie191.q
instance ig191:FnI Tryz.prog 191 Tryz.f191 45:=⟨Tryz.func191,Tryz.ntmps191⟩
instance ie192:En Tryz.prog 192:=⟨by kernel_rfl⟩
theorem en192:enters Tryz.prog 192=true:=ie192.q
instance ig192:FnI Tryz.prog 192 Tryz.f192 9:=⟨Tryz.func192,Tryz.ntmps192⟩
instance ie193:En Tryz.prog 193:=⟨by kernel_rfl⟩
instance ig193:FnI Tryz.prog 193 Tryz.f193 49:=⟨Tryz.func193,Tryz.ntmps193⟩
instance ie194:En Tryz.prog 194:=⟨by kernel_rfl⟩
theorem en194:enters Tryz.prog 194=true:=ie194.q
instance ig194:FnI Tryz.prog 194 Tryz.f194 17:=⟨Tryz.func194,Tryz.ntmps194⟩
instance ie195:En Tryz.prog 195:=⟨by kernel_rfl⟩
theorem en195:enters Tryz.prog 195=true:=ie195.q
instance ig195:FnI Tryz.prog 195 Tryz.f195 12:=⟨Tryz.func195,Tryz.ntmps195⟩
instance ie196:En Tryz.prog 196:=⟨by kernel_rfl⟩
theorem en196:enters Tryz.prog 196=true:=ie196.q
instance ig196:FnI Tryz.prog 196 Tryz.f196 9:=⟨Tryz.func196,Tryz.ntmps196⟩
instance ie197:En Tryz.prog 197:=⟨by kernel_rfl⟩
theorem en197:enters Tryz.prog 197=true:=ie197.q
instance ig197:FnI Tryz.prog 197 Tryz.f197 17:=⟨Tryz.func197,Tryz.ntmps197⟩
instance ie198:En Tryz.prog 198:=⟨by kernel_rfl⟩
theorem en198:enters Tryz.prog 198=true:=ie198.q
instance ig198:FnI Tryz.prog 198 Tryz.f198 12:=⟨Tryz.func198,Tryz.ntmps198⟩
instance ie199:En Tryz.prog 199:=⟨by kernel_rfl⟩
theorem en199:enters Tryz.prog 199=true:=ie199.q
instance ig199:FnI Tryz.prog 199 Tryz.f199 9:=⟨Tryz.func199,Tryz.ntmps199⟩
instance ie200:En Tryz.prog 200:=⟨by kernel_rfl⟩
theorem en200:enters Tryz.prog 200=true:=ie200.q
instance ig200:FnI Tryz.prog 200 Tryz.f200 17:=⟨Tryz.func200,Tryz.ntmps200⟩
instance ie201:En Tryz.prog 201:=⟨by kernel_rfl⟩
theorem en201:enters Tryz.prog 201=true:=ie201.q
instance ig201:FnI Tryz.prog 201 Tryz.f201 12:=⟨Tryz.func201,Tryz.ntmps201⟩
instance ie202:En Tryz.prog 202:=⟨by kernel_rfl⟩
instance ig202:FnI Tryz.prog 202 Tryz.f202 13:=⟨Tryz.func202,Tryz.ntmps202⟩
instance ie203:En Tryz.prog 203:=⟨by kernel_rfl⟩
theorem en203:enters Tryz.prog 203=true:=ie203.q
instance ig203:FnI Tryz.prog 203 Tryz.f203 13:=⟨Tryz.func203,Tryz.ntmps203⟩
instance ie204:En Tryz.prog 204:=⟨by kernel_rfl⟩
instance ig204:FnI Tryz.prog 204 Tryz.f204 32:=⟨Tryz.func204,Tryz.ntmps204⟩
instance ie205:En Tryz.prog 205:=⟨by kernel_rfl⟩
theorem en205:enters Tryz.prog 205=true:=ie205.q
instance ig205:FnI Tryz.prog 205 Tryz.f205 15:=⟨Tryz.func205,Tryz.ntmps205⟩
instance ie206:En Tryz.prog 206:=⟨by kernel_rfl⟩
theorem en206:enters Tryz.prog 206=true:=ie206.q
instance ig206:FnI Tryz.prog 206 Tryz.f206 9:=⟨Tryz.func206,Tryz.ntmps206⟩
instance ie207:En Tryz.prog 207:=⟨by kernel_rfl⟩
theorem en207:enters Tryz.prog 207=true:=ie207.q
instance ig207:FnI Tryz.prog 207 Tryz.f207 17:=⟨Tryz.func207,Tryz.ntmps207⟩
instance ie208:En Tryz.prog 208:=⟨by kernel_rfl⟩
theorem en208:enters Tryz.prog 208=true:=ie208.q
instance ig208:FnI Tryz.prog 208 Tryz.f208 12:=⟨Tryz.func208,Tryz.ntmps208⟩
instance ie209:En Tryz.prog 209:=⟨by kernel_rfl⟩
theorem en209:enters Tryz.prog 209=true:=ie209.q
instance ig209:FnI Tryz.prog 209 Tryz.f209 9:=⟨Tryz.func209,Tryz.ntmps209⟩
instance ie210:En Tryz.prog 210:=⟨by kernel_rfl⟩
theorem en210:enters Tryz.prog 210=true:=ie210.q
instance ig210:FnI Tryz.prog 210 Tryz.f210 17:=⟨Tryz.func210,Tryz.ntmps210⟩
instance ie211:En Tryz.prog 211:=⟨by kernel_rfl⟩
theorem en211:enters Tryz.prog 211=true:=ie211.q
instance ig211:FnI Tryz.prog 211 Tryz.f211 12:=⟨Tryz.func211,Tryz.ntmps211⟩
instance ie212:En Tryz.prog 212:=⟨by kernel_rfl⟩
instance ig212:FnI Tryz.prog 212 Tryz.f212 29:=⟨Tryz.func212,Tryz.ntmps212⟩
instance ie213:En Tryz.prog 213:=⟨by kernel_rfl⟩
theorem en213:enters Tryz.prog 213=true:=ie213.q
instance ig213:FnI Tryz.prog 213 Tryz.f213 27:=⟨Tryz.func213,Tryz.ntmps213⟩
instance ie214:En Tryz.prog 214:=⟨by kernel_rfl⟩
instance ig214:FnI Tryz.prog 214 Tryz.f214 6:=⟨Tryz.func214,Tryz.ntmps214⟩
instance ie215:En Tryz.prog 215:=⟨by kernel_rfl⟩
theorem en215:enters Tryz.prog 215=true:=ie215.q
instance ig215:FnI Tryz.prog 215 Tryz.f215 9:=⟨Tryz.func215,Tryz.ntmps215⟩
instance ie216:En Tryz.prog 216:=⟨by kernel_rfl⟩
theorem en216:enters Tryz.prog 216=true:=ie216.q
instance ig216:FnI Tryz.prog 216 Tryz.f216 10:=⟨Tryz.func216,Tryz.ntmps216⟩
instance ie217:En Tryz.prog 217:=⟨by kernel_rfl⟩
instance ig217:FnI Tryz.prog 217 Tryz.f217 22:=⟨Tryz.func217,Tryz.ntmps217⟩
instance ie218:En Tryz.prog 218:=⟨by kernel_rfl⟩
instance ig218:FnI Tryz.prog 218 Tryz.f218 5:=⟨Tryz.func218,Tryz.ntmps218⟩
instance ie219:En Tryz.prog 219:=⟨by kernel_rfl⟩
theorem en219:enters Tryz.prog 219=true:=ie219.q
instance ig219:FnI Tryz.prog 219 Tryz.f219 14:=⟨Tryz.func219,Tryz.ntmps219⟩
instance ie220:En Tryz.prog 220:=⟨by kernel_rfl⟩
theorem en220:enters Tryz.prog 220=true:=ie220.q
instance ig220:FnI Tryz.prog 220 Tryz.f220 18:=⟨Tryz.func220,Tryz.ntmps220⟩
instance ie221:En Tryz.prog 221:=⟨by kernel_rfl⟩
instance ig221:FnI Tryz.prog 221 Tryz.f221 4:=⟨Tryz.func221,Tryz.ntmps221⟩
instance ie222:En Tryz.prog 222:=⟨by kernel_rfl⟩
instance ig222:FnI Tryz.prog 222 Tryz.f222 25:=⟨Tryz.func222,Tryz.ntmps222⟩
instance ie223:En Tryz.prog 223:=⟨by kernel_rfl⟩
instance ig223:FnI Tryz.prog 223 Tryz.f223 63:=⟨Tryz.func223,Tryz.ntmps223⟩
instance ie224:En Tryz.prog 224:=⟨by kernel_rfl⟩
instance ig224:FnI Tryz.prog 224 Tryz.f224 6:=⟨Tryz.func224,Tryz.ntmps224⟩
instance ie225:En Tryz.prog 225:=⟨by kernel_rfl⟩
theorem en225:enters Tryz.prog 225=true:=ie225.q
instance ig225:FnI Tryz.prog 225 Tryz.f225 52:=⟨Tryz.func225,Tryz.ntmps225⟩
instance ie226:En Tryz.prog 226:=⟨by kernel_rfl⟩
theorem en226:enters Tryz.prog 226=true:=ie226.q
instance ig226:FnI Tryz.prog 226 Tryz.f226 10:=⟨Tryz.func226,Tryz.ntmps226⟩
instance ie227:En Tryz.prog 227:=⟨by kernel_rfl⟩
instance ig227:FnI Tryz.prog 227 Tryz.f227 39:=⟨Tryz.func227,Tryz.ntmps227⟩
instance ie238:En Tryz.prog 238:=⟨by kernel_rfl⟩
theorem en238:enters Tryz.prog 238=true:=ie238.q
instance ig238:FnI Tryz.prog 238 Tryz.f238 9:=⟨Tryz.func238,Tryz.ntmps238⟩
instance ie239:En Tryz.prog 239:=⟨by kernel_rfl⟩
theorem en239:enters Tryz.prog 239=true:=ie239.q
instance ig239:FnI Tryz.prog 239 Tryz.f239 9:=⟨Tryz.func239,Tryz.ntmps239⟩
instance ie240:En Tryz.prog 240:=⟨by kernel_rfl⟩
instance ig240:FnI Tryz.prog 240 Tryz.f240 50:=⟨Tryz.func240,Tryz.ntmps240⟩
instance ie241:En Tryz.prog 241:=⟨by kernel_rfl⟩
instance ig241:FnI Tryz.prog 241 Tryz.f241 5:=⟨Tryz.func241,Tryz.ntmps241⟩
instance ie242:En Tryz.prog 242:=⟨by kernel_rfl⟩
instance ig242:FnI Tryz.prog 242 Tryz.f242 5:=⟨Tryz.func242,Tryz.ntmps242⟩
instance ie243:En Tryz.prog 243:=⟨by kernel_rfl⟩
instance ig243:FnI Tryz.prog 243 Tryz.f243 13:=⟨Tryz.func243,Tryz.ntmps243⟩
instance ie244:En Tryz.prog 244:=⟨by kernel_rfl⟩
theorem en244:enters Tryz.prog 244=true:=ie244.q
instance ig244:FnI Tryz.prog 244 Tryz.f244 37:=⟨Tryz.func244,Tryz.ntmps244⟩
instance ie245:En Tryz.prog 245:=⟨by kernel_rfl⟩
instance ig245:FnI Tryz.prog 245 Tryz.f245 40:=⟨Tryz.func245,Tryz.ntmps245⟩
instance ie246:En Tryz.prog 246:=⟨by kernel_rfl⟩
instance ig246:FnI Tryz.prog 246 Tryz.f246 53:=⟨Tryz.func246,Tryz.ntmps246⟩
instance ie247:En Tryz.prog 247:=⟨by kernel_rfl⟩
instance ie248:En Tryz.prog 248:=⟨by kernel_rfl⟩
instance ig248:FnI Tryz.prog 248 Tryz.f248 55:=⟨Tryz.func248,Tryz.ntmps248⟩
instance ie249:En Tryz.prog 249:=⟨by kernel_rfl⟩
instance ig249:FnI Tryz.prog 249 Tryz.f249 52:=⟨Tryz.func249,Tryz.ntmps249⟩
instance ie254:En Tryz.prog 254:=⟨by kernel_rfl⟩
theorem en254:enters Tryz.prog 254=true:=ie254.q
instance ig254:FnI Tryz.prog 254 Tryz.f254 12:=⟨Tryz.func254,Tryz.ntmps254⟩
instance ie255:En Tryz.prog 255:=⟨by kernel_rfl⟩
theorem en255:enters Tryz.prog 255=true:=ie255.q
instance ig255:FnI Tryz.prog 255 Tryz.f255 16:=⟨Tryz.func255,Tryz.ntmps255⟩
instance ie256:En Tryz.prog 256:=⟨by kernel_rfl⟩
instance ie257:En Tryz.prog 257:=⟨by kernel_rfl⟩
instance ig257:FnI Tryz.prog 257 Tryz.f257 5:=⟨Tryz.func257,Tryz.ntmps257⟩
instance ie258:En Tryz.prog 258:=⟨by kernel_rfl⟩
instance ie260:En Tryz.prog 260:=⟨by kernel_rfl⟩
theorem en260:enters Tryz.prog 260=true:=ie260.q
instance ig260:FnI Tryz.prog 260 Tryz.f260 18:=⟨Tryz.func260,Tryz.ntmps260⟩
instance ie261:En Tryz.prog 261:=⟨by kernel_rfl⟩
theorem en261:enters Tryz.prog 261=true:=ie261.q
instance ig261:FnI Tryz.prog 261 Tryz.f261 9:=⟨Tryz.func261,Tryz.ntmps261⟩
instance ie262:En Tryz.prog 262:=⟨by kernel_rfl⟩
instance ig262:FnI Tryz.prog 262 Tryz.f262 43:=⟨Tryz.func262,Tryz.ntmps262⟩
instance ie263:En Tryz.prog 263:=⟨by kernel_rfl⟩
instance ig263:FnI Tryz.prog 263 Tryz.f263 59:=⟨Tryz.func263,Tryz.ntmps263⟩
instance ie264:En Tryz.prog 264:=⟨by kernel_rfl⟩
instance ig264:FnI Tryz.prog 264 Tryz.f264 42:=⟨Tryz.func264,Tryz.ntmps264⟩
instance ie265:En Tryz.prog 265:=⟨by kernel_rfl⟩
theorem en265:enters Tryz.prog 265=true:=ie265.q
instance ig265:FnI Tryz.prog 265 Tryz.f265 21:=⟨Tryz.func265,Tryz.ntmps265⟩
instance ie266:En Tryz.prog 266:=⟨by kernel_rfl⟩
instance ie269:En Tryz.prog 269:=⟨by kernel_rfl⟩
instance ig269:FnI Tryz.prog 269 Tryz.f269 54:=⟨Tryz.func269,Tryz.ntmps269⟩
instance ie274:En Tryz.prog 274:=⟨by kernel_rfl⟩
instance ig274:FnI Tryz.prog 274 Tryz.f274 2:=⟨Tryz.func274,Tryz.ntmps274⟩
instance ie275:En Tryz.prog 275:=⟨by kernel_rfl⟩
instance ig275:FnI Tryz.prog 275 Tryz.f275 35:=⟨Tryz.func275,Tryz.ntmps275⟩
instance ie278:En Tryz.prog 278:=⟨by kernel_rfl⟩
instance ig278:FnI Tryz.prog 278 Tryz.f278 15:=⟨Tryz.func278,Tryz.ntmps278⟩
instance ie279:En Tryz.prog 279:=⟨by kernel_rfl⟩
instance ie280:En Tryz.prog 280:=⟨by kernel_rfl⟩
instance ie281:En Tryz.prog 281:=⟨by kernel_rfl⟩
instance ig309:FnI Tryz.prog 309 Tryz.f309 10:=⟨Tryz.func309,Tryz.ntmps309⟩
instance ig310:FnI Tryz.prog 310 Tryz.f310 6:=⟨Tryz.func310,Tryz.ntmps310⟩
instance ig311:FnI Tryz.prog 311 Tryz.f311 34:=⟨Tryz.func311,Tryz.ntmps311⟩
instance ig312:FnI Tryz.prog 312 Tryz.f312 22:=⟨Tryz.func312,Tryz.ntmps312⟩
instance ie313:En Tryz.prog 313:=⟨by kernel_rfl⟩
instance ig313:FnI Tryz.prog 313 Tryz.f313 12:=⟨Tryz.func313,Tryz.ntmps313⟩
instance ig314:FnI Tryz.prog 314 Tryz.f314 10:=⟨Tryz.func314,Tryz.ntmps314⟩
instance ig315:FnI Tryz.prog 315 Tryz.f315 3:=⟨Tryz.func315,Tryz.ntmps315⟩
instance ig316:FnI Tryz.prog 316 Tryz.f316 9:=⟨Tryz.func316,Tryz.ntmps316⟩
instance ig317:FnI Tryz.prog 317 Tryz.f317 11:=⟨Tryz.func317,Tryz.ntmps317⟩
end Go.Proofs.YtobaafdejnimkaaGreatDoor
