/- Texts of this claim,joined. -/
import Derived.Test.YtffjgpoadfkjlaaGreatDoorQD
import Derived.Test.YtffjgpoadfkjlaaGreatDoorProg
import Derived.KernelRfl
set_option linter.unusedSimpArgs false
set_option linter.unusedVariables false
set_option maxRecDepth 100000
set_option maxHeartbeats 4000000
namespace Go.Ord
variable {d:Dist}
structure Ev where
 office:Int
 low:Int
 high:Int
 needs:List Int
def lowC (e:Ev):Int:=min (max e.low 0) 1000001
def highC (e:Ev):Int:=max (min e.high 1000000) (-1)
def uOf (e:Ev):U:=⟨lowC e,highC e,0,e.office.toNat,e.office.toNat⟩
structure EOK (d:Dist) (e:Ev):Prop where
 o1:0≤e.office
 o2:e.office<d.length
theorem uok_of (hd:WfD d) {e:Ev} (h:EOK d e):UOK d (uOf e):=by
 have:e.office.toNat<d.length:=by have:=h.o1; have:=h.o2; omega
 exact ⟨this,this,by rw [show at2 d (uOf e).entry (uOf e).exit=at2 d e.office.toNat e.office.toNat from rfl,hd.diag _ this]; decide,by rw [show at2 d (uOf e).entry (uOf e).exit=at2 d e.office.toNat e.office.toNat from rfl,hd.diag _ this]; exact Int.le_refl _⟩
abbrev ET:=Ev×Int
def Aft (d:Dist) (a b:ET):Prop:=at2 d a.1.office.toNat b.1.office.toNat≠ -1∧at2 d a.1.office.toNat b.1.office.toNat≤b.2-a.2
structure HoldsN (d:Dist) (l:List ET):Prop where
 each: ∀x∈l,0≤x.2∧x.2≤1000000∧x.1.low≤x.2∧x.2≤x.1.high
 two:l.Pairwise fun a b=>Aft d a b∨Aft d b a
def Poss (d:Dist) (evs:List Ev):Prop:= ∃l:List ET,l.map (·.1)=evs∧HoldsN d l
theorem pairwise_or {α:Type} {R:α→α→Prop}: ∀ {l l':List α},l.Perm l'→l.Pairwise (fun a b=>R a b∨R b a)→l'.Pairwise (fun a b=>R a b∨R b a):=fun hp h=>hp.pairwise h (fun h=>h.symm)
theorem feas_iff (hd:WfD d) {evs:List Ev} (he: ∀e∈evs,EOK d e) {us:List U} (hp:us.Perm (evs.map uOf)):Poss d evs↔(∀u∈us,u.low≤u.high)∧Feas d (none,0) us:=by
 constructor
 ·rintro ⟨l,rfl,h⟩
  have hwin: ∀x∈l,(uOf x.1).low≤x.2∧x.2≤(uOf x.1).high:=by
   intro x hx
   obtain ⟨h1,h2,h3,h4⟩:=h.each x hx
   show lowC x.1≤x.2∧x.2≤highC x.1
   unfold lowC highC
   omega
  refine ⟨fun u hu=> ?_,?_⟩
  ·have:=hp.mem_iff.1 hu
   rw [List.map_map,List.mem_map] at this
   obtain ⟨x,hx,rfl⟩:=this
   have:=hwin x hx
   show (uOf x.1).low≤(uOf x.1).high
   omega
  ·have hf:=feas_of_times hd (l:=l.map fun x=>(uOf x.1,x.2)) ?_ ?_ ?_
   ·obtain ⟨o,h1,h2⟩:=hf
    refine ⟨o,?_,h2⟩
    refine h1.trans ?_
    rw [List.map_map]
    refine List.Perm.trans ?_ hp.symm
    rw [List.map_map]
    exact List.Perm.refl _
   ·intro x hx
    rw [List.mem_map] at hx
    obtain ⟨y,hy,rfl⟩:=hx
    exact uok_of hd (he _ (List.mem_map.2 ⟨y,hy,rfl⟩))
   ·intro x hx
    rw [List.mem_map] at hx
    obtain ⟨y,hy,rfl⟩:=hx
    exact ⟨(h.each y hy).1,hwin y hy⟩
   ·rw [List.pairwise_map]
    refine h.two.imp fun {a b} hab=> ?_
    rcases hab with q|q
    ·exact .inl ⟨q.1,by show a.2+0+at2 d a.1.office.toNat b.1.office.toNat≤b.2; have:=q.2; omega⟩
    ·exact .inr ⟨q.1,by show b.2+0+at2 d b.1.office.toNat a.1.office.toNat≤a.2; have:=q.2; omega⟩
 ·rintro ⟨hw,hf⟩
  have hu: ∀u∈us,UOK d u:=fun u hu=>by
   have:=hp.mem_iff.1 hu
   rw [List.mem_map] at this
   obtain ⟨e,hx,rfl⟩:=this
   exact uok_of hd (he e hx)
  obtain ⟨l,h1,h2,h3⟩:=times_of_feas hd hu hw hf
  have key: ∀(evs:List Ev) (l:List UB),(l.map (·.1)).Perm (evs.map uOf)→l.Pairwise (fun a b=>Bef d a b∨Bef d b a)→ ∃m:List ET,m.map (·.1)=evs∧(m.map fun x=>(uOf x.1,x.2)).Perm l:=by
   intro evs
   induction evs with
   | nil =>
    intro l hl _
    have:l= []:=by
     have:=hl.length_eq
     simp at this
     exact this
    subst this
    exact ⟨[],rfl,List.Perm.refl _⟩
   | cons e evs ih =>
    intro l hl hpw
    have hm:uOf e∈l.map (·.1):=hl.mem_iff.2 (by simp)
    rw [List.mem_map] at hm
    obtain ⟨x,hx,hxe⟩:=hm
    obtain ⟨pre,post,rfl⟩:=List.append_of_mem hx
    have h4:((pre++post).map (·.1)).Perm (evs.map uOf):=by
     have q:((pre++x::post).map (·.1)).Perm (uOf e::(pre++post).map (·.1)):=by
      rw [←hxe]
      exact (List.perm_middle (a:=x) (l₁:=pre) (l₂:=post)).map (fun y:UB=>y.1)
     have q2:(uOf e::(pre++post).map (·.1)).Perm (uOf e::evs.map uOf):=q.symm.trans (by simpa using hl)
     exact List.Perm.cons_inv q2
    have hpw':(x::(pre++post)).Pairwise (fun a b=>Bef d a b∨Bef d b a):=pairwise_or List.perm_middle hpw
    obtain ⟨m,hm1,hm2⟩:=ih (pre++post) h4 (List.pairwise_cons.1 hpw').2
    refine ⟨(e,x.2)::m,by simp [hm1],?_⟩
    refine List.Perm.trans ?_ List.perm_middle.symm
    have:(uOf e,x.2)=x:=by rw [←hxe]
    rw [List.map_cons]
    show ((uOf e,x.2)::_).Perm _
    rw [this]
    exact hm2.cons x
  have hor:l.Pairwise (fun a b=>Bef d a b∨Bef d b a):=h3.imp fun h=> .inl h
  obtain ⟨m,hm1,hm2⟩:=key evs l (h1.trans hp) hor
  refine ⟨m,hm1,fun x hx=> ?_,?_⟩
  ·have hxl:(uOf x.1,x.2)∈l:=hm2.mem_iff.1 (List.mem_map.2 ⟨x,hx,rfl⟩)
   obtain ⟨a1,a2,a3⟩:=h2 _ hxl
   have a2:lowC x.1≤x.2:=a2
   have a3:x.2≤highC x.1:=a3
   unfold lowC at a2
   unfold highC at a3
   have a1:0≤x.2:=a1
   refine ⟨a1,by omega,by omega,by omega⟩
  ·have hpm:=pairwise_or hm2.symm hor
   rw [List.pairwise_map] at hpm
   refine hpm.imp fun {a b} hab=> ?_
   rcases hab with q|q
   ·refine .inl ⟨q.1,?_⟩
    have:a.2+0+at2 d a.1.office.toNat b.1.office.toNat≤b.2:=q.2
    omega
   ·refine .inr ⟨q.1,?_⟩
    have:b.2+0+at2 d b.1.office.toNat a.1.office.toNat≤a.2:=q.2
    omega
theorem Poss.perm {evs evs':List Ev} (h:Poss d evs) (hp:evs.Perm evs'):Poss d evs':=by
 obtain ⟨l,rfl,h1⟩:=h
 have key: ∀(l:List ET) (evs':List Ev),(l.map (·.1)).Perm evs'→ ∃l':List ET,l'.Perm l∧l'.map (·.1)=evs':=by
  intro l evs'
  induction evs' generalizing l with
  | nil =>
   intro hl
   have:l= []:=by have:=hl.length_eq; simp at this; exact this
   subst this
   exact ⟨[],List.Perm.refl _,rfl⟩
  | cons e evs' ih =>
   intro hl
   have hm:e∈l.map (·.1):=hl.mem_iff.2 (by simp)
   rw [List.mem_map] at hm
   obtain ⟨x,hx,rfl⟩:=hm
   obtain ⟨pre,post,rfl⟩:=List.append_of_mem hx
   have h4:((pre++post).map (·.1)).Perm evs':=by
    have q:=(List.perm_middle (a:=x) (l₁:=pre) (l₂:=post)).map (fun y:ET=>y.1)
    exact List.Perm.cons_inv (a:=x.1) (by simpa using q.symm.trans hl)
   obtain ⟨l',h5,h6⟩:=ih (pre++post) h4
   exact ⟨x::l',(h5.cons x).trans List.perm_middle.symm,by simp [h6]⟩
 obtain ⟨l',h2,h3⟩:=key l evs' hp
 exact ⟨l',h3,fun x hx=>h1.each x (h2.mem_iff.1 hx),pairwise_or h2.symm h1.two⟩
theorem Poss.sub {evs evs':List Ev} (h:Poss d evs) (hs:evs'.Sublist evs):Poss d evs':=by
 obtain ⟨l,rfl,h1⟩:=h
 obtain ⟨l',h2,rfl⟩:=List.sublist_map_iff.1 hs
 exact ⟨l',rfl,fun x hx=>h1.each x (h2.subset hx),h1.two.sublist h2⟩
end Go.Ord
namespace Go.PF
noncomputable def dec (p:Prop):Bool:= @decide p (Classical.propDecidable p)
theorem dec_iff {p:Prop}:dec p=true↔p:= @decide_eq_true_iff p (Classical.propDecidable p)
theorem dec_pos {p:Prop} (h:p):dec p=true:=dec_iff.2 h
theorem dec_neg {p:Prop} (h: ¬p):dec p=false:=by
 cases hd:dec p with
 | false=>rfl
 | true=>exact absurd (dec_iff.1 hd) h
theorem dec_congr {p q:Prop} (h:p↔q):dec p=dec q:=by rw [show p=q from propext h]
theorem dec_eq_decide {p:Prop} [Decidable p]:dec p=decide p:=by
 by_cases h:p
 ·rw [dec_pos h]; simp [h]
 ·rw [dec_neg h]; simp [h]
theorem nb {p:Prop} [Decidable p] (h:(!decide p)=true): ¬p:=by simpa using h
theorem ndec {p:Prop} (h:(!dec p)=true): ¬p:=fun hp=>by rw [dec_pos hp] at h; cases h
theorem ndec' {p:Prop} (h:(!dec p)=false):p:=dec_iff.1 (by simpa using h)
end Go.PF
namespace Go.Ord
open Go.PF
structure RowOK (d:Dist) (i:Nat) (r:List Int):Prop where
 len:r.length=d.length
 diag:r[i]?=some 0
 rng: ∀(j:Nat) (x:Int),r[j]?=some x→ -1≤x∧x≤1000000
def Tri (d:Dist) (i k j:Nat):Prop:=at2 d i k≠ -1→at2 d k j≠ -1→at2 d i j≠ -1∧at2 d i j≤at2 d i k+at2 d k j
theorem at2_eq {d:Dist} {i j:Nat} {r:List Int} {x:Int} (hr:d[i]?=some r) (hx:r[j]?=some x):at2 d i j=x:=by
 unfold at2
 simp [List.getD_eq_getElem?_getD,hr,hx]
theorem wfd_of {d:Dist} (h1:d.length≤12) (h2: ∀(i:Nat) (r:List Int),d[i]?=some r→RowOK d i r) (h3: ∀i k j,i<d.length→k<d.length→j<d.length→Tri d i k j):WfD d:=by
 refine ⟨h1,fun i r hr=>(h2 i r hr).len,fun i hi=> ?_,fun i j hi hj=> ?_,h3⟩
 ·have hr:d[i]?=some d[i]:=List.getElem?_eq_getElem hi
  exact at2_eq hr (h2 i _ hr).diag
 ·have hr:d[i]?=some d[i]:=List.getElem?_eq_getElem hi
  have hl:=(h2 i _ hr).len
  have hx:d[i][j]?=some (d[i][j]'(by omega)):=List.getElem?_eq_getElem (by omega)
  rw [at2_eq hr hx]
  exact (h2 i _ hr).rng j _ hx
theorem WfD.rowOK {d:Dist} (h:WfD d) {i:Nat} {r:List Int} (hr:d[i]?=some r):RowOK d i r:=by
 have hi:=(List.getElem?_eq_some_iff.1 hr).1
 have hl:=h.row i r hr
 refine ⟨hl,?_,fun j x hx=> ?_⟩
 ·have hx:r[i]?=some (r[i]'(by omega)):=List.getElem?_eq_getElem (by omega)
  have:=h.diag i hi
  rw [at2_eq hr hx] at this
  rw [hx,this]
 ·have hj:=(List.getElem?_eq_some_iff.1 hx).1
  have:=h.rng i j hi (by omega)
  rw [at2_eq hr hx] at this
  exact this
end Go.Ord
namespace Go.PF
open Go.RowKit
class En (P:Program) (k:FuncId):Prop where
 q:enters P k=true
class FnI (P:Program) (k:FuncId) (fn:outParam Func) (N:outParam Nat):Prop where
 q:P.funcs[k]?=some fn
 n:fn.ntmps=N
class Sr (P:Program) (t:TypeId) (n:outParam Nat):Prop where
 u: ∃fs,P.underlying t=some (.struct fs)
 s:(P.info? t).map (·.size)=some n
section
variable {P:Program} {r:Option Nat} {Q:Exit→Act→World→Prop} {N:Nat} {ds:List Deferred} {ops rest:List Oper} {E:Env} {D:DE} {w:World} {G:Option Bool} {Fin:DE→Prop} {md:Mode}
variable {d:Option Tmp} {ty:TypeId} {pos:String} {af:Array Edge} {gu:Option (Nat×Bool)}
variable {x y z:Operand} {cx cy cz:Option Bool} {ρ:Operand→Value}
theorem rnT {p q:Prop} (next:q) (imp:q→p:=by
  intro hq
  repeat (first
   | ((first|apply TW.v V.move|apply TW.v V.assign|apply TW.v V.lss|apply TW.v V.leq|apply TW.v V.gtr|apply TW.v V.geq|apply TW.v V.eql|apply TW.v V.neq|apply TW.v V.add|apply TW.v V.sub|apply TW.v V.mul|apply TW.v V.not|apply TW.v V.lenSlice|apply TW.v V.fieldAddr|apply TW.v V.indexAddr|apply TW.v V.extract|apply TW.v (V.conv rfl)|apply TW.v V.rem|apply TW.v V.index); exact rfl; (first|exact ⟨ct,trivial⟩|exact ⟨ct,ct,trivial⟩|exact ⟨id,trivial⟩|(clear hq; repeat (first|exact trivial|(apply And.intro; (first|exact ct|exact id|exact candL|(simp_all [Cnd]; done)))))); (first|exact fun _=>trivial|exact fun _=>rfl|(clear hq; intro h; (try dsimp only); (first|omega|(simp [Cnd] at h; omega)))))
   | (apply TW.pickOr; exact rfl; exact rfl; exact rfl; (first|exact ct|exact id|exact candL|(clear hq; simp_all [Cnd]; done)); exact rfl; (first|exact pT|exact pOr0|exact pOr1|exact pAnd0|exact pAnd1))
   | (apply TW.pickAnd; exact rfl; exact rfl; exact rfl; (first|exact ct|exact id|exact candL|(clear hq; simp_all [Cnd]; done)); exact rfl; (first|exact pT|exact pOr0|exact pOr1|exact pAnd0|exact pAnd1))
   | ((first|apply TW.v V.eqlS|apply TW.v V.lenString); exact rfl; (first|exact ⟨ct,trivial⟩|exact ⟨ct,ct,trivial⟩|exact ⟨id,trivial⟩|(clear hq; repeat (first|exact trivial|(apply And.intro; (first|exact ct|exact id|exact candL|(simp_all [Cnd]; done)))))); (first|exact fun _=>trivial|exact fun _=>rfl|(clear hq; intro h; (try dsimp only); (first|omega|(simp [Cnd] at h; omega)))))
   | (apply TW.eqlNil; exact rfl; exact rfl; exact Und.q; exact rfl; (first|exact ct|exact id|exact candL|(clear hq; simp_all [Cnd]; done)))
   | refine TW.nil ?_
   | refine CW.seq ?_
   | refine CW.region ?_
   | refine KW.then_ ?_
   | refine CW.skip ?_
   | refine CW.block ?_
   | refine CW.ret ?_
   | refine KW.thenR ?_
   | refine KW.blockN ?_
   | refine CW.exit ?_
   | refine KW.blockX ?_
   | refine KW.thenX ?_
   | (refine KW.blockY ?_ ?_; exact rfl)
   | refine KW.blockR ?_
   | refine CW.scope ?_
   | refine KW.scopeN ?_
   | refine KW.scopeX ?_
   | refine KW.scopeR ?_
   | refine CW.label ?_
   )
  exact hq):p:=imp next
theorem rnD {p q:Prop} (next:q) (imp:q→p:=by
  intro hq
  repeat (first
   | ((first|apply DW.v V.move|apply DW.v V.assign|apply DW.v V.lss|apply DW.v V.leq|apply DW.v V.gtr|apply DW.v V.geq|apply DW.v V.eql|apply DW.v V.neq|apply DW.v V.add|apply DW.v V.sub|apply DW.v V.mul|apply DW.v V.not|apply DW.v V.lenSlice|apply DW.v V.fieldAddr|apply DW.v V.indexAddr|apply DW.v V.extract|apply DW.v (V.conv rfl)|apply DW.v V.rem|apply DW.v V.index); exact rfl; (first|exact ⟨ct,trivial⟩|exact ⟨ct,ct,trivial⟩|exact ⟨id,trivial⟩|(clear hq; repeat (first|exact trivial|(apply And.intro; (first|exact ct|exact id|exact candL|(simp_all [Cnd]; done)))))); (first|exact fun _=>trivial|exact fun _=>rfl|(clear hq; intro h; (try dsimp only); (first|omega|(simp [Cnd] at h; omega)))))
   | (apply DW.pickOr; exact rfl; exact rfl; exact rfl; (first|exact ct|exact id|exact candL|(clear hq; simp_all [Cnd]; done)); exact rfl; (first|exact pT|exact pOr0|exact pOr1|exact pAnd0|exact pAnd1))
   | (apply DW.pickAnd; exact rfl; exact rfl; exact rfl; (first|exact ct|exact id|exact candL|(clear hq; simp_all [Cnd]; done)); exact rfl; (first|exact pT|exact pOr0|exact pOr1|exact pAnd0|exact pAnd1))
   | ((first|apply DW.v V.eqlS|apply DW.v V.lenString); exact rfl; (first|exact ⟨ct,trivial⟩|exact ⟨ct,ct,trivial⟩|exact ⟨id,trivial⟩|(clear hq; repeat (first|exact trivial|(apply And.intro; (first|exact ct|exact id|exact candL|(simp_all [Cnd]; done)))))); (first|exact fun _=>trivial|exact fun _=>rfl|(clear hq; intro h; (try dsimp only); (first|omega|(simp [Cnd] at h; omega)))))
   )
  exact hq):p:=imp next
theorem look_add: ∀ {E E':Env} {i:Nat} {c:Option Bool} {v:Value},look (E++E') i=some (c,v)→look E i=some (c,v)∨look E' i=some (c,v)
 | [],_,_,_,_,h=> .inr h
 | (j,c',v')::E,E',i,c,v,h=>by
  simp only [List.cons_append,look] at h ⊢
  cases hb:Nat.beq j i with
  | true=>rw [hb] at h; exact .inl h
  | false=>rw [hb] at h; exact look_add h
theorem Fit.app {E E':Env} {a:Act} (h:Fit N ds E a) (h':Fit N ds E' a):Fit N ds (E++E') a:=⟨h.size,h.defers,fun i c v hl=>(look_add hl).elim (h.slots i c v) (h'.slots i c v)⟩
theorem TW.pk (is:List Nat) {E':Env} (hp:PF.pick E is=some E') (h:TW P r Q N ds ops rest E' w):TW P r Q N ds ops rest E w:=fun a ha=>h a (ha.pick hp)
theorem CW.pk {c:Code} (is:List Nat) {E':Env} (hp:PF.pick E is=some E') (h:CW P r Q N ds c E' w):CW P r Q N ds c E w:=CW.pick is E' hp h
theorem TW.ld {t:TypeId} {ad:Addr} {v:Value} [One P t] (h:(gd ops E gu,okDst N d,ev E x)=(some G,true,some (cx,.pointer (some ad)))) (hc:w.cell? ad=some v)
  (next:TW P r Q N ds ops rest (ins E d G v) w) (ix:Cnd G→Cnd cx:=by first|exact ct|exact id|exact candL|(simp_all [Cnd]; done)):TW P r Q N ds ops (⟨d,.load t x,ty,pos,af,gu⟩::rest) E w:=by
 simp only [Prod.mk.injEq] at h
 exact TW.load h.1 h.2.1 One.q h.2.2 ix (fun _=>hc) next
theorem DW.ld {t:TypeId} {ad:Addr} {v:Value} [One P t] (h:(dgd ops D gu,okDst N d,dev D x)=(some G,true,some (cx,.ex (.pointer (some ad))))) (hc:w.cell? ad=some v)
  (next:DW P N ds md ops w Fin rest (dins D d G (.ex v))) (ix:Cnd G→Cnd cx:=by first|exact ct|exact id|exact candL|(simp_all [Cnd]; done)):DW P N ds md ops w Fin (⟨d,.load t x,ty,pos,af,gu⟩::rest) D:=by
 simp only [Prod.mk.injEq] at h
 exact DW.load h.1 h.2.1 One.q h.2.2 ix (fun _=>hc) next
def evs (E:Env):List Operand→Option (List Value)
 | []=>some []
 | x::xs=>match ev E x with
  | some (none,v)=>match evs E xs with
   | some vs=>some (v::vs)
   | none=>none
  | _=>none
theorem evs_args: ∀ {xs:List Operand} {vs:List Value},evs E xs=some vs→Args N ds E G xs vs
 | [],vs,h=>by simp [evs] at h; subst h; exact Args.nil
 | x::xs,vs,h=>by
  simp only [evs] at h
  split at h
  ·rename_i v hv
   split at h
   ·rename_i us hu
    simp only [Option.some.injEq] at h
    subst h
    exact Args.cons hv ct (evs_args hu)
   ·cases h
  ·cases h
theorem TW.cl {k:FuncId} {xs:List Operand} {vs:List Value} {ts:Array TypeId} {R:Value→World→Prop} [En P k] (h:(okDst N d,evs E xs)=(true,some vs)) (hc:Gives P k vs.toArray w R)
  (next: ∀v w',R v w'→TW P r Q N ds ops rest (ins E d none v) w'):TW P r Q N ds ops (⟨d,.call ⟨.value (.func k),xs.toArray,ts⟩,ty,pos,af,none⟩::rest) E w:=by
 simp only [Prod.mk.injEq] at h
 exact TW.call0 (cap:= []) rfl h.1 En.q rfl (evs_args h.2) (by simpa using hc) next
def devs (D:DE):List Operand→Option (List Value)
 | []=>some []
 | x::xs=>match dev D x with
  | some (none,.ex v)=>match devs D xs with
   | some vs=>some (v::vs)
   | none=>none
  | _=>none
theorem devs_args {L:List Nat}: ∀ {xs:List Operand} {vs:List Value},devs D xs=some vs→DArgs L N ds D G xs vs
 | [],vs,h=>by simp [devs] at h; subst h; exact DArgs.nil
 | x::xs,vs,h=>by
  simp only [devs] at h
  split at h
  ·rename_i v hv
   split at h
   ·rename_i us hu
    simp only [Option.some.injEq] at h
    subst h
    exact DArgs.cons hv ct (devs_args hu)
   ·cases h
  ·cases h
theorem DW.cl {k:FuncId} {xs:List Operand} {vs:List Value} {ts:Array TypeId} [En P k] (e:Ent) (hm:e.mono) (h:(dgd ops D gu,okDst N d,devs D xs)=(some G,true,some vs))
  (hc:Cnd G→ ∀w',Below w.heap.size w w'→Gives P k vs.toArray w' fun v w''=>Below w'.heap.size w' w''∧e.sat v w'')
  (next:DW P N ds .weak ops w Fin rest (dins D d G e)):DW P N ds .weak ops w Fin (⟨d,.call ⟨.value (.func k),xs.toArray,ts⟩,ty,pos,af,gu⟩::rest) D:=by
 simp only [Prod.mk.injEq] at h
 exact DW.call (cap:= []) e hm h.1 h.2.1 En.q rfl ct (devs_args h.2.2) (fun g w' hb=>by simpa using hc g w' hb) next
theorem TW.ldS {t:TypeId} {ad:Addr} {cs:List Value} {n:Nat} [Sr P t n] (h:(gd ops E gu,okDst N d,ev E x)=(some G,true,some (cx,.pointer (some ad)))) (hc: ∀j v,cs[j]?=some v→w.cell? (ad.add j)=some v)
  (next:TW P r Q N ds ops rest (ins E d G (.agg cs.toArray)) w) (hl:cs.length=n:=by rfl) (ix:Cnd G→Cnd cx:=by first|exact ct|exact id|exact candL|(simp_all [Cnd]; done)):TW P r Q N ds ops (⟨d,.load t x,ty,pos,af,gu⟩::rest) E w:=by
 simp only [Prod.mk.injEq] at h
 obtain ⟨fs,hu⟩:=Sr.u (P:=P) (t:=t)
 exact TW.loadS cs h.1 h.2.1 hu Sr.s h.2.2 ix (fun _=>hc) hl next
theorem DW.ldS {t:TypeId} {ad:Addr} {cs:List Value} {n:Nat} [Sr P t n] (h:(dgd ops D gu,okDst N d,dev D x)=(some G,true,some (cx,.ex (.pointer (some ad))))) (hc: ∀j v,cs[j]?=some v→w.cell? (ad.add j)=some v)
  (next:DW P N ds md ops w Fin rest (dins D d G (.ex (.agg cs.toArray)))) (hl:cs.length=n:=by rfl) (ix:Cnd G→Cnd cx:=by first|exact ct|exact id|exact candL|(simp_all [Cnd]; done)):DW P N ds md ops w Fin (⟨d,.load t x,ty,pos,af,gu⟩::rest) D:=by
 simp only [Prod.mk.injEq] at h
 obtain ⟨fs,hu⟩:=Sr.u (P:=P) (t:=t)
 exact DW.loadS cs h.1 h.2.1 hu Sr.s h.2.2 ix (fun _=>hc) hl next
theorem DW.fi {K:Act→World→Prop} (is:List Nat) {E':Env} (hp:dpick D is=some E') (h: ∀w',Below w.heap.size w w'→KW N ds K E' w'):DW P N ds md ops w (fun D=> ∀a w',Below w.heap.size w w'→FitD N ds D a w'→K a w') [] D:=DW.nil (DW.fin is E' hp h)
theorem gv {f:FuncId} {fn:Func} {c:Code} {vs:List Value} {R:Value→World→Prop} [FnI P f fn N]
  (h:CW P none (bodyPost P fn fun e w'=> ∃v,e= .returned v∧R v w') N [] c (argEnv vs 0) w) (hb:fn.body=some c:=by rfl) (hle:Nat.ble vs.length N=true:=by rfl):Gives P f vs.toArray w R:=gives_of _ FnI.q hb (FnI.n P f) hle rfl h
theorem gvM {f:FuncId} {fn:Func} {c:Code} {vs:List Value} {R:Value→World→Prop} [FnI P f fn N]
  (h:CW P none (bodyPostM (FR none) 0 P fn fun e w'=> ∃v,e= .returned v∧R v w') N [] c (argEnv vs 0) w) (hb:fn.body=some c:=by rfl) (hle:Nat.ble vs.length N=true:=by rfl):Gives P f vs.toArray w R:=gives_ofM _ FnI.q hb (FnI.n P f) hle rfl h
theorem CW.lp {α:Type} {c:Code} {K:Env} (ks:List Nat) (F:α→Env) (J:α→World→Prop) (m:α→Nat) (x0:α) (h0:J x0 w)
  (round: ∀x w,J x w→CW P r (Exit.then (fun a' w'=> ∃x',Fit N ds (F x'++K) a'∧J x' w'∧m x'<m x) Q) N ds c (F x++K) w)
  (hK:PF.pick E ks=some K:=by rfl) (hE:PF.pick E ((F x0).map (·.1))=some (F x0):=by rfl):CW P r Q N ds (.loop c) E w :=
 CW.loop (fun x=>F x++K) J m x0 h0 (fun _ ha=>(ha.pick hE).app (ha.pick hK)) round
theorem KW.rd {α:Type} {F:α→Env} {K:Env} {J:α→World→Prop} {m:α→Nat} {x:α} (x':α) (hJ:J x' w) (hm:m x'<m x:=by (try dsimp only); omega)
  (hp:PF.pick E ((F x'++K).map (·.1))=some (F x'++K):=by rfl):KW N ds (Exit.then (fun a' w'=> ∃x',Fit N ds (F x'++K) a'∧J x' w'∧m x'<m x) Q .normal) E w :=
 fun _ ha=>⟨x',ha.pick hp,hJ,hm⟩
variable {fn:Func} {R:Value→World→Prop} {s t:Nat} {v u:Value}
theorem rt1 (h:(fn.results,look E s)=(#[.tmp s],some (none,v))) (hR:R v w):KW N [] (bodyPost P fn (fun e w'=> ∃v,e= .returned v∧R v w') .ret) E w:=by
 simp only [Prod.mk.injEq] at h
 exact ret1 h.1 h.2 hR
theorem rt2 (h:(fn.results,look E s,look E t)=(#[.tmp s,.tmp t],some (none,v),some (none,u))) (hR:R (.tuple #[v,u]) w):KW N [] (bodyPost P fn (fun e w'=> ∃v,e= .returned v∧R v w') .ret) E w:=by
 simp only [Prod.mk.injEq] at h
 exact ret2 h.1 h.2.1 h.2.2 hR
end
end Go.PF
namespace Go.Proofs.YtffjgpoadfkjlaaGreatDoor
open Go.PF
theorem mixed:Tryz.prog.follows .mixedOrders=true:=by kernel_rfl
instance io3:One Tryz.prog 3:=⟨by kernel_rfl⟩
theorem one3:one Tryz.prog 3=true:=io3.q
instance is3:Sz Tryz.prog 3 1:=⟨by kernel_rfl⟩
theorem sz3:(Tryz.prog.info? 3).map (·.size)=some 1:=is3.q
instance iu3:Und Tryz.prog 3 (.int .i64):=⟨Tryz.underlying3⟩
theorem zc3:zeroCells Tryz.prog 3=some [.int .i64 0]:=by kernel_rfl
theorem ze3:(Tryz.prog.info? 3).bind (·.zero)=some (.int .i64 0):=by kernel_rfl
instance io4:One Tryz.prog 4:=⟨by kernel_rfl⟩
instance is4:Sz Tryz.prog 4 1:=⟨by kernel_rfl⟩
theorem sz4:(Tryz.prog.info? 4).map (·.size)=some 1:=is4.q
theorem ze4:(Tryz.prog.info? 4).bind (·.zero)=some (.bool false):=by kernel_rfl
instance io5:One Tryz.prog 5:=⟨by kernel_rfl⟩
instance is5:Sz Tryz.prog 5 1:=⟨by kernel_rfl⟩
instance iu5:Und Tryz.prog 5 (.int .u8):=⟨Tryz.underlying5⟩
instance io9:One Tryz.prog 9:=⟨by kernel_rfl⟩
theorem one9:one Tryz.prog 9=true:=io9.q
instance is9:Sz Tryz.prog 9 1:=⟨by kernel_rfl⟩
theorem sz9:(Tryz.prog.info? 9).map (·.size)=some 1:=is9.q
instance iu9:Und Tryz.prog 9 (.string):=⟨Tryz.underlying9⟩
instance io22:One Tryz.prog 22:=⟨by kernel_rfl⟩
instance iu22:Und Tryz.prog 22 (.slice 94):=⟨Tryz.underlying22⟩
theorem eo22:elemOK Tryz.prog 22 94 3=true:=by kernel_rfl
instance io23:One Tryz.prog 23:=⟨by kernel_rfl⟩
instance iu23:Und Tryz.prog 23 (.slice 9):=⟨Tryz.underlying23⟩
theorem eo23:elemOK Tryz.prog 23 9 1=true:=by kernel_rfl
theorem go23:growOK Tryz.prog 23 9 1 16=true:=by kernel_rfl
instance io24:One Tryz.prog 24:=⟨by kernel_rfl⟩
instance iu24:Und Tryz.prog 24 (.slice 98):=⟨Tryz.underlying24⟩
theorem eo24:elemOK Tryz.prog 24 98 1=true:=by kernel_rfl
instance io25:One Tryz.prog 25:=⟨by kernel_rfl⟩
instance iu25:Und Tryz.prog 25 (.slice 96):=⟨Tryz.underlying25⟩
theorem eo25:elemOK Tryz.prog 25 96 7=true:=by kernel_rfl
instance io26:One Tryz.prog 26:=⟨by kernel_rfl⟩
instance iu26:Und Tryz.prog 26 (.slice 36):=⟨Tryz.underlying26⟩
theorem eo26:elemOK Tryz.prog 26 36 6=true:=by kernel_rfl
instance io27:One Tryz.prog 27:=⟨by kernel_rfl⟩
instance iu27:Und Tryz.prog 27 (.slice 150):=⟨Tryz.underlying27⟩
instance is29:Sz Tryz.prog 29 6:=⟨by kernel_rfl⟩
theorem sz29:(Tryz.prog.info? 29).map (·.size)=some 6:=is29.q
theorem zc29:zeroCells Tryz.prog 29=some [.slice none 0 0,.slice none 0 0,.slice none 0 0,.slice none 0 0,.slice none 0 0,.slice none 0 0]:=by kernel_rfl
instance ir29:Sr Tryz.prog 29 6:=⟨⟨_,Tryz.underlying29⟩,is29.q⟩
instance if29_0:FO Tryz.prog 29 0 0:=⟨by kernel_rfl⟩
instance if29_1:FO Tryz.prog 29 1 1:=⟨by kernel_rfl⟩
instance if29_2:FO Tryz.prog 29 2 2:=⟨by kernel_rfl⟩
instance if29_3:FO Tryz.prog 29 3 3:=⟨by kernel_rfl⟩
instance if29_4:FO Tryz.prog 29 4 4:=⟨by kernel_rfl⟩
instance if29_5:FO Tryz.prog 29 5 5:=⟨by kernel_rfl⟩
instance io30:One Tryz.prog 30:=⟨by kernel_rfl⟩
instance is30:Sz Tryz.prog 30 1:=⟨by kernel_rfl⟩
theorem sz30:(Tryz.prog.info? 30).map (·.size)=some 1:=is30.q
instance iu30:Und Tryz.prog 30 (.slice 37):=⟨Tryz.underlying30⟩
theorem zc30:zeroCells Tryz.prog 30=some [.slice none 0 0]:=by kernel_rfl
theorem eo30:elemOK Tryz.prog 30 37 1=true:=by kernel_rfl
theorem go30:growOK Tryz.prog 30 37 1 24=true:=by kernel_rfl
instance io31:One Tryz.prog 31:=⟨by kernel_rfl⟩
instance is31:Sz Tryz.prog 31 1:=⟨by kernel_rfl⟩
theorem sz31:(Tryz.prog.info? 31).map (·.size)=some 1:=is31.q
instance iu31:Und Tryz.prog 31 (.slice 39):=⟨Tryz.underlying31⟩
theorem zc31:zeroCells Tryz.prog 31=some [.slice none 0 0]:=by kernel_rfl
theorem eo31:elemOK Tryz.prog 31 39 4=true:=by kernel_rfl
theorem go31:growOK Tryz.prog 31 39 4 48=true:=by kernel_rfl
instance iu32:Und Tryz.prog 32 (.int .u16):=⟨Tryz.underlying32⟩
instance is36:Sz Tryz.prog 36 6:=⟨by kernel_rfl⟩
theorem sz36:(Tryz.prog.info? 36).map (·.size)=some 6:=is36.q
theorem zc36:zeroCells Tryz.prog 36=some [.string ByteArray.empty,.int .i64 0,.int .i64 0,.int .i64 0,.int .i64 0,.int .i64 0]:=by kernel_rfl
instance ir36:Sr Tryz.prog 36 6:=⟨⟨_,Tryz.underlying36⟩,is36.q⟩
instance if36_0:FO Tryz.prog 36 0 0:=⟨by kernel_rfl⟩
instance if36_1:FO Tryz.prog 36 1 1:=⟨by kernel_rfl⟩
instance if36_2:FO Tryz.prog 36 2 2:=⟨by kernel_rfl⟩
instance if36_3:FO Tryz.prog 36 3 3:=⟨by kernel_rfl⟩
instance if36_4:FO Tryz.prog 36 4 4:=⟨by kernel_rfl⟩
instance if36_5:FO Tryz.prog 36 5 5:=⟨by kernel_rfl⟩
instance io37:One Tryz.prog 37:=⟨by kernel_rfl⟩
instance is37:Sz Tryz.prog 37 1:=⟨by kernel_rfl⟩
theorem sz37:(Tryz.prog.info? 37).map (·.size)=some 1:=is37.q
instance iu37:Und Tryz.prog 37 (.slice 3):=⟨Tryz.underlying37⟩
theorem eo37:elemOK Tryz.prog 37 3 1=true:=by kernel_rfl
theorem go37:growOK Tryz.prog 37 3 1 8=true:=by kernel_rfl
theorem ze37:(Tryz.prog.info? 37).bind (·.zero)=some (.slice none 0 0):=by kernel_rfl
instance is39:Sz Tryz.prog 39 4:=⟨by kernel_rfl⟩
theorem sz39:(Tryz.prog.info? 39).map (·.size)=some 4:=is39.q
theorem zc39:zeroCells Tryz.prog 39=some [.int .i64 0,.int .i64 0,.int .i64 0,.slice none 0 0]:=by kernel_rfl
instance ir39:Sr Tryz.prog 39 4:=⟨⟨_,Tryz.underlying39⟩,is39.q⟩
instance if39_0:FO Tryz.prog 39 0 0:=⟨by kernel_rfl⟩
instance if39_1:FO Tryz.prog 39 1 1:=⟨by kernel_rfl⟩
instance if39_2:FO Tryz.prog 39 2 2:=⟨by kernel_rfl⟩
instance if39_3:FO Tryz.prog 39 3 3:=⟨by kernel_rfl⟩
instance is43:Sz Tryz.prog 43 3:=⟨by kernel_rfl⟩
theorem sz43:(Tryz.prog.info? 43).map (·.size)=some 3:=is43.q
theorem zc43:zeroCells Tryz.prog 43=some [.int .i64 0,.int .i64 0,.int .i64 0]:=by kernel_rfl
instance ir43:Sr Tryz.prog 43 3:=⟨⟨_,Tryz.underlying43⟩,is43.q⟩
instance if43_0:FO Tryz.prog 43 0 0:=⟨by kernel_rfl⟩
theorem fo43_0:fieldOff Tryz.prog 43 0=some 0:=if43_0.q
instance if43_1:FO Tryz.prog 43 1 1:=⟨by kernel_rfl⟩
theorem fo43_1:fieldOff Tryz.prog 43 1=some 1:=if43_1.q
instance if43_2:FO Tryz.prog 43 2 2:=⟨by kernel_rfl⟩
theorem fo43_2:fieldOff Tryz.prog 43 2=some 2:=if43_2.q
instance iu44:Und Tryz.prog 44 (.slice 43):=⟨Tryz.underlying44⟩
theorem eo44:elemOK Tryz.prog 44 43 3=true:=by kernel_rfl
instance io46:One Tryz.prog 46:=⟨by kernel_rfl⟩
instance is46:Sz Tryz.prog 46 1:=⟨by kernel_rfl⟩
theorem sz46:(Tryz.prog.info? 46).map (·.size)=some 1:=is46.q
instance iu46:Und Tryz.prog 46 (.slice 49):=⟨Tryz.underlying46⟩
theorem zc46:zeroCells Tryz.prog 46=some [.slice none 0 0]:=by kernel_rfl
theorem eo46:elemOK Tryz.prog 46 49 2=true:=by kernel_rfl
theorem go46:growOK Tryz.prog 46 49 2 16=true:=by kernel_rfl
instance is49:Sz Tryz.prog 49 2:=⟨by kernel_rfl⟩
theorem sz49:(Tryz.prog.info? 49).map (·.size)=some 2:=is49.q
theorem zc49:zeroCells Tryz.prog 49=some [.int .i64 0,.int .i64 0]:=by kernel_rfl
instance ir49:Sr Tryz.prog 49 2:=⟨⟨_,Tryz.underlying49⟩,is49.q⟩
instance iu59:Und Tryz.prog 59 (.int .i64):=⟨Tryz.underlying59⟩
instance io65:One Tryz.prog 65:=⟨by kernel_rfl⟩
instance iu65:Und Tryz.prog 65 (.slice 78):=⟨Tryz.underlying65⟩
theorem eo65:elemOK Tryz.prog 65 78 1=true:=by kernel_rfl
theorem go65:growOK Tryz.prog 65 78 1 16=true:=by kernel_rfl
instance io69:One Tryz.prog 69:=⟨by kernel_rfl⟩
instance is69:Sz Tryz.prog 69 1:=⟨by kernel_rfl⟩
theorem sz69:(Tryz.prog.info? 69).map (·.size)=some 1:=is69.q
instance iu69:Und Tryz.prog 69 (.slice 73):=⟨Tryz.underlying69⟩
theorem go69:growOK Tryz.prog 69 73 1 4=true:=by kernel_rfl
instance if71_0:FO Tryz.prog 71 0 0:=⟨by kernel_rfl⟩
instance if71_1:FO Tryz.prog 71 1 1:=⟨by kernel_rfl⟩
instance if71_2:FO Tryz.prog 71 2 2:=⟨by kernel_rfl⟩
instance io73:One Tryz.prog 73:=⟨by kernel_rfl⟩
instance is73:Sz Tryz.prog 73 1:=⟨by kernel_rfl⟩
theorem sz73:(Tryz.prog.info? 73).map (·.size)=some 1:=is73.q
instance iu73:Und Tryz.prog 73 (.int .u32):=⟨Tryz.underlying73⟩
theorem ze73:(Tryz.prog.info? 73).bind (·.zero)=some (.int .u32 0):=by kernel_rfl
instance is75:Sz Tryz.prog 75 2:=⟨by kernel_rfl⟩
theorem sz75:(Tryz.prog.info? 75).map (·.size)=some 2:=is75.q
theorem zc75:zeroCells Tryz.prog 75=some [.int .u32 0,.int .i64 0]:=by kernel_rfl
instance ir75:Sr Tryz.prog 75 2:=⟨⟨_,Tryz.underlying75⟩,is75.q⟩
instance if75_0:FO Tryz.prog 75 0 0:=⟨by kernel_rfl⟩
instance if75_1:FO Tryz.prog 75 1 1:=⟨by kernel_rfl⟩
instance io78:One Tryz.prog 78:=⟨by kernel_rfl⟩
instance is78:Sz Tryz.prog 78 1:=⟨by kernel_rfl⟩
theorem sz78:(Tryz.prog.info? 78).map (·.size)=some 1:=is78.q
instance iu82:Und Tryz.prog 82 (.slice 130):=⟨Tryz.underlying82⟩
theorem eo82:elemOK Tryz.prog 82 130 3=true:=by kernel_rfl
theorem go82:growOK Tryz.prog 82 130 3 24=true:=by kernel_rfl
instance io84:One Tryz.prog 84:=⟨by kernel_rfl⟩
instance is84:Sz Tryz.prog 84 1:=⟨by kernel_rfl⟩
theorem sz84:(Tryz.prog.info? 84).map (·.size)=some 1:=is84.q
instance iu84:Und Tryz.prog 84 (.slice 31):=⟨Tryz.underlying84⟩
theorem zc84:zeroCells Tryz.prog 84=some [.slice none 0 0]:=by kernel_rfl
theorem eo84:elemOK Tryz.prog 84 31 1=true:=by kernel_rfl
theorem go84:growOK Tryz.prog 84 31 1 24=true:=by kernel_rfl
instance io90:One Tryz.prog 90:=⟨by kernel_rfl⟩
instance io92:One Tryz.prog 92:=⟨by kernel_rfl⟩
instance is92:Sz Tryz.prog 92 1:=⟨by kernel_rfl⟩
theorem sz92:(Tryz.prog.info? 92).map (·.size)=some 1:=is92.q
instance iu92:Und Tryz.prog 92 (.slice 4):=⟨Tryz.underlying92⟩
theorem zc92:zeroCells Tryz.prog 92=some [.slice none 0 0]:=by kernel_rfl
theorem eo92:elemOK Tryz.prog 92 4 1=true:=by kernel_rfl
theorem go92:growOK Tryz.prog 92 4 1 1=true:=by kernel_rfl
instance is94:Sz Tryz.prog 94 3:=⟨by kernel_rfl⟩
theorem sz94:(Tryz.prog.info? 94).map (·.size)=some 3:=is94.q
theorem zc94:zeroCells Tryz.prog 94=some [.int .i64 0,.slice none 0 0,.slice none 0 0]:=by kernel_rfl
instance ir94:Sr Tryz.prog 94 3:=⟨⟨_,Tryz.underlying94⟩,is94.q⟩
instance if94_0:FO Tryz.prog 94 0 0:=⟨by kernel_rfl⟩
instance if94_1:FO Tryz.prog 94 1 1:=⟨by kernel_rfl⟩
instance if94_2:FO Tryz.prog 94 2 2:=⟨by kernel_rfl⟩
instance is96:Sz Tryz.prog 96 7:=⟨by kernel_rfl⟩
theorem sz96:(Tryz.prog.info? 96).map (·.size)=some 7:=is96.q
theorem zc96:zeroCells Tryz.prog 96=some [.string ByteArray.empty,.int .i64 0,.int .i64 0,.int .i64 0,.int .i64 0,.int .i64 0,.slice none 0 0]:=by kernel_rfl
instance ir96:Sr Tryz.prog 96 7:=⟨⟨_,Tryz.underlying96⟩,is96.q⟩
instance if96_0:FO Tryz.prog 96 0 0:=⟨by kernel_rfl⟩
instance if96_1:FO Tryz.prog 96 1 1:=⟨by kernel_rfl⟩
instance if96_2:FO Tryz.prog 96 2 2:=⟨by kernel_rfl⟩
instance if96_3:FO Tryz.prog 96 3 3:=⟨by kernel_rfl⟩
instance if96_4:FO Tryz.prog 96 4 4:=⟨by kernel_rfl⟩
instance if96_5:FO Tryz.prog 96 5 5:=⟨by kernel_rfl⟩
instance if96_6:FO Tryz.prog 96 6 6:=⟨by kernel_rfl⟩
instance is98:Sz Tryz.prog 98 1:=⟨by kernel_rfl⟩
instance ir98:Sr Tryz.prog 98 1:=⟨⟨_,Tryz.underlying98⟩,is98.q⟩
instance if98_0:FO Tryz.prog 98 0 0:=⟨by kernel_rfl⟩
instance is99:Sz Tryz.prog 99 12:=⟨by kernel_rfl⟩
instance iu99:Und Tryz.prog 99 (.array 12 3):=⟨Tryz.underlying99⟩
instance is100:Sz Tryz.prog 100 144:=⟨by kernel_rfl⟩
theorem sz100:(Tryz.prog.info? 100).map (·.size)=some 144:=is100.q
instance iu100:Und Tryz.prog 100 (.array 12 99):=⟨Tryz.underlying100⟩
theorem zc100:zeroCells Tryz.prog 100=some [.int .i64 0,.int .i64 0,.int .i64 0,.int .i64 0,.int .i64 0,.int .i64 0,.int .i64 0,.int .i64 0,.int .i64 0,.int .i64 0,.int .i64 0,.int .i64 0,.int .i64 0,.int .i64 0,.int .i64 0,.int .i64 0,.int .i64 0,.int .i64 0,.int .i64 0,.int .i64 0,.int .i64 0,.int .i64 0,.int .i64 0,.int .i64 0,.int .i64 0,.int .i64 0,.int .i64 0,.int .i64 0,.int .i64 0,.int .i64 0,.int .i64 0,.int .i64 0,.int .i64 0,.int .i64 0,.int .i64 0,.int .i64 0,.int .i64 0,.int .i64 0,.int .i64 0,.int .i64 0,.int .i64 0,.int .i64 0,.int .i64 0,.int .i64 0,.int .i64 0,.int .i64 0,.int .i64 0,.int .i64 0,.int .i64 0,.int .i64 0,.int .i64 0,.int .i64 0,.int .i64 0,.int .i64 0,.int .i64 0,.int .i64 0,.int .i64 0,.int .i64 0,.int .i64 0,.int .i64 0,.int .i64 0,.int .i64 0,.int .i64 0,.int .i64 0,.int .i64 0,.int .i64 0,.int .i64 0,.int .i64 0,.int .i64 0,.int .i64 0,.int .i64 0,.int .i64 0,.int .i64 0,.int .i64 0,.int .i64 0,.int .i64 0,.int .i64 0,.int .i64 0,.int .i64 0,.int .i64 0,.int .i64 0,.int .i64 0,.int .i64 0,.int .i64 0,.int .i64 0,.int .i64 0,.int .i64 0,.int .i64 0,.int .i64 0,.int .i64 0,.int .i64 0,.int .i64 0,.int .i64 0,.int .i64 0,.int .i64 0,.int .i64 0,.int .i64 0,.int .i64 0,.int .i64 0,.int .i64 0,.int .i64 0,.int .i64 0,.int .i64 0,.int .i64 0,.int .i64 0,.int .i64 0,.int .i64 0,.int .i64 0,.int .i64 0,.int .i64 0,.int .i64 0,.int .i64 0,.int .i64 0,.int .i64 0,.int .i64 0,.int .i64 0,.int .i64 0,.int .i64 0,.int .i64 0,.int .i64 0,.int .i64 0,.int .i64 0,.int .i64 0,.int .i64 0,.int .i64 0,.int .i64 0,.int .i64 0,.int .i64 0,.int .i64 0,.int .i64 0,.int .i64 0,.int .i64 0,.int .i64 0,.int .i64 0,.int .i64 0,.int .i64 0,.int .i64 0,.int .i64 0,.int .i64 0,.int .i64 0,.int .i64 0,.int .i64 0,.int .i64 0,.int .i64 0]:=by kernel_rfl
instance io104:One Tryz.prog 104:=⟨by kernel_rfl⟩
instance if114_0:FO Tryz.prog 114 0 0:=⟨by kernel_rfl⟩
theorem fo114_0:fieldOff Tryz.prog 114 0=some 0:=if114_0.q
instance if114_1:FO Tryz.prog 114 1 3:=⟨by kernel_rfl⟩
instance if114_2:FO Tryz.prog 114 2 7:=⟨by kernel_rfl⟩
instance if116_0:FO Tryz.prog 116 0 0:=⟨by kernel_rfl⟩
instance if116_1:FO Tryz.prog 116 1 1:=⟨by kernel_rfl⟩
instance is125:Sz Tryz.prog 125 3:=⟨by kernel_rfl⟩
theorem sz125:(Tryz.prog.info? 125).map (·.size)=some 3:=is125.q
theorem zc125:zeroCells Tryz.prog 125=some [.int .i64 0,.int .i64 0,.int .i64 0]:=by kernel_rfl
instance if125_0:FO Tryz.prog 125 0 0:=⟨by kernel_rfl⟩
instance if125_1:FO Tryz.prog 125 1 1:=⟨by kernel_rfl⟩
instance if125_2:FO Tryz.prog 125 2 2:=⟨by kernel_rfl⟩
instance iu127:Und Tryz.prog 127 (.slice 75):=⟨Tryz.underlying127⟩
theorem eo127:elemOK Tryz.prog 127 75 2=true:=by kernel_rfl
theorem go127:growOK Tryz.prog 127 75 2 16=true:=by kernel_rfl
instance io138:One Tryz.prog 138:=⟨by kernel_rfl⟩
instance io140:One Tryz.prog 140:=⟨by kernel_rfl⟩
instance io142:One Tryz.prog 142:=⟨by kernel_rfl⟩
instance io145:One Tryz.prog 145:=⟨by kernel_rfl⟩
instance io148:One Tryz.prog 148:=⟨by kernel_rfl⟩
instance is150:Sz Tryz.prog 150 3:=⟨by kernel_rfl⟩
instance ir150:Sr Tryz.prog 150 3:=⟨⟨_,Tryz.underlying150⟩,is150.q⟩
instance if150_0:FO Tryz.prog 150 0 0:=⟨by kernel_rfl⟩
instance if150_1:FO Tryz.prog 150 1 1:=⟨by kernel_rfl⟩
instance if150_2:FO Tryz.prog 150 2 2:=⟨by kernel_rfl⟩
instance io152:One Tryz.prog 152:=⟨by kernel_rfl⟩
instance io155:One Tryz.prog 155:=⟨by kernel_rfl⟩
instance is155:Sz Tryz.prog 155 1:=⟨by kernel_rfl⟩
theorem sz155:(Tryz.prog.info? 155).map (·.size)=some 1:=is155.q
theorem zc155:zeroCells Tryz.prog 155=some [.map none]:=by kernel_rfl
instance io159:One Tryz.prog 159:=⟨by kernel_rfl⟩
instance io171:One Tryz.prog 171:=⟨by kernel_rfl⟩
theorem one171:one Tryz.prog 171=true:=io171.q
instance is171:Sz Tryz.prog 171 1:=⟨by kernel_rfl⟩
theorem sz171:(Tryz.prog.info? 171).map (·.size)=some 1:=is171.q
instance is172:Sz Tryz.prog 172 3:=⟨by kernel_rfl⟩
theorem sz172:(Tryz.prog.info? 172).map (·.size)=some 3:=is172.q
instance iu172:Und Tryz.prog 172 (.array 3 171):=⟨Tryz.underlying172⟩
theorem zc172:zeroCells Tryz.prog 172=some [.nilFunc,.nilFunc,.nilFunc]:=by kernel_rfl
instance iu185:Und Tryz.prog 185 (.slice 5):=⟨Tryz.underlying185⟩
instance is186:Sz Tryz.prog 186 17:=⟨by kernel_rfl⟩
theorem sz186:(Tryz.prog.info? 186).map (·.size)=some 17:=is186.q
instance iu186:Und Tryz.prog 186 (.array 17 9):=⟨Tryz.underlying186⟩
instance ig3:FnI Tryz.prog 3 Tryz.f3 112:=⟨Tryz.func3,Tryz.ntmps3⟩
instance ie4:En Tryz.prog 4:=⟨by kernel_rfl⟩
instance ig4:FnI Tryz.prog 4 Tryz.f4 156:=⟨Tryz.func4,Tryz.ntmps4⟩
instance ie5:En Tryz.prog 5:=⟨by kernel_rfl⟩
instance ig5:FnI Tryz.prog 5 Tryz.f5 32:=⟨Tryz.func5,Tryz.ntmps5⟩
instance ie6:En Tryz.prog 6:=⟨by kernel_rfl⟩
theorem en6:enters Tryz.prog 6=true:=ie6.q
instance ig6:FnI Tryz.prog 6 Tryz.f6 88:=⟨Tryz.func6,Tryz.ntmps6⟩
instance ie7:En Tryz.prog 7:=⟨by kernel_rfl⟩
instance ig7:FnI Tryz.prog 7 Tryz.f7 18:=⟨Tryz.func7,Tryz.ntmps7⟩
instance ie8:En Tryz.prog 8:=⟨by kernel_rfl⟩
theorem en8:enters Tryz.prog 8=true:=ie8.q
instance ig8:FnI Tryz.prog 8 Tryz.f8 57:=⟨Tryz.func8,Tryz.ntmps8⟩
instance ie9:En Tryz.prog 9:=⟨by kernel_rfl⟩
instance ig9:FnI Tryz.prog 9 Tryz.f9 21:=⟨Tryz.func9,Tryz.ntmps9⟩
instance ie10:En Tryz.prog 10:=⟨by kernel_rfl⟩
instance ig10:FnI Tryz.prog 10 Tryz.f10 51:=⟨Tryz.func10,Tryz.ntmps10⟩
instance ie11:En Tryz.prog 11:=⟨by kernel_rfl⟩
theorem en11:enters Tryz.prog 11=true:=ie11.q
instance ig11:FnI Tryz.prog 11 Tryz.f11 26:=⟨Tryz.func11,Tryz.ntmps11⟩
instance ie12:En Tryz.prog 12:=⟨by kernel_rfl⟩
instance ig12:FnI Tryz.prog 12 Tryz.f12 6:=⟨Tryz.func12,Tryz.ntmps12⟩
instance ie13:En Tryz.prog 13:=⟨by kernel_rfl⟩
theorem en13:enters Tryz.prog 13=true:=ie13.q
instance ig13:FnI Tryz.prog 13 Tryz.f13 26:=⟨Tryz.func13,Tryz.ntmps13⟩
instance ie14:En Tryz.prog 14:=⟨by kernel_rfl⟩
instance ig14:FnI Tryz.prog 14 Tryz.f14 37:=⟨Tryz.func14,Tryz.ntmps14⟩
instance ie15:En Tryz.prog 15:=⟨by kernel_rfl⟩
instance ig15:FnI Tryz.prog 15 Tryz.f15 44:=⟨Tryz.func15,Tryz.ntmps15⟩
instance ie16:En Tryz.prog 16:=⟨by kernel_rfl⟩
instance ig16:FnI Tryz.prog 16 Tryz.f16 54:=⟨Tryz.func16,Tryz.ntmps16⟩
instance ie17:En Tryz.prog 17:=⟨by kernel_rfl⟩
instance ig17:FnI Tryz.prog 17 Tryz.f17 46:=⟨Tryz.func17,Tryz.ntmps17⟩
instance ie18:En Tryz.prog 18:=⟨by kernel_rfl⟩
theorem en18:enters Tryz.prog 18=true:=ie18.q
instance ig18:FnI Tryz.prog 18 Tryz.f18 7:=⟨Tryz.func18,Tryz.ntmps18⟩
instance ie19:En Tryz.prog 19:=⟨by kernel_rfl⟩
theorem en19:enters Tryz.prog 19=true:=ie19.q
instance ig19:FnI Tryz.prog 19 Tryz.f19 20:=⟨Tryz.func19,Tryz.ntmps19⟩
instance ie20:En Tryz.prog 20:=⟨by kernel_rfl⟩
instance ig20:FnI Tryz.prog 20 Tryz.f20 71:=⟨Tryz.func20,Tryz.ntmps20⟩
instance ie21:En Tryz.prog 21:=⟨by kernel_rfl⟩
instance ig21:FnI Tryz.prog 21 Tryz.f21 116:=⟨Tryz.func21,Tryz.ntmps21⟩
instance ie22:En Tryz.prog 22:=⟨by kernel_rfl⟩
instance ig22:FnI Tryz.prog 22 Tryz.f22 73:=⟨Tryz.func22,Tryz.ntmps22⟩
instance ie23:En Tryz.prog 23:=⟨by kernel_rfl⟩
instance ig23:FnI Tryz.prog 23 Tryz.f23 51:=⟨Tryz.func23,Tryz.ntmps23⟩
instance ie24:En Tryz.prog 24:=⟨by kernel_rfl⟩
instance ig24:FnI Tryz.prog 24 Tryz.f24 144:=⟨Tryz.func24,Tryz.ntmps24⟩
instance ie25:En Tryz.prog 25:=⟨by kernel_rfl⟩
theorem en25:enters Tryz.prog 25=true:=ie25.q
instance ig25:FnI Tryz.prog 25 Tryz.f25 64:=⟨Tryz.func25,Tryz.ntmps25⟩
instance ie26:En Tryz.prog 26:=⟨by kernel_rfl⟩
instance ig26:FnI Tryz.prog 26 Tryz.f26 27:=⟨Tryz.func26,Tryz.ntmps26⟩
instance ie27:En Tryz.prog 27:=⟨by kernel_rfl⟩
instance ig27:FnI Tryz.prog 27 Tryz.f27 41:=⟨Tryz.func27,Tryz.ntmps27⟩
instance ie28:En Tryz.prog 28:=⟨by kernel_rfl⟩
theorem en28:enters Tryz.prog 28=true:=ie28.q
instance ig28:FnI Tryz.prog 28 Tryz.f28 29:=⟨Tryz.func28,Tryz.ntmps28⟩
instance ie29:En Tryz.prog 29:=⟨by kernel_rfl⟩
instance ig29:FnI Tryz.prog 29 Tryz.f29 22:=⟨Tryz.func29,Tryz.ntmps29⟩
instance ie30:En Tryz.prog 30:=⟨by kernel_rfl⟩
instance ig30:FnI Tryz.prog 30 Tryz.f30 6:=⟨Tryz.func30,Tryz.ntmps30⟩
instance ie31:En Tryz.prog 31:=⟨by kernel_rfl⟩
instance ig31:FnI Tryz.prog 31 Tryz.f31 10:=⟨Tryz.func31,Tryz.ntmps31⟩
instance ie32:En Tryz.prog 32:=⟨by kernel_rfl⟩
instance ig32:FnI Tryz.prog 32 Tryz.f32 57:=⟨Tryz.func32,Tryz.ntmps32⟩
instance ie33:En Tryz.prog 33:=⟨by kernel_rfl⟩
instance ig33:FnI Tryz.prog 33 Tryz.f33 86:=⟨Tryz.func33,Tryz.ntmps33⟩
instance ie34:En Tryz.prog 34:=⟨by kernel_rfl⟩
instance ig34:FnI Tryz.prog 34 Tryz.f34 8:=⟨Tryz.func34,Tryz.ntmps34⟩
instance ie35:En Tryz.prog 35:=⟨by kernel_rfl⟩
theorem en35:enters Tryz.prog 35=true:=ie35.q
instance ig35:FnI Tryz.prog 35 Tryz.f35 9:=⟨Tryz.func35,Tryz.ntmps35⟩
instance ie36:En Tryz.prog 36:=⟨by kernel_rfl⟩
instance ig36:FnI Tryz.prog 36 Tryz.f36 42:=⟨Tryz.func36,Tryz.ntmps36⟩
instance ie37:En Tryz.prog 37:=⟨by kernel_rfl⟩
theorem en37:enters Tryz.prog 37=true:=ie37.q
instance ig37:FnI Tryz.prog 37 Tryz.f37 9:=⟨Tryz.func37,Tryz.ntmps37⟩
instance ie38:En Tryz.prog 38:=⟨by kernel_rfl⟩
instance ig38:FnI Tryz.prog 38 Tryz.f38 23:=⟨Tryz.func38,Tryz.ntmps38⟩
instance ie39:En Tryz.prog 39:=⟨by kernel_rfl⟩
instance ig39:FnI Tryz.prog 39 Tryz.f39 31:=⟨Tryz.func39,Tryz.ntmps39⟩
instance ie40:En Tryz.prog 40:=⟨by kernel_rfl⟩
instance ig40:FnI Tryz.prog 40 Tryz.f40 6:=⟨Tryz.func40,Tryz.ntmps40⟩
instance ie41:En Tryz.prog 41:=⟨by kernel_rfl⟩
instance ig41:FnI Tryz.prog 41 Tryz.f41 90:=⟨Tryz.func41,Tryz.ntmps41⟩
instance ie42:En Tryz.prog 42:=⟨by kernel_rfl⟩
theorem en42:enters Tryz.prog 42=true:=ie42.q
instance ig42:FnI Tryz.prog 42 Tryz.f42 22:=⟨Tryz.func42,Tryz.ntmps42⟩
instance ie43:En Tryz.prog 43:=⟨by kernel_rfl⟩
instance ig43:FnI Tryz.prog 43 Tryz.f43 46:=⟨Tryz.func43,Tryz.ntmps43⟩
instance ie44:En Tryz.prog 44:=⟨by kernel_rfl⟩
theorem en44:enters Tryz.prog 44=true:=ie44.q
instance ig44:FnI Tryz.prog 44 Tryz.f44 115:=⟨Tryz.func44,Tryz.ntmps44⟩
instance ie45:En Tryz.prog 45:=⟨by kernel_rfl⟩
instance ig45:FnI Tryz.prog 45 Tryz.f45 102:=⟨Tryz.func45,Tryz.ntmps45⟩
instance ie46:En Tryz.prog 46:=⟨by kernel_rfl⟩
theorem en46:enters Tryz.prog 46=true:=ie46.q
instance ig46:FnI Tryz.prog 46 Tryz.f46 22:=⟨Tryz.func46,Tryz.ntmps46⟩
instance ie47:En Tryz.prog 47:=⟨by kernel_rfl⟩
instance ig47:FnI Tryz.prog 47 Tryz.f47 9:=⟨Tryz.func47,Tryz.ntmps47⟩
instance ie48:En Tryz.prog 48:=⟨by kernel_rfl⟩
theorem en48:enters Tryz.prog 48=true:=ie48.q
instance ig48:FnI Tryz.prog 48 Tryz.f48 22:=⟨Tryz.func48,Tryz.ntmps48⟩
instance ie49:En Tryz.prog 49:=⟨by kernel_rfl⟩
instance ig49:FnI Tryz.prog 49 Tryz.f49 20:=⟨Tryz.func49,Tryz.ntmps49⟩
instance ie50:En Tryz.prog 50:=⟨by kernel_rfl⟩
instance ig50:FnI Tryz.prog 50 Tryz.f50 49:=⟨Tryz.func50,Tryz.ntmps50⟩
instance ie51:En Tryz.prog 51:=⟨by kernel_rfl⟩
instance ig51:FnI Tryz.prog 51 Tryz.f51 61:=⟨Tryz.func51,Tryz.ntmps51⟩
instance ie52:En Tryz.prog 52:=⟨by kernel_rfl⟩
theorem en52:enters Tryz.prog 52=true:=ie52.q
instance ig52:FnI Tryz.prog 52 Tryz.f52 9:=⟨Tryz.func52,Tryz.ntmps52⟩
instance ie53:En Tryz.prog 53:=⟨by kernel_rfl⟩
theorem en53:enters Tryz.prog 53=true:=ie53.q
instance ig53:FnI Tryz.prog 53 Tryz.f53 14:=⟨Tryz.func53,Tryz.ntmps53⟩
instance ie54:En Tryz.prog 54:=⟨by kernel_rfl⟩
theorem en54:enters Tryz.prog 54=true:=ie54.q
instance ig54:FnI Tryz.prog 54 Tryz.f54 40:=⟨Tryz.func54,Tryz.ntmps54⟩
instance ie55:En Tryz.prog 55:=⟨by kernel_rfl⟩
instance ig55:FnI Tryz.prog 55 Tryz.f55 6:=⟨Tryz.func55,Tryz.ntmps55⟩
instance ie56:En Tryz.prog 56:=⟨by kernel_rfl⟩
instance ig56:FnI Tryz.prog 56 Tryz.f56 9:=⟨Tryz.func56,Tryz.ntmps56⟩
instance ie57:En Tryz.prog 57:=⟨by kernel_rfl⟩
theorem en57:enters Tryz.prog 57=true:=ie57.q
instance ig57:FnI Tryz.prog 57 Tryz.f57 23:=⟨Tryz.func57,Tryz.ntmps57⟩
instance ie58:En Tryz.prog 58:=⟨by kernel_rfl⟩
theorem en58:enters Tryz.prog 58=true:=ie58.q
instance ig58:FnI Tryz.prog 58 Tryz.f58 14:=⟨Tryz.func58,Tryz.ntmps58⟩
instance ie59:En Tryz.prog 59:=⟨by kernel_rfl⟩
instance ig59:FnI Tryz.prog 59 Tryz.f59 57:=⟨Tryz.func59,Tryz.ntmps59⟩
instance ie60:En Tryz.prog 60:=⟨by kernel_rfl⟩
theorem en60:enters Tryz.prog 60=true:=ie60.q
instance ig60:FnI Tryz.prog 60 Tryz.f60 43:=⟨Tryz.func60,Tryz.ntmps60⟩
instance ie61:En Tryz.prog 61:=⟨by kernel_rfl⟩
theorem en61:enters Tryz.prog 61=true:=ie61.q
instance ig61:FnI Tryz.prog 61 Tryz.f61 10:=⟨Tryz.func61,Tryz.ntmps61⟩
instance ie62:En Tryz.prog 62:=⟨by kernel_rfl⟩
instance ig62:FnI Tryz.prog 62 Tryz.f62 57:=⟨Tryz.func62,Tryz.ntmps62⟩
instance ie63:En Tryz.prog 63:=⟨by kernel_rfl⟩
theorem en63:enters Tryz.prog 63=true:=ie63.q
instance ig63:FnI Tryz.prog 63 Tryz.f63 3:=⟨Tryz.func63,Tryz.ntmps63⟩
instance ie64:En Tryz.prog 64:=⟨by kernel_rfl⟩
theorem en64:enters Tryz.prog 64=true:=ie64.q
instance ig64:FnI Tryz.prog 64 Tryz.f64 10:=⟨Tryz.func64,Tryz.ntmps64⟩
instance ie65:En Tryz.prog 65:=⟨by kernel_rfl⟩
instance ig65:FnI Tryz.prog 65 Tryz.f65 57:=⟨Tryz.func65,Tryz.ntmps65⟩
instance ie66:En Tryz.prog 66:=⟨by kernel_rfl⟩
theorem en66:enters Tryz.prog 66=true:=ie66.q
instance ig66:FnI Tryz.prog 66 Tryz.f66 7:=⟨Tryz.func66,Tryz.ntmps66⟩
instance ie67:En Tryz.prog 67:=⟨by kernel_rfl⟩
instance ig67:FnI Tryz.prog 67 Tryz.f67 51:=⟨Tryz.func67,Tryz.ntmps67⟩
instance ie68:En Tryz.prog 68:=⟨by kernel_rfl⟩
theorem en68:enters Tryz.prog 68=true:=ie68.q
instance ig68:FnI Tryz.prog 68 Tryz.f68 10:=⟨Tryz.func68,Tryz.ntmps68⟩
instance ie69:En Tryz.prog 69:=⟨by kernel_rfl⟩
instance ig69:FnI Tryz.prog 69 Tryz.f69 57:=⟨Tryz.func69,Tryz.ntmps69⟩
instance ie70:En Tryz.prog 70:=⟨by kernel_rfl⟩
theorem en70:enters Tryz.prog 70=true:=ie70.q
instance ig70:FnI Tryz.prog 70 Tryz.f70 7:=⟨Tryz.func70,Tryz.ntmps70⟩
instance ie71:En Tryz.prog 71:=⟨by kernel_rfl⟩
instance ig71:FnI Tryz.prog 71 Tryz.f71 39:=⟨Tryz.func71,Tryz.ntmps71⟩
instance ie72:En Tryz.prog 72:=⟨by kernel_rfl⟩
theorem en72:enters Tryz.prog 72=true:=ie72.q
instance ig72:FnI Tryz.prog 72 Tryz.f72 10:=⟨Tryz.func72,Tryz.ntmps72⟩
instance ie73:En Tryz.prog 73:=⟨by kernel_rfl⟩
instance ig73:FnI Tryz.prog 73 Tryz.f73 57:=⟨Tryz.func73,Tryz.ntmps73⟩
instance ie74:En Tryz.prog 74:=⟨by kernel_rfl⟩
theorem en74:enters Tryz.prog 74=true:=ie74.q
instance ig74:FnI Tryz.prog 74 Tryz.f74 11:=⟨Tryz.func74,Tryz.ntmps74⟩
instance ie75:En Tryz.prog 75:=⟨by kernel_rfl⟩
theorem en75:enters Tryz.prog 75=true:=ie75.q
instance ig75:FnI Tryz.prog 75 Tryz.f75 5:=⟨Tryz.func75,Tryz.ntmps75⟩
instance ie76:En Tryz.prog 76:=⟨by kernel_rfl⟩
theorem en76:enters Tryz.prog 76=true:=ie76.q
instance ig76:FnI Tryz.prog 76 Tryz.f76 27:=⟨Tryz.func76,Tryz.ntmps76⟩
instance ie77:En Tryz.prog 77:=⟨by kernel_rfl⟩
theorem en77:enters Tryz.prog 77=true:=ie77.q
instance ig77:FnI Tryz.prog 77 Tryz.f77 15:=⟨Tryz.func77,Tryz.ntmps77⟩
instance ie78:En Tryz.prog 78:=⟨by kernel_rfl⟩
theorem en78:enters Tryz.prog 78=true:=ie78.q
instance ig78:FnI Tryz.prog 78 Tryz.f78 36:=⟨Tryz.func78,Tryz.ntmps78⟩
instance ie79:En Tryz.prog 79:=⟨by kernel_rfl⟩
theorem en79:enters Tryz.prog 79=true:=ie79.q
instance ig79:FnI Tryz.prog 79 Tryz.f79 9:=⟨Tryz.func79,Tryz.ntmps79⟩
instance ie80:En Tryz.prog 80:=⟨by kernel_rfl⟩
instance ig80:FnI Tryz.prog 80 Tryz.f80 9:=⟨Tryz.func80,Tryz.ntmps80⟩
instance ie81:En Tryz.prog 81:=⟨by kernel_rfl⟩
theorem en81:enters Tryz.prog 81=true:=ie81.q
instance ig81:FnI Tryz.prog 81 Tryz.f81 7:=⟨Tryz.func81,Tryz.ntmps81⟩
instance ie82:En Tryz.prog 82:=⟨by kernel_rfl⟩
instance ig82:FnI Tryz.prog 82 Tryz.f82 8:=⟨Tryz.func82,Tryz.ntmps82⟩
instance ie83:En Tryz.prog 83:=⟨by kernel_rfl⟩
instance ig83:FnI Tryz.prog 83 Tryz.f83 19:=⟨Tryz.func83,Tryz.ntmps83⟩
instance ie84:En Tryz.prog 84:=⟨by kernel_rfl⟩
instance ig84:FnI Tryz.prog 84 Tryz.f84 9:=⟨Tryz.func84,Tryz.ntmps84⟩
instance ie85:En Tryz.prog 85:=⟨by kernel_rfl⟩
theorem en85:enters Tryz.prog 85=true:=ie85.q
instance ig85:FnI Tryz.prog 85 Tryz.f85 21:=⟨Tryz.func85,Tryz.ntmps85⟩
instance ie86:En Tryz.prog 86:=⟨by kernel_rfl⟩
theorem en86:enters Tryz.prog 86=true:=ie86.q
instance ig86:FnI Tryz.prog 86 Tryz.f86 5:=⟨Tryz.func86,Tryz.ntmps86⟩
instance ie87:En Tryz.prog 87:=⟨by kernel_rfl⟩
instance ig87:FnI Tryz.prog 87 Tryz.f87 9:=⟨Tryz.func87,Tryz.ntmps87⟩
instance ie88:En Tryz.prog 88:=⟨by kernel_rfl⟩
instance ig88:FnI Tryz.prog 88 Tryz.f88 4:=⟨Tryz.func88,Tryz.ntmps88⟩
instance ie89:En Tryz.prog 89:=⟨by kernel_rfl⟩
theorem en89:enters Tryz.prog 89=true:=ie89.q
instance ig89:FnI Tryz.prog 89 Tryz.f89 38:=⟨Tryz.func89,Tryz.ntmps89⟩
instance ie90:En Tryz.prog 90:=⟨by kernel_rfl⟩
instance ig90:FnI Tryz.prog 90 Tryz.f90 13:=⟨Tryz.func90,Tryz.ntmps90⟩
instance ie91:En Tryz.prog 91:=⟨by kernel_rfl⟩
instance ig91:FnI Tryz.prog 91 Tryz.f91 110:=⟨Tryz.func91,Tryz.ntmps91⟩
instance ie92:En Tryz.prog 92:=⟨by kernel_rfl⟩
instance ig92:FnI Tryz.prog 92 Tryz.f92 33:=⟨Tryz.func92,Tryz.ntmps92⟩
instance ie93:En Tryz.prog 93:=⟨by kernel_rfl⟩
instance ig93:FnI Tryz.prog 93 Tryz.f93 65:=⟨Tryz.func93,Tryz.ntmps93⟩
instance ie94:En Tryz.prog 94:=⟨by kernel_rfl⟩
instance ig94:FnI Tryz.prog 94 Tryz.f94 101:=⟨Tryz.func94,Tryz.ntmps94⟩
instance ie95:En Tryz.prog 95:=⟨by kernel_rfl⟩
instance ig95:FnI Tryz.prog 95 Tryz.f95 126:=⟨Tryz.func95,Tryz.ntmps95⟩
instance ie96:En Tryz.prog 96:=⟨by kernel_rfl⟩
instance ig96:FnI Tryz.prog 96 Tryz.f96 63:=⟨Tryz.func96,Tryz.ntmps96⟩
instance ie97:En Tryz.prog 97:=⟨by kernel_rfl⟩
instance ig97:FnI Tryz.prog 97 Tryz.f97 6:=⟨Tryz.func97,Tryz.ntmps97⟩
instance ie98:En Tryz.prog 98:=⟨by kernel_rfl⟩
theorem en98:enters Tryz.prog 98=true:=ie98.q
instance ig98:FnI Tryz.prog 98 Tryz.f98 52:=⟨Tryz.func98,Tryz.ntmps98⟩
instance ie99:En Tryz.prog 99:=⟨by kernel_rfl⟩
instance ig99:FnI Tryz.prog 99 Tryz.f99 19:=⟨Tryz.func99,Tryz.ntmps99⟩
instance ie100:En Tryz.prog 100:=⟨by kernel_rfl⟩
theorem en100:enters Tryz.prog 100=true:=ie100.q
instance ig100:FnI Tryz.prog 100 Tryz.f100 45:=⟨Tryz.func100,Tryz.ntmps100⟩
instance ie101:En Tryz.prog 101:=⟨by kernel_rfl⟩
instance ig101:FnI Tryz.prog 101 Tryz.f101 19:=⟨Tryz.func101,Tryz.ntmps101⟩
instance ie102:En Tryz.prog 102:=⟨by kernel_rfl⟩
theorem en102:enters Tryz.prog 102=true:=ie102.q
instance ig102:FnI Tryz.prog 102 Tryz.f102 9:=⟨Tryz.func102,Tryz.ntmps102⟩
instance ie103:En Tryz.prog 103:=⟨by kernel_rfl⟩
instance ig103:FnI Tryz.prog 103 Tryz.f103 49:=⟨Tryz.func103,Tryz.ntmps103⟩
instance ie104:En Tryz.prog 104:=⟨by kernel_rfl⟩
theorem en104:enters Tryz.prog 104=true:=ie104.q
instance ig104:FnI Tryz.prog 104 Tryz.f104 17:=⟨Tryz.func104,Tryz.ntmps104⟩
instance ie105:En Tryz.prog 105:=⟨by kernel_rfl⟩
theorem en105:enters Tryz.prog 105=true:=ie105.q
instance ig105:FnI Tryz.prog 105 Tryz.f105 12:=⟨Tryz.func105,Tryz.ntmps105⟩
instance ie106:En Tryz.prog 106:=⟨by kernel_rfl⟩
theorem en106:enters Tryz.prog 106=true:=ie106.q
instance ig106:FnI Tryz.prog 106 Tryz.f106 9:=⟨Tryz.func106,Tryz.ntmps106⟩
instance ie107:En Tryz.prog 107:=⟨by kernel_rfl⟩
theorem en107:enters Tryz.prog 107=true:=ie107.q
instance ig107:FnI Tryz.prog 107 Tryz.f107 17:=⟨Tryz.func107,Tryz.ntmps107⟩
instance ie108:En Tryz.prog 108:=⟨by kernel_rfl⟩
theorem en108:enters Tryz.prog 108=true:=ie108.q
instance ig108:FnI Tryz.prog 108 Tryz.f108 12:=⟨Tryz.func108,Tryz.ntmps108⟩
instance ie109:En Tryz.prog 109:=⟨by kernel_rfl⟩
theorem en109:enters Tryz.prog 109=true:=ie109.q
instance ig109:FnI Tryz.prog 109 Tryz.f109 9:=⟨Tryz.func109,Tryz.ntmps109⟩
instance ie110:En Tryz.prog 110:=⟨by kernel_rfl⟩
theorem en110:enters Tryz.prog 110=true:=ie110.q
instance ig110:FnI Tryz.prog 110 Tryz.f110 17:=⟨Tryz.func110,Tryz.ntmps110⟩
instance ie111:En Tryz.prog 111:=⟨by kernel_rfl⟩
theorem en111:enters Tryz.prog 111=true:=ie111.q
instance ig111:FnI Tryz.prog 111 Tryz.f111 12:=⟨Tryz.func111,Tryz.ntmps111⟩
instance ie112:En Tryz.prog 112:=⟨by kernel_rfl⟩
instance ig112:FnI Tryz.prog 112 Tryz.f112 13:=⟨Tryz.func112,Tryz.ntmps112⟩
instance ie113:En Tryz.prog 113:=⟨by kernel_rfl⟩
theorem en113:enters Tryz.prog 113=true:=ie113.q
instance ig113:FnI Tryz.prog 113 Tryz.f113 13:=⟨Tryz.func113,Tryz.ntmps113⟩
instance ie114:En Tryz.prog 114:=⟨by kernel_rfl⟩
instance ig114:FnI Tryz.prog 114 Tryz.f114 32:=⟨Tryz.func114,Tryz.ntmps114⟩
instance ie115:En Tryz.prog 115:=⟨by kernel_rfl⟩
theorem en115:enters Tryz.prog 115=true:=ie115.q
instance ig115:FnI Tryz.prog 115 Tryz.f115 15:=⟨Tryz.func115,Tryz.ntmps115⟩
instance ie116:En Tryz.prog 116:=⟨by kernel_rfl⟩
theorem en116:enters Tryz.prog 116=true:=ie116.q
instance ig116:FnI Tryz.prog 116 Tryz.f116 9:=⟨Tryz.func116,Tryz.ntmps116⟩
instance ie117:En Tryz.prog 117:=⟨by kernel_rfl⟩
theorem en117:enters Tryz.prog 117=true:=ie117.q
instance ig117:FnI Tryz.prog 117 Tryz.f117 17:=⟨Tryz.func117,Tryz.ntmps117⟩
instance ie118:En Tryz.prog 118:=⟨by kernel_rfl⟩
theorem en118:enters Tryz.prog 118=true:=ie118.q
instance ig118:FnI Tryz.prog 118 Tryz.f118 12:=⟨Tryz.func118,Tryz.ntmps118⟩
instance ie119:En Tryz.prog 119:=⟨by kernel_rfl⟩
theorem en119:enters Tryz.prog 119=true:=ie119.q
instance ig119:FnI Tryz.prog 119 Tryz.f119 13:=⟨Tryz.func119,Tryz.ntmps119⟩
instance ie120:En Tryz.prog 120:=⟨by kernel_rfl⟩
theorem en120:enters Tryz.prog 120=true:=ie120.q
instance ig120:FnI Tryz.prog 120 Tryz.f120 9:=⟨Tryz.func120,Tryz.ntmps120⟩
instance ie121:En Tryz.prog 121:=⟨by kernel_rfl⟩
theorem en121:enters Tryz.prog 121=true:=ie121.q
instance ig121:FnI Tryz.prog 121 Tryz.f121 17:=⟨Tryz.func121,Tryz.ntmps121⟩
instance ie122:En Tryz.prog 122:=⟨by kernel_rfl⟩
theorem en122:enters Tryz.prog 122=true:=ie122.q
instance ig122:FnI Tryz.prog 122 Tryz.f122 12:=⟨Tryz.func122,Tryz.ntmps122⟩
instance ie123:En Tryz.prog 123:=⟨by kernel_rfl⟩
instance ig123:FnI Tryz.prog 123 Tryz.f123 27:=⟨Tryz.func123,Tryz.ntmps123⟩
instance ie124:En Tryz.prog 124:=⟨by kernel_rfl⟩
instance ig124:FnI Tryz.prog 124 Tryz.f124 19:=⟨Tryz.func124,Tryz.ntmps124⟩
instance ie125:En Tryz.prog 125:=⟨by kernel_rfl⟩
instance ig125:FnI Tryz.prog 125 Tryz.f125 5:=⟨Tryz.func125,Tryz.ntmps125⟩
instance ie126:En Tryz.prog 126:=⟨by kernel_rfl⟩
instance ie127:En Tryz.prog 127:=⟨by kernel_rfl⟩
theorem en127:enters Tryz.prog 127=true:=ie127.q
instance ig127:FnI Tryz.prog 127 Tryz.f127 14:=⟨Tryz.func127,Tryz.ntmps127⟩
instance ie128:En Tryz.prog 128:=⟨by kernel_rfl⟩
theorem en128:enters Tryz.prog 128=true:=ie128.q
instance ig128:FnI Tryz.prog 128 Tryz.f128 10:=⟨Tryz.func128,Tryz.ntmps128⟩
instance ie129:En Tryz.prog 129:=⟨by kernel_rfl⟩
instance ig129:FnI Tryz.prog 129 Tryz.f129 39:=⟨Tryz.func129,Tryz.ntmps129⟩
instance ie130:En Tryz.prog 130:=⟨by kernel_rfl⟩
instance ig130:FnI Tryz.prog 130 Tryz.f130 7:=⟨Tryz.func130,Tryz.ntmps130⟩
instance ie131:En Tryz.prog 131:=⟨by kernel_rfl⟩
instance ig131:FnI Tryz.prog 131 Tryz.f131 53:=⟨Tryz.func131,Tryz.ntmps131⟩
instance ie132:En Tryz.prog 132:=⟨by kernel_rfl⟩
instance ie133:En Tryz.prog 133:=⟨by kernel_rfl⟩
theorem en133:enters Tryz.prog 133=true:=ie133.q
instance ig133:FnI Tryz.prog 133 Tryz.f133 9:=⟨Tryz.func133,Tryz.ntmps133⟩
instance ie134:En Tryz.prog 134:=⟨by kernel_rfl⟩
theorem en134:enters Tryz.prog 134=true:=ie134.q
instance ig134:FnI Tryz.prog 134 Tryz.f134 9:=⟨Tryz.func134,Tryz.ntmps134⟩
instance ie135:En Tryz.prog 135:=⟨by kernel_rfl⟩
instance ig135:FnI Tryz.prog 135 Tryz.f135 13:=⟨Tryz.func135,Tryz.ntmps135⟩
instance ie138:En Tryz.prog 138:=⟨by kernel_rfl⟩
instance ig138:FnI Tryz.prog 138 Tryz.f138 55:=⟨Tryz.func138,Tryz.ntmps138⟩
instance ie139:En Tryz.prog 139:=⟨by kernel_rfl⟩
instance ig139:FnI Tryz.prog 139 Tryz.f139 52:=⟨Tryz.func139,Tryz.ntmps139⟩
instance ie152:En Tryz.prog 152:=⟨by kernel_rfl⟩
theorem en152:enters Tryz.prog 152=true:=ie152.q
instance ig152:FnI Tryz.prog 152 Tryz.f152 18:=⟨Tryz.func152,Tryz.ntmps152⟩
instance ie153:En Tryz.prog 153:=⟨by kernel_rfl⟩
theorem en153:enters Tryz.prog 153=true:=ie153.q
instance ig153:FnI Tryz.prog 153 Tryz.f153 9:=⟨Tryz.func153,Tryz.ntmps153⟩
instance ie154:En Tryz.prog 154:=⟨by kernel_rfl⟩
instance ig154:FnI Tryz.prog 154 Tryz.f154 43:=⟨Tryz.func154,Tryz.ntmps154⟩
instance ie155:En Tryz.prog 155:=⟨by kernel_rfl⟩
instance ig155:FnI Tryz.prog 155 Tryz.f155 59:=⟨Tryz.func155,Tryz.ntmps155⟩
instance ie156:En Tryz.prog 156:=⟨by kernel_rfl⟩
instance ig156:FnI Tryz.prog 156 Tryz.f156 42:=⟨Tryz.func156,Tryz.ntmps156⟩
instance ie157:En Tryz.prog 157:=⟨by kernel_rfl⟩
theorem en157:enters Tryz.prog 157=true:=ie157.q
instance ig157:FnI Tryz.prog 157 Tryz.f157 15:=⟨Tryz.func157,Tryz.ntmps157⟩
instance ie164:En Tryz.prog 164:=⟨by kernel_rfl⟩
instance ig164:FnI Tryz.prog 164 Tryz.f164 2:=⟨Tryz.func164,Tryz.ntmps164⟩
instance ie165:En Tryz.prog 165:=⟨by kernel_rfl⟩
instance ig165:FnI Tryz.prog 165 Tryz.f165 35:=⟨Tryz.func165,Tryz.ntmps165⟩
instance ig183:FnI Tryz.prog 183 Tryz.f183 10:=⟨Tryz.func183,Tryz.ntmps183⟩
instance ig184:FnI Tryz.prog 184 Tryz.f184 6:=⟨Tryz.func184,Tryz.ntmps184⟩
instance ig185:FnI Tryz.prog 185 Tryz.f185 34:=⟨Tryz.func185,Tryz.ntmps185⟩
instance ig186:FnI Tryz.prog 186 Tryz.f186 22:=⟨Tryz.func186,Tryz.ntmps186⟩
instance ie187:En Tryz.prog 187:=⟨by kernel_rfl⟩
instance ig187:FnI Tryz.prog 187 Tryz.f187 12:=⟨Tryz.func187,Tryz.ntmps187⟩
instance ig188:FnI Tryz.prog 188 Tryz.f188 10:=⟨Tryz.func188,Tryz.ntmps188⟩
instance ig189:FnI Tryz.prog 189 Tryz.f189 3:=⟨Tryz.func189,Tryz.ntmps189⟩
instance ig190:FnI Tryz.prog 190 Tryz.f190 9:=⟨Tryz.func190,Tryz.ntmps190⟩
instance ig191:FnI Tryz.prog 191 Tryz.f191 11:=⟨Tryz.func191,Tryz.ntmps191⟩
end Go.Proofs.YtffjgpoadfkjlaaGreatDoor
namespace Go.Proofs.YtffjgpoadfkjlaaGreatDoor
open Go.PF Go.RowKit Go.Ord
attribute [local irreducible] TW CW KW DW
variable {w:World} {v:Value} {d:Dist}
abbrev SD (w:World) (v:Value) (d:Dist):Prop:=SL (sliceT intT) (fun k=>k<w.heap.size) w v d
theorem sd_step {w':World} (h:SD w v d) (hb:Below w.heap.size w w'):SD w' v d:=h.step (sliceT_now intT_now) hb
theorem distances_c (hd:SD w v d):Gives Tryz.prog 45 #[v] w fun u w'=>Below w.heap.size w w'∧u= .bool (dec (WfD d)):=by
 obtain ⟨A,cap,rfl,hcap⟩:=hd.form
 have hmax:d.length≤9223372036854775807:=hd.len.2.2
 refine gv (f:=45) ?_
 refine rnT ?_
 refine CW.condP rfl (fun hbig=> ?_) (fun hsmall=> ?_)
 ·refine rnT ?_
  refine rt1 rfl ⟨Below.refl _ _,by rw [dec_neg (fun h=>by have:=h.few; omega)]⟩
 have h12:d.length≤12:=by omega
 refine rnT ?_
 refine CW.lp [0,16,17] (fun k:Nat=> [(18,none,.int .i64 (k:Int))])
  (fun k W=>k≤d.length∧W=w∧ ∀(i:Nat) (r:List Int),i<k→d[i]?=some r→RowOK d i r) (fun k=>d.length-k) 0 ⟨by omega,rfl,fun i r hi=>by omega⟩ ?_
 rintro k W ⟨hk,rfl,hrows⟩
 refine rnT ?_
 refine CW.condP rfl (fun hlt=> ?_) (fun hge=> ?_)
 ·have hkl:k<d.length:=by omega
  obtain ⟨r,hr⟩: ∃r,d[k]?=some r:=⟨d[k],List.getElem?_eq_getElem hkl⟩
  obtain ⟨ad,rfl⟩:=hd.addr (by omega)
  obtain ⟨rv,hcell,hrow⟩:=hd.row hr
  obtain ⟨B,rcap,rfl,_⟩:=hrow.form
  by_cases hlen:r.length=d.length
  ·obtain ⟨bd,rfl⟩:=hrow.addr (by omega)
   obtain ⟨x,hx⟩: ∃x,r[k]?=some x:=⟨r[k]'(by omega),List.getElem?_eq_getElem (by omega)⟩
   refine rnT ?_
   refine TW.ld rfl hcell ?_
   refine rnT ?_
   refine TW.ld rfl (hrow.getI hx) ?_
   refine rnT ?_
   refine CW.pk [0,3,4,16,17,18,34] rfl ?_
   refine CW.cond rfl (fun hbad=> ?_) (fun hgood=> ?_)
   ·refine rnT ?_
    refine rt1 rfl ⟨Below.refl _ _,?_⟩
    rw [dec_neg]
    intro h
    have:=(h.rowOK hr).diag
    rw [hx] at this
    simp [hlen] at hbad
    exact hbad (by simpa using this)
   have hx0:x=0:=by simpa [hlen] using hgood
   refine rnT ?_
   refine CW.lp [0,16,17,18,35,36] (fun j:Nat=> [(37,none,.int .i64 (j:Int))])
    (fun j W'=>j≤r.length∧W'=W∧ ∀(i:Nat) (y:Int),i<j→r[i]?=some y→ -1≤y∧y≤1000000) (fun j=>r.length-j) 0 ⟨by omega,rfl,fun i y hi=>by omega⟩ ?_
   rintro j W' ⟨hj,rfl,hrng⟩
   refine rnT ?_
   refine CW.condP rfl (fun hlt2=> ?_) (fun hge2=> ?_)
   ·have hjl:j<r.length:=by omega
    obtain ⟨y,hy⟩: ∃y,r[j]?=some y:=⟨r[j],List.getElem?_eq_getElem hjl⟩
    refine rnT ?_
    refine TW.ld rfl (hrow.getI hy) ?_
    refine rnT ?_
    refine CW.pk [0,6,16,17,18,35,36,37,46] rfl ?_
    refine CW.cond rfl (fun hbad2=> ?_) (fun hgood2=> ?_)
    ·refine rnT ?_
     refine rt1 rfl ⟨Below.refl _ _,?_⟩
     rw [dec_neg]
     intro h
     have:=(h.rowOK hr).rng j y hy
     simp at hbad2
     omega
    refine rnT ?_
    refine KW.rd (j+1) ⟨by omega,rfl,fun i z hi hz=> ?_⟩
    rcases Nat.lt_or_ge i j with h|h
    ·exact hrng i z h hz
    ·obtain rfl:i=j:=by omega
     rw [hy] at hz; cases hz
     simp at hgood2
     omega
   ·refine rnT ?_
    refine KW.rd (k+1) ⟨by omega,rfl,fun i r' hi hr'=> ?_⟩
    rcases Nat.lt_or_ge i k with h|h
    ·exact hrows i r' h hr'
    ·obtain rfl:i=k:=by omega
     rw [hr] at hr'; cases hr'
     exact ⟨hlen,by rw [hx,hx0],fun j y hy=>hrng j y (by have:=(List.getElem?_eq_some_iff.1 hy).1; omega) hy⟩
  ·skip
   refine rnT ?_
   refine TW.ld rfl hcell ?_
   refine TW.v V.assign rfl ⟨ct,trivial⟩ (fun _=>trivial) ?_
   refine TW.v V.assign rfl ⟨ct,trivial⟩ (fun _=>trivial) ?_
   refine TW.nil (KW.pick [0,3,4,16,17,18] [(0,_,_),(3,_,_),(4,_,_),(16,_,_),(17,_,_),(18,_,_)] rfl (KW.then_ ?_))
   refine CW.seq (CW.seq (CW.region ?_))
   refine TW.v V.move rfl ⟨ct,trivial⟩ (fun _=>trivial) ?_
   refine TW.v V.lenSlice rfl ⟨ct,trivial⟩ (fun _=>trivial) ?_
   refine TW.v V.move rfl ⟨ct,trivial⟩ (fun _=>trivial) ?_
   refine TW.v V.lenSlice rfl ⟨ct,trivial⟩ (fun _=>trivial) ?_
   refine TW.v V.neq rfl ⟨ct,ct,trivial⟩ (fun _=>trivial) ?_
   refine TW.v V.move rfl ⟨ct,trivial⟩ (fun _=>trivial) ?_
   refine TW.dead (.bool false) rfl (by simp [Cnd]; omega) rfl ?_
   refine TW.dead (.bool false) rfl (by simp [Cnd]; omega) rfl ?_
   refine TW.dead (.bool false) rfl (by simp [Cnd]; omega) rfl ?_
   refine TW.dead (.bool false) rfl (by simp [Cnd]; omega) rfl ?_
   refine TW.dead (.bool false) rfl (by simp [Cnd]; omega) rfl ?_
   refine rnT ?_
   refine CW.pk [0,3,4,16,17,18,34] rfl ?_
   refine CW.cond rfl (fun hbad=> ?_) (fun hgood=> ?_)
   ·refine rnT ?_
    refine rt1 rfl ⟨Below.refl _ _,by rw [dec_neg (fun h=>hlen (h.rowOK hr).len)]⟩
   exfalso
   simp at hgood
   omega
 ·have hrows': ∀(i:Nat) (r:List Int),d[i]?=some r→RowOK d i r:=fun i r hr=>hrows i r (by have:=(List.getElem?_eq_some_iff.1 hr).1; omega) hr
  have hall: ∀i,i<d.length→ ∃r,d[i]?=some r∧r.length=d.length:=fun i hi=>⟨d[i],List.getElem?_eq_getElem hi,(hrows' i _ (List.getElem?_eq_getElem hi)).len⟩
  refine rnT ?_
  refine CW.lp [0,49,50] (fun i:Nat=> [(51,none,.int .i64 (i:Int))])
   (fun i W'=>i≤d.length∧W'=W∧ ∀a b c,a<i→b<d.length→c<d.length→Tri d a b c) (fun i=>d.length-i) 0 ⟨by omega,rfl,fun a b c ha=>by omega⟩ ?_
  rintro i W' ⟨hi,rfl,htri⟩
  refine rnT ?_
  refine CW.condP rfl (fun hlt1=> ?_) (fun hge1=> ?_)
  ·have hil:i<d.length:=by omega
   obtain ⟨r,hr,hrl⟩:=hall i hil
   obtain ⟨ad,rfl⟩:=hd.addr (by omega)
   obtain ⟨rv,hcell,hrow⟩:=hd.row hr
   obtain ⟨B,rcap,rfl,_⟩:=hrow.form
   obtain ⟨bd,rfl⟩:=hrow.addr (by omega)
   refine rnT ?_
   refine TW.ld rfl hcell ?_
   refine rnT ?_
   refine CW.lp [0,7,8,49,50,51,56,57] (fun k:Nat=> [(58,none,.int .i64 (k:Int))])
    (fun k W2=>k≤d.length∧W2=W'∧ ∀b c,b<k→c<d.length→Tri d i b c) (fun k=>d.length-k) 0 ⟨by omega,rfl,fun b c hb=>by omega⟩ ?_
   rintro k W2 ⟨hk2,rfl,htri2⟩
   refine rnT ?_
   refine CW.condP rfl (fun hlt2=> ?_) (fun hge2=> ?_)
   ·have hkl:k<d.length:=by omega
    obtain ⟨x,hx⟩: ∃x,r[k]?=some x:=⟨r[k]'(by omega),List.getElem?_eq_getElem (by omega)⟩
    have hxa:=at2_eq hr hx
    obtain ⟨r2,hr2,hr2l⟩:=hall k hkl
    obtain ⟨rv2,hcell2,hrow2⟩:=hd.row hr2
    obtain ⟨B2,rcap2,rfl,_⟩:=hrow2.form
    obtain ⟨bd2,rfl⟩:=hrow2.addr (by omega)
    have hxr:=(hrows' i r hr).rng k x hx
    refine rnT ?_
    refine TW.ld rfl (hrow.getI hx) ?_
    refine rnT ?_
    refine CW.pk [0,7,8,9,10,49,50,51,56,57,58,69] rfl ?_
    refine CW.cond rfl (fun hskip=> ?_) (fun hgo=> ?_)
    ·refine rnT ?_
     refine KW.rd (k+1) ⟨by omega,rfl,fun b c hb hc=> ?_⟩
     rcases Nat.lt_or_ge b k with h|h
     ·exact htri2 b c h hc
     ·obtain rfl:b=k:=by omega
      intro q1 q2
      rw [hxa] at q1
      simp at hskip
      have hib:i=b:=by omega
      subst hib
      have hx0:x=0:=by
       have:=(hrows' i r hr).diag
       rw [hx] at this
       simpa using this
      rw [hxa,hx0]
      exact ⟨q2,by omega⟩
    have hx1:x≠ -1:=fun h=>by simp [h] at hgo
    refine rnT ?_
    refine TW.ld rfl hcell2 ?_
    refine rnT ?_
    refine CW.lp [0,7,8,10,49,50,51,56,57,58,73,74] (fun j:Nat=> [(75,none,.int .i64 (j:Int))])
     (fun j W3=>j≤d.length∧W3=W2∧ ∀c,c<j→Tri d i k c) (fun j=>d.length-j) 0 ⟨by omega,rfl,fun c hc=>by omega⟩ ?_
    rintro j W3 ⟨hj3,rfl,htri3⟩
    refine rnT ?_
    refine CW.condP rfl (fun hlt3=> ?_) (fun hge3=> ?_)
    ·have hjl:j<d.length:=by omega
     obtain ⟨y,hy⟩: ∃y,r2[j]?=some y:=⟨r2[j]'(by omega),List.getElem?_eq_getElem (by omega)⟩
     obtain ⟨z,hz⟩: ∃z,r[j]?=some z:=⟨r[j]'(by omega),List.getElem?_eq_getElem (by omega)⟩
     have hya:=at2_eq hr2 hy
     have hza:=at2_eq hr hz
     have hyr:=(hrows' k r2 hr2).rng j y hy
     refine rnT ?_
     refine TW.ld rfl (hrow2.getI hy) ?_
     refine rnT ?_
     refine TW.ld rfl (hrow.getI hz) ?_
     refine rnT ?_
     refine TW.ld rfl (hrow.getI hz) ?_
     refine rnT ?_
     refine CW.pk [0,7,8,10,11,12,49,50,51,56,57,58,73,74,75,98] rfl ?_
     refine CW.cond rfl (fun hbad=> ?_) (fun hgood=> ?_)
     ·refine rnT ?_
      refine rt1 rfl ⟨Below.refl _ _,?_⟩
      rw [dec_neg]
      intro h
      have ht:=h.tri i k j hil hkl hjl (by rw [hxa]; exact hx1)
      rw [hxa,hya,hza] at ht
      simp at hbad
      have:=ht hbad.1
      omega
     refine rnT ?_
     refine KW.rd (j+1) ⟨by omega,rfl,fun c hc=> ?_⟩
     rcases Nat.lt_or_ge c j with h|h
     ·exact htri3 c h
     ·obtain rfl:c=j:=by omega
      intro _ q2
      rw [hya] at q2
      rw [hxa,hya,hza]
      simp [q2] at hgood
      omega
    ·refine rnT ?_
     refine KW.rd (k+1) ⟨by omega,rfl,fun b c hb hc=> ?_⟩
     rcases Nat.lt_or_ge b k with h|h
     ·exact htri2 b c h hc
     ·obtain rfl:b=k:=by omega
      exact htri3 c (by omega)
   ·refine rnT ?_
    refine KW.rd (i+1) ⟨by omega,rfl,fun a b c ha hb hc=> ?_⟩
    rcases Nat.lt_or_ge a i with h|h
    ·exact htri a b c h hb hc
    ·obtain rfl:a=i:=by omega
     exact htri2 b c (by omega) hc
  ·refine rnT ?_
   refine rt1 rfl ⟨Below.refl _ _,by rw [dec_pos (wfd_of h12 hrows' (fun a b c ha hb hc=>htri a b c (by omega) hb hc))]⟩
theorem rdistances_c (hd:SD w v d):Gives Tryz.prog 95 #[v] w fun u w'=>Below w.heap.size w w'∧u= .bool (dec (WfD d)):=by
 obtain ⟨A,cap,rfl,hcap⟩:=hd.form
 have hmax:d.length≤9223372036854775807:=hd.len.2.2
 refine gv (f:=95) ?_
 refine rnT ?_
 refine CW.condP rfl (fun hbig=> ?_) (fun hsmall=> ?_)
 ·refine rnT ?_
  refine rt1 rfl ⟨Below.refl _ _,by rw [dec_neg (fun h=>by have:=h.few; omega)]⟩
 have h12:d.length≤12:=by omega
 refine rnT ?_
 refine CW.lp [0,3] (fun k:Nat=> [(4,none,.int .i64 (k:Int))])
  (fun k W=>k≤d.length∧W=w∧ ∀(i:Nat) (r:List Int),i<k→d[i]?=some r→RowOK d i r) (fun k=>d.length-k) 0 ⟨by omega,rfl,fun i r hi=>by omega⟩ ?_
 rintro k W ⟨hk,rfl,hrows⟩
 refine rnT ?_
 refine CW.condP rfl (fun hlt=> ?_) (fun hge=> ?_)
 ·have hkl:k<d.length:=by omega
  obtain ⟨r,hr⟩: ∃r,d[k]?=some r:=⟨d[k],List.getElem?_eq_getElem hkl⟩
  obtain ⟨ad,rfl⟩:=hd.addr (by omega)
  obtain ⟨rv,hcell,hrow⟩:=hd.row hr
  obtain ⟨B,rcap,rfl,_⟩:=hrow.form
  by_cases hlen:r.length=d.length
  ·obtain ⟨bd,rfl⟩:=hrow.addr (by omega)
   obtain ⟨x,hx⟩: ∃x,r[k]?=some x:=⟨r[k]'(by omega),List.getElem?_eq_getElem (by omega)⟩
   refine rnT ?_
   refine TW.ld rfl hcell ?_
   refine rnT ?_
   refine TW.ld rfl hcell ?_
   refine rnT ?_
   refine TW.ld rfl (hrow.getI hx) ?_
   refine rnT ?_
   refine CW.pk [0,3,4,34] rfl ?_
   refine CW.cond rfl (fun hbad=> ?_) (fun hgood=> ?_)
   ·refine rnT ?_
    refine rt1 rfl ⟨Below.refl _ _,?_⟩
    rw [dec_neg]
    intro h
    have:=(h.rowOK hr).diag
    rw [hx] at this
    simp [hlen] at hbad
    exact hbad (by simpa using this)
   have hx0:x=0:=by simpa [hlen] using hgood
   refine rnT ?_
   refine CW.lp [0,3,4] (fun j:Nat=> [(5,none,.int .i64 (j:Int))])
    (fun j W'=>j≤r.length∧W'=W∧ ∀(i:Nat) (y:Int),i<j→r[i]?=some y→ -1≤y∧y≤1000000) (fun j=>r.length-j) 0 ⟨by omega,rfl,fun i y hi=>by omega⟩ ?_
   rintro j W' ⟨hj,rfl,hrng⟩
   refine rnT ?_
   refine CW.condP rfl (fun hlt2=> ?_) (fun hge2=> ?_)
   ·have hjl:j<r.length:=by omega
    obtain ⟨y,hy⟩: ∃y,r[j]?=some y:=⟨r[j],List.getElem?_eq_getElem hjl⟩
    refine rnT ?_
    refine TW.ld rfl hcell ?_
    refine rnT ?_
    refine TW.ld rfl (hrow.getI hy) ?_
    refine rnT ?_
    refine TW.ld rfl hcell ?_
    refine rnT ?_
    refine TW.ld rfl (hrow.getI hy) ?_
    refine rnT ?_
    refine CW.pk [0,3,4,5,57] rfl ?_
    refine CW.cond rfl (fun hbad2=> ?_) (fun hgood2=> ?_)
    ·refine rnT ?_
     refine rt1 rfl ⟨Below.refl _ _,?_⟩
     rw [dec_neg]
     intro h
     have:=(h.rowOK hr).rng j y hy
     simp at hbad2
     omega
    refine rnT ?_
    refine KW.rd (j+1) ⟨by omega,rfl,fun i z hi hz=> ?_⟩
    rcases Nat.lt_or_ge i j with h|h
    ·exact hrng i z h hz
    ·obtain rfl:i=j:=by omega
     rw [hy] at hz; cases hz
     simp at hgood2
     omega
   ·refine rnT ?_
    refine KW.rd (k+1) ⟨by omega,rfl,fun i r' hi hr'=> ?_⟩
    rcases Nat.lt_or_ge i k with h|h
    ·exact hrows i r' h hr'
    ·obtain rfl:i=k:=by omega
     rw [hr] at hr'; cases hr'
     exact ⟨hlen,by rw [hx,hx0],fun j y hy=>hrng j y (by have:=(List.getElem?_eq_some_iff.1 hy).1; omega) hy⟩
  ·skip
   refine rnT ?_
   refine TW.ld rfl hcell ?_
   refine TW.v V.lenSlice rfl ⟨ct,trivial⟩ (fun _=>trivial) ?_
   refine TW.v V.move rfl ⟨ct,trivial⟩ (fun _=>trivial) ?_
   refine TW.v V.neq rfl ⟨ct,ct,trivial⟩ (fun _=>trivial) ?_
   refine TW.v V.move rfl ⟨ct,trivial⟩ (fun _=>trivial) ?_
   refine TW.dead (.bool false) rfl (by simp [Cnd]; omega) rfl ?_
   refine TW.dead (.bool false) rfl (by simp [Cnd]; omega) rfl ?_
   refine TW.dead (.bool false) rfl (by simp [Cnd]; omega) rfl ?_
   refine TW.dead (.bool false) rfl (by simp [Cnd]; omega) rfl ?_
   refine TW.dead (.bool false) rfl (by simp [Cnd]; omega) rfl ?_
   refine TW.dead (.bool false) rfl (by simp [Cnd]; omega) rfl ?_
   refine TW.dead (.bool false) rfl (by simp [Cnd]; omega) rfl ?_
   refine TW.dead (.bool false) rfl (by simp [Cnd]; omega) rfl ?_
   refine rnT ?_
   refine CW.pk [0,3,4,34] rfl ?_
   refine CW.cond rfl (fun hbad=> ?_) (fun hgood=> ?_)
   ·refine rnT ?_
    refine rt1 rfl ⟨Below.refl _ _,by rw [dec_neg (fun h=>hlen (h.rowOK hr).len)]⟩
   exfalso
   simp at hgood
   omega
 ·have hrows': ∀(i:Nat) (r:List Int),d[i]?=some r→RowOK d i r:=fun i r hr=>hrows i r (by have:=(List.getElem?_eq_some_iff.1 hr).1; omega) hr
  have hall: ∀i,i<d.length→ ∃r,d[i]?=some r∧r.length=d.length:=fun i hi=>⟨d[i],List.getElem?_eq_getElem hi,(hrows' i _ (List.getElem?_eq_getElem hi)).len⟩
  refine rnT ?_
  refine CW.lp [0,3] (fun i:Nat=> [(6,none,.int .i64 (i:Int))])
   (fun i W'=>i≤d.length∧Below W.heap.size W W'∧ ∀a b c,a<i→b<d.length→c<d.length→Tri d a b c) (fun i=>d.length-i) 0 ⟨by omega,Below.refl _ _,fun a b c ha=>by omega⟩ ?_
  rintro i W' ⟨hi,hB1,htri⟩
  refine rnT ?_
  refine CW.condP rfl (fun hlt1=> ?_) (fun hge1=> ?_)
  ·have hil:i<d.length:=by omega
   obtain ⟨r,hr,hrl⟩:=hall i hil
   obtain ⟨ad,rfl⟩:=hd.addr (by omega)
   refine rnT ?_
   refine CW.lp [0,3,6] (fun j:Nat=> [(7,none,.int .i64 (j:Int))])
    (fun j W2=>j≤d.length∧Below W.heap.size W W2∧ ∀b c,b<d.length→c<j→Tri d i b c) (fun j=>d.length-j) 0 ⟨by omega,hB1,fun b c _ hb=>by omega⟩ ?_
   rintro j W2 ⟨hj2,hB2,htri2⟩
   refine rnT ?_
   refine CW.condP rfl (fun hlt2=> ?_) (fun hge2=> ?_)
   ·have hjl:j<d.length:=by omega
    obtain ⟨z,hz⟩: ∃z,r[j]?=some z:=⟨r[j]'(by omega),List.getElem?_eq_getElem (by omega)⟩
    have hza:=at2_eq hr hz
    refine rnT ?_
    refine CW.lp [0,3,6,7] (fun k:Nat=> [(8,none,.int .i64 (k:Int))])
     (fun k W3=>k≤d.length∧Below W.heap.size W W3∧ ∀b,b<k→Tri d i b j) (fun k=>d.length-k) 0 ⟨by omega,hB2,fun c hc=>by omega⟩ ?_
    rintro k W3 ⟨hk3,hB3,htri3⟩
    refine rnT ?_
    refine CW.condP rfl (fun hlt3=> ?_) (fun hge3=> ?_)
    ·have hkl:k<d.length:=by omega
     obtain ⟨x,hx⟩: ∃x,r[k]?=some x:=⟨r[k]'(by omega),List.getElem?_eq_getElem (by omega)⟩
     have hxa:=at2_eq hr hx
     obtain ⟨r2,hr2,hr2l⟩:=hall k hkl
     have hd3:=sd_step hd hB3
     obtain ⟨rv,hcell,hrow⟩:=hd3.row hr
     obtain ⟨B,rcap,rfl,_⟩:=hrow.form
     obtain ⟨bd,rfl⟩:=hrow.addr (by omega)
     obtain ⟨rv2,hcell2,hrow2⟩:=hd3.row hr2
     obtain ⟨B2,rcap2,rfl,_⟩:=hrow2.form
     obtain ⟨bd2,rfl⟩:=hrow2.addr (by omega)
     have hxr:=(hrows' i r hr).rng k x hx
     obtain ⟨y,hy⟩: ∃y,r2[j]?=some y:=⟨r2[j]'(by omega),List.getElem?_eq_getElem (by omega)⟩
     have hya:=at2_eq hr2 hy
     have hyr:=(hrows' k r2 hr2).rng j y hy
     have hzr:=(hrows' i r hr).rng j z hz
     refine rnT ?_
     refine CW.draw mixed (by kernel_rfl) ?_
     refine rnD ?_
     refine DW.ld rfl hcell ?_
     refine rnD ?_
     refine DW.ld rfl (hrow.getI hx) ?_
     refine rnD ?_
     refine DW.ld rfl hcell2 ?_
     refine rnD ?_
     refine DW.ld rfl (hrow2.getI hy) ?_
     refine rnD ?_
     refine DW.ld rfl hcell ?_
     refine rnD ?_
     refine DW.ld rfl (hrow.getI hz) ?_
     refine rnD ?_
     refine DW.ld rfl hcell ?_
     refine rnD ?_
     refine DW.ld rfl (hrow.getI hz) ?_
     refine rnD ?_
     refine DW.ld rfl hcell ?_
     refine rnD ?_
     refine DW.ld rfl (hrow.getI hx) ?_
     refine rnD ?_
     refine DW.ld rfl hcell2 ?_
     refine rnD ?_
     refine DW.ld rfl (hrow2.getI hy) ?_
     refine rnD ?_
     refine DW.fi [0,3,6,7,8,125] rfl fun W4 hb4=> ?_
     refine KW.then_ ?_
     have hB4:=hB3.trans (hb4.mono hB3.size)
     refine CW.cond rfl (fun hbad=> ?_) (fun hgood=> ?_)
     ·refine rnT ?_
      refine rt1 rfl ⟨hB4,?_⟩
      rw [dec_neg]
      intro h
      have ht:=h.tri i k j hil hkl hjl
      rw [hxa,hya,hza] at ht
      simp at hbad
      have:=ht (by omega) (by omega)
      omega
     refine rnT ?_
     refine KW.rd (k+1) ⟨by omega,hB4,fun b hb=> ?_⟩
     rcases Nat.lt_or_ge b k with h|h
     ·exact htri3 b h
     ·obtain rfl:b=k:=by omega
      intro q1 q2
      rw [hxa] at q1
      rw [hya] at q2
      rw [hxa,hya,hza]
      have e1:0≤x:=by omega
      have e2:0≤y:=by omega
      simp [e1,e2] at hgood
      omega
    ·refine rnT ?_
     refine KW.rd (j+1) ⟨by omega,hB3,fun b c hb hc=> ?_⟩
     rcases Nat.lt_or_ge c j with h|h
     ·exact htri2 b c hb h
     ·obtain rfl:c=j:=by omega
      exact htri3 b (by omega)
   ·refine rnT ?_
    refine KW.rd (i+1) ⟨by omega,hB2,fun a b c ha hb hc=> ?_⟩
    rcases Nat.lt_or_ge a i with h|h
    ·exact htri a b c h hb hc
    ·obtain rfl:a=i:=by omega
     exact htri2 b c hb (by omega)
  ·refine rnT ?_
   refine rt1 rfl ⟨hB1,by rw [dec_pos (wfd_of h12 hrows' (fun a b c ha hb hc=>htri a b c (by omega) hb hc))]⟩
end Go.Proofs.YtffjgpoadfkjlaaGreatDoor
namespace Go.PF
open Go.RowKit Go.Ord
def evT:Ty Ev where
 n:=4
 rep:=fun F w cs e=> ∃v,cs= [.int .i64 e.office,.int .i64 e.low,.int .i64 e.high,v]∧I64 e.office∧I64 e.low∧I64 e.high∧SL intT F w v e.needs
 len:=fun _ _ _ _ h=>by obtain ⟨v,h,_⟩:=h; rw [h]; rfl
 mono:=fun _ _ _ _ _ hk h=>by obtain ⟨v,h,h1,h2,h3,hs⟩:=h; exact ⟨v,h,h1,h2,h3,hs.mono hk⟩
 wider:=fun _ _ _ _ _ hF h=>by obtain ⟨v,h,h1,h2,h3,hs⟩:=h; exact ⟨v,h,h1,h2,h3,hs.wider hF⟩
theorem evT_now:Ty.Now evT:=⟨by decide,fun F w cs e ⟨v,h,h1,h2,h3,hs⟩=>⟨v,h,h1,h2,h3,hs.now intT_now⟩⟩
abbrev SE (w:World) (v:Value) (l:List Ev):Prop:=SL evT (fun k=>k<w.heap.size) w v l
theorem se_step {w w':World} {v:Value} {l:List Ev} (h:SE w v l) (hb:Below w.heap.size w w'):SE w' v l:=h.step evT_now hb
theorem SE.get {F:Nat→Prop} {w:World} {ad:Addr} {n cap:Nat} {l:List Ev} (h:SL evT F w (.slice (some ad) n cap) l) {i:Nat} {e:Ev} (hx:l[i]?=some e) :
  ∃ v,(∀j u,[Value.int .i64 e.office,.int .i64 e.low,.int .i64 e.high,v][j]?=some u→w.cell? ((ad.add ((i:Int).toNat*4)).add j)=some u)∧I64 e.office∧I64 e.low∧I64 e.high∧SL intT F w v e.needs:=by
 obtain ⟨ad',cs,h1,_,⟨v,rfl,g1,g2,g3,hs⟩,hc⟩:=h.at hx
 cases h1
 exact ⟨v,hc,g1,g2,g3,hs⟩
theorem Blk.sub {w:World} {g:Nat} {t:TypeId} {cs:List Value} (h:Blk w g t cs) (k:Nat) (ds:List Value) (hk:cs.drop k=ds): ∀j v,ds[j]?=some v→w.cell? ((Addr.add ⟨g,0,none⟩ k).add j)=some v:=fun j v hj=>by
 rw [Addr.add_add]
 refine h.fld ?_
 rw [←hk,List.getElem?_drop] at hj
 exact hj
def EvV (F:Nat→Prop) (w:World) (cs:List Value) (e:Ev):Prop:=evT.rep F w cs e
end Go.PF
namespace Go.Proofs.YtffjgpoadfkjlaaGreatDoor
open Go.PF Go.RowKit Go.Ord
attribute [local irreducible] TW CW KW DW
structure WfE (d:Dist) (l:List Ev):Prop where
 wd:WfD d
 few:l.length≤16
 each: ∀e∈l,EOK d e
theorem owell_c {w:World} {v u:Value} {d:Dist} {l:List Ev} (hd:SD w v d) (hl:SE w u l):Gives Tryz.prog 20 #[v,u,.slice none 0 0] w fun x w'=>Below w.heap.size w w'∧x= .bool (dec (WfE d l)):=by
 obtain ⟨A,cap,rfl,hcap⟩:=hd.form
 obtain ⟨B,lcap,rfl,hlcap⟩:=hl.form
 have hmax:d.length≤9223372036854775807:=hd.len.2.2
 have hlmax:l.length≤9223372036854775807:=hl.len.2.2
 refine gv (f:=20) ?_
 refine rnT ?_
 refine TW.box rfl rfl rfl rfl ?_
 rintro g w1 f1
 refine rnT ?_
 refine TW.cl rfl (distances_c (sd_step hd f1.below)) ?_
 rintro v2 w2 ⟨hb2,rfl⟩
 have hB2:Below w.heap.size w w2:=f1.below.step hb2
 have hblk:=f1.blk.next hb2
 refine rnT ?_
 refine TW.ld rfl (hblk.cell 0) ?_
 refine rnT ?_
 refine CW.cond rfl (fun hbad=> ?_) (fun hgood=> ?_)
 ·refine rnT ?_
  refine rt1 rfl ⟨hB2,?_⟩
  rw [dec_neg]
  intro h
  simp [dec_pos h.wd] at hbad
  have:=h.few
  omega
 have hwd:WfD d:=dec_iff.1 (by cases hq:dec (WfD d)<;>simp_all)
 have hfew:l.length≤16:=by
  simp [dec_pos hwd] at hgood
  omega
 refine rnT ?_
 refine TW.ld rfl (hblk.cell 0) ?_
 refine rnT ?_
 refine CW.lp [0,1,2,4,6,21,22] (fun k:Nat=> [(23,none,.int .i64 (k:Int))])
  (fun k W=>k≤l.length∧Below w.heap.size w W∧Blk W g 31 [.slice B l.length lcap]∧ ∀(i:Nat) (e:Ev),i<k→l[i]?=some e→EOK d e) (fun k=>l.length-k) 0 ⟨by omega,hB2,hblk,fun i e hi=>by omega⟩ ?_
 rintro k W ⟨hk,hB3,hblk3,heach⟩
 refine rnT ?_
 refine CW.condP rfl (fun hlt=> ?_) (fun hge=> ?_)
 ·have hkl:k<l.length:=by omega
  obtain ⟨e,he⟩: ∃e,l[k]?=some e:=⟨l[k],List.getElem?_eq_getElem hkl⟩
  have hl3:=se_step hl hB3
  obtain ⟨ad,rfl⟩:=hl3.addr (by omega)
  obtain ⟨nv,hcells,i1,i2,i3,hneeds⟩:=SE.get hl3 he
  obtain ⟨C,ncap,rfl,_⟩:=hneeds.form
  refine rnT ?_
  refine TW.ldS rfl (hcells) ?_
  refine TW.newVar rfl zc39 rfl sz39 rfl rfl ?_
  rintro g4 w4 f4
  refine rnT ?_
  refine TW.ld rfl (f4.blk.fld rfl) ?_
  refine rnT ?_
  refine TW.ld rfl (f4.blk.fld rfl) ?_
  refine rnT ?_
  refine CW.pk [0,1,2,4,6,8,21,22,23,36] rfl ?_
  refine CW.cond rfl (fun hbad2=> ?_) (fun hgood2=> ?_)
  ·refine rnT ?_
   refine rt1 rfl ⟨hB3.step f4.below,?_⟩
   rw [dec_neg]
   intro h
   have h1:=h.each e (List.mem_of_getElem? he)
   have:=h1.o1
   have:=h1.o2
   simp at hbad2
   omega
  refine rnT ?_
  refine KW.rd (k+1) ⟨by omega,hB3.step f4.below,hblk3.next f4.below,fun i e' hi he'=> ?_⟩
  rcases Nat.lt_or_ge i k with h|h
  ·exact heach i e' h he'
  ·obtain rfl:i=k:=by omega
   rw [he] at he'; cases he'
   simp at hgood2
   exact ⟨by omega,by omega⟩
 ·have hok:WfE d l:=⟨hwd,hfew,fun e he=>by
   obtain ⟨i,hi,he'⟩:=List.getElem_of_mem he
   exact heach i e (by omega) (by rw [List.getElem?_eq_getElem hi,he'])⟩
  refine rnT ?_
  refine TW.ld rfl (hblk3.cell 0) ?_
  refine rnT ?_
  refine TW.makeSlice rfl rfl (zero1_of go92 ze4 rfl) rfl rfl (by omega) (by omega) ?_
  rintro g5 w5 f5
  refine TW.newVar1 rfl zc92 rfl sz92 rfl ?_
  rintro g6 w6 f6
  refine rnT ?_
  refine TW.makeFunc rfl rfl (Args.cons rfl ct (Args.cons rfl ct Args.nil)) ?_
  refine rnT ?_
  have hB6:=(hB3.step f5.below).step f6.below
  refine CW.loopS (fun _:Unit=> [(43,none,.int .i64 ((0:Nat):Int)),(44,none,.int .i64 0)])
   (fun _ W'=>W'=w6) (fun k=>0) () [43,44] rfl rfl ?_
  rintro _ W' rfl
  refine rnT ?_
  refine CW.pk [43,44,45] rfl ?_
  refine CW.condP rfl (fun hlt2=> ?_) (fun hge2=> ?_)
  ·exfalso
   omega
  ·refine rnT ?_
   refine rt1 rfl ⟨hB6,by rw [dec_pos hok]⟩
end Go.Proofs.YtffjgpoadfkjlaaGreatDoor
