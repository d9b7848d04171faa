/- Texts of this claim,joined. -/
import Derived.Test.YtffjgpoadfkjlaaGreatDoorQM
set_option linter.unusedSimpArgs false
set_option linter.unusedVariables false
set_option maxRecDepth 100000
set_option maxHeartbeats 4000000
namespace Go.Ord
variable {d:Dist}
def pc:Nat→Nat
 | 0=>0
 | n+1=>(n+1)%2+pc ((n+1) / 2)
decreasing_by omega
theorem pc_eq (n:Nat):pc n=n%2+pc (n / 2):=by
 cases n with
 | zero=>simp [pc]
 | succ n=>rw [pc]
theorem left_consU (u:U) (us:List U) (m:Nat):left (u::us) m=(if m.testBit 0 then [] else [u])++left us (m / 2):=by
 unfold left
 rw [List.length_cons,List.range_succ_eq_map,List.filterMap_cons,List.filterMap_map]
 have e:((fun i=>if m.testBit i=true then none else (u::us)[i]?) ∘ Nat.succ)=fun i=>if (m / 2).testBit i=true then none else us[i]?:=by
  funext i
  simp [Function.comp,Nat.testBit_succ]
 rw [e]
 by_cases h:m.testBit 0=true
 ·simp [h]
 ·simp [h]
theorem pc_left: ∀(us:List U) (m:Nat),m<2 ^ us.length→pc m+(left us m).length=us.length
 | [],m,h=>by
  simp at h
  subst h
  simp [pc,left]
 | u::us,m,h=>by
  have h2:m / 2<2 ^ us.length:=by
   rw [List.length_cons,Nat.pow_succ] at h
   omega
  have ih:=pc_left us (m / 2) h2
  rw [left_consU,pc_eq,List.length_append,List.length_cons]
  by_cases hb:m.testBit 0=true
  ·have:m%2=1:=by rw [Nat.testBit_zero] at hb; simpa using hb
   simp [hb]
   omega
  ·have:m%2=0:=by
    rw [Nat.testBit_zero] at hb
    have:=Nat.mod_two_eq_zero_or_one m
    simp at hb
    omega
   simp [hb]
   omega
structure RS where
 time:Int
 last:Nat
 set:Nat
 frm:Int
def stOf (us:List U) (s:RS):St:=match us[s.last]? with
 | some u=>(some u.exit,s.time+u.span)
 | none=>(none,0)
structure RSOK (d:Dist) (us:List U) (s:RS):Prop where
 last:s.last<us.length
 bits:s.set<2 ^ us.length
 way:Way d us s.set (stOf us s) (pc s.set)
 t0:0≤s.time
 t1:s.time≤1000000
 f1: -1≤s.frm
structure DP (d:Dist) (us:List U) (r b:Nat) (L:List RS):Prop where
 each: ∀s∈L,RSOK d us s
 key:L.Pairwise fun a c=> ¬(a.set=c.set∧a.last=c.last)
 lo: ∀(i:Nat) s,L[i]?=some s→i<b→pc s.set≤r
 hi: ∀(i:Nat) s,L[i]?=some s→b≤i→pc s.set=r+1
 back: ∀(i:Nat) s,L[i]?=some s→s.frm<i
def Lat (b:Nat) (L L':List RS):Prop:=b≤L.length∧L'.take b=L.take b∧ ∀s∈L,∃s'∈L',s'.set=s.set∧s'.last=s.last∧s'.time≤s.time
theorem Lat.refl {b:Nat} {L:List RS} (h:b≤L.length):Lat b L L:=⟨h,rfl,fun s hs=>⟨s,hs,rfl,rfl,Int.le_refl _⟩⟩
theorem Lat.trans {b:Nat} {L L' L'':List RS} (h:Lat b L L') (h':Lat b L' L''):Lat b L L'':=by
 refine ⟨h.1,h'.2.1.trans h.2.1,fun s hs=> ?_⟩
 obtain ⟨s',h1,h2,h3,h4⟩:=h.2.2 s hs
 obtain ⟨s'',k1,k2,k3,k4⟩:=h'.2.2 s' h1
 exact ⟨s'',k1,k2.trans h2,k3.trans h3,Int.le_trans k4 h4⟩
def Has (L:List RS) (set last:Nat) (t:Int):Prop:= ∃s∈L,s.set=set∧s.last=last∧s.time≤t
theorem DP.app {us:List U} {r b:Nat} {L:List RS} (h:DP d us r b L) {n:RS} (hn:RSOK d us n) (hr:pc n.set=r+1) (hf:n.frm<b) (hb:b≤L.length) (hno: ∀(i:Nat) s,L[i]?=some s→b≤i→ ¬(s.set=n.set∧s.last=n.last)):DP d us r b (L++ [n])∧Lat b L (L++ [n]):=by
 have hat: ∀(i:Nat) s,(L++ [n])[i]?=some s→L[i]?=some s∨(i=L.length∧s=n):=fun i s hs=>by
  rcases Nat.lt_trichotomy i L.length with hi|hi|hi
  ·rw [List.getElem?_append_left hi] at hs; exact .inl hs
  ·subst hi; simp at hs; exact .inr ⟨rfl,hs.symm⟩
  ·rw [List.getElem?_eq_none (by simp; omega)] at hs; cases hs
 refine ⟨⟨fun s hs=> ?_,?_,fun i s hs hi=> ?_,fun i s hs hi=> ?_,fun i s hs=> ?_⟩,hb,by rw [List.take_append_of_le_length hb],fun s hs=>⟨s,List.mem_append_left _ hs,rfl,rfl,Int.le_refl _⟩⟩
 ·rcases List.mem_append.1 hs with hs|hs
  ·exact h.each s hs
  ·rw [List.mem_singleton] at hs; subst hs; exact hn
 ·refine List.pairwise_append.2 ⟨h.key,List.pairwise_singleton _ _,fun a ha c hc=> ?_⟩
  rw [List.mem_singleton] at hc
  subst hc
  obtain ⟨i,hi⟩:=List.mem_iff_getElem?.1 ha
  by_cases hib:i<b
  ·rintro ⟨e,_⟩
   have:=h.lo i a hi hib
   rw [e] at this
   omega
  ·exact hno i a hi (by omega)
 ·rcases hat i s hs with hs|⟨rfl,rfl⟩
  ·exact h.lo i s hs hi
  ·omega
 ·rcases hat i s hs with hs|⟨rfl,rfl⟩
  ·exact h.hi i s hs hi
  ·exact hr
 ·rcases hat i s hs with hs|⟨rfl,rfl⟩
  ·exact h.back i s hs
  ·omega
theorem DP.set {us:List U} {r b:Nat} {L:List RS} (h:DP d us r b L) {n o:RS} {k:Nat} (hk:L[k]?=some o) (hkb:b≤k) (hn:RSOK d us n) (hf:n.frm<b) (hb:b≤L.length) (h1:o.set=n.set) (h2:o.last=n.last) (ht:n.time≤o.time):DP d us r b (L.set k n)∧Lat b L (L.set k n):=by
 have hkl:=(List.getElem?_eq_some_iff.1 hk).1
 have hke:=(List.getElem?_eq_some_iff.1 hk).2
 have hat: ∀(i:Nat) s,(L.set k n)[i]?=some s→(i≠k∧L[i]?=some s)∨(i=k∧s=n):=fun i s hs=>by
  by_cases hik:k=i
  ·subst hik
   rw [List.getElem?_set_self hkl] at hs
   exact .inr ⟨rfl,by cases hs; rfl⟩
  ·rw [List.getElem?_set_ne hik] at hs
   exact .inl ⟨fun e=>hik e.symm,hs⟩
 have hpc:=h.hi k o hk hkb
 refine ⟨⟨fun s hs=> ?_,?_,fun i s hs hi=> ?_,fun i s hs hi=> ?_,fun i s hs=> ?_⟩,hb,?_,fun s hs=> ?_⟩
 ·rcases List.mem_or_eq_of_mem_set hs with hs|hs
  ·exact h.each s hs
  ·subst hs; exact hn
 ·rw [List.pairwise_iff_getElem]
  intro i j hi hj hij
  have hi':=List.getElem?_eq_getElem hi
  have hj':=List.getElem?_eq_getElem hj
  have key: ∀x y,L[i]?=some x→L[j]?=some y→ ¬(x.set=y.set∧x.last=y.last):=fun x y hx hy=>by
   obtain ⟨hx1,hx2⟩:=List.getElem?_eq_some_iff.1 hx
   obtain ⟨hy1,hy2⟩:=List.getElem?_eq_some_iff.1 hy
   have:=List.pairwise_iff_getElem.1 h.key i j hx1 hy1 hij
   rw [hx2,hy2] at this
   exact this
  rcases hat i _ hi' with ⟨_,hx⟩|⟨rfl,hx⟩<;>rcases hat j _ hj' with ⟨_,hy⟩|⟨rfl,hy⟩
  ·exact key _ _ hx hy
  ·rw [hy,←h1,←h2]; exact key _ _ hx hk
  ·rw [hx,←h1,←h2]; exact key _ _ hk hy
  ·omega
 ·rcases hat i s hs with ⟨_,hs⟩|⟨rfl,rfl⟩
  ·exact h.lo i s hs hi
  ·omega
 ·rcases hat i s hs with ⟨_,hs⟩|⟨rfl,rfl⟩
  ·exact h.hi i s hs hi
  ·rw [←h1]; exact hpc
 ·rcases hat i s hs with ⟨_,hs⟩|⟨rfl,rfl⟩
  ·exact h.back i s hs
  ·omega
 ·exact List.take_set_of_le hkb
 ·obtain ⟨i,hi⟩:=List.mem_iff_getElem?.1 hs
  by_cases hik:k=i
  ·subst hik
   rw [hk] at hi
   cases hi
   exact ⟨n,List.mem_iff_getElem?.2 ⟨k,List.getElem?_set_self hkl⟩,h1.symm,h2.symm,ht⟩
  ·exact ⟨s,List.mem_iff_getElem?.2 ⟨i,by rw [List.getElem?_set_ne hik]; exact hi⟩,rfl,rfl,Int.le_refl _⟩
theorem stOf_eq {us:List U} {s:RS} {u:U} (h:us[s.last]?=some u):stOf us s=(some u.exit,s.time+u.span):=by
 unfold stOf
 rw [h]
theorem pc_or {us:List U} {m i:Nat} (hi:i<us.length) (hm:m<2 ^ us.length) (h:m.testBit i=false):pc (m ||| 1 <<< i)=pc m+1∧m ||| 1 <<< i<2 ^ us.length:=by
 have h1:=pc_left us m hm
 have hlt:m ||| 1 <<< i<2 ^ us.length:=Nat.or_lt_two_pow hm (by rw [Nat.one_shiftLeft]; exact Nat.pow_lt_pow_right (by decide) hi)
 have h2:=pc_left us _ hlt
 have h3:=(left_cons (m:=m) h (List.getElem?_eq_getElem hi)).length_eq
 rw [List.length_cons] at h3
 exact ⟨by omega,hlt⟩
theorem RSOK.next {us:List U} (hw: ∀u∈us,0≤u.low∧u.low≤u.high∧u.high≤1000000) {s:RS} (h:RSOK d us s) {i:Nat} {u:U} (hu:us[i]?=some u) (hb:s.set.testBit i=false) (hc:CanB d (stOf us s) u) {k:Int} (hk: -1≤k) :
  RSOK d us ⟨beg d (stOf us s) u,i,s.set ||| 1 <<< i,k⟩∧pc (s.set ||| 1 <<< i)=pc s.set+1∧stOf us ⟨beg d (stOf us s) u,i,s.set ||| 1 <<< i,k⟩=nxt d (stOf us s) u:=by
 have hi:=(List.getElem?_eq_some_iff.1 hu).1
 obtain ⟨q1,q2⟩:=pc_or hi h.bits hb
 have e:stOf us ⟨beg d (stOf us s) u,i,s.set ||| 1 <<< i,k⟩=nxt d (stOf us s) u:=stOf_eq hu
 obtain ⟨w1,w2,w3⟩:=hw u (List.mem_of_getElem? hu)
 have hb1:beg d (stOf us s) u≤u.high:=by unfold beg; have:=hc.2; omega
 have hb0:u.low≤beg d (stOf us s) u:=by unfold beg; omega
 refine ⟨⟨hi,q2,?_,by show 0≤beg d (stOf us s) u; omega,by show beg d (stOf us s) u≤1000000; omega,hk⟩,q1,e⟩
 rw [e]
 show Way d us (s.set ||| 1 <<< i) (nxt d (stOf us s) u) (pc (s.set ||| 1 <<< i))
 rw [q1]
 exact h.way.step hu hb hc
def OpenP (d:Dist) (us:List U) (set:Nat) (s:St):Prop:= ∀(j:Nat) v,us[j]?=some v→set.testBit j=false→CanB d s v
def GoodR (d:Dist) (us:List U) (r:Nat) (L:List RS):Prop:= ∃s∈L,pc s.set=r∧Feas d (stOf us s) (left us s.set)
theorem DP.few {us:List U} {r b:Nat} {L:List RS} (h:DP d us r b L) (hu:us.length≤16):L.length≤1048576:=by
 have h1:(L.map fun s=>s.set*16+s.last).Nodup:=by
  rw [List.nodup_iff_pairwise_ne,List.pairwise_map]
  refine List.Pairwise.imp_of_mem ?_ h.key
  intro a c ha hc hk e
  have h1:=(h.each a ha).last
  have h2:=(h.each c hc).last
  apply hk
  omega
 have h2:=few_of_lt 1048576 _ h1 (fun x hx=>by
  obtain ⟨s,hs,rfl⟩:=List.mem_map.1 hx
  have h1:=(h.each s hs).last
  have h2:=(h.each s hs).bits
  have h3:2 ^ us.length≤2 ^ 16:=Nat.pow_le_pow_right (by decide) hu
  have h4:(2:Nat) ^ 16=65536:=by decide
  omega)
 simpa using h2
theorem DP.round {us:List U} {r b:Nat} {L:List RS} (h:DP d us r b L):DP d us (r+1) L.length L:=by
 refine ⟨h.each,h.key,fun i s hs hi=> ?_,fun i s hs hi=> ?_,h.back⟩
 ·by_cases hb:i<b
  ·have:=h.lo i s hs hb; omega
  ·exact Nat.le_of_eq (h.hi i s hs (by omega))
 ·have:=(List.getElem?_eq_some_iff.1 hs).1
  omega
def start1 (us:List U) (i:Nat):RS:=⟨((us[i]?).map (·.low)).getD 0,i,1 <<< i,-1⟩
def startL (us:List U) (k:Nat):List RS:=(List.range k).map (start1 us)
end Go.Ord
namespace Go.Proofs.YtffjgpoadfkjlaaGreatDoor
open Go.PF Go.RowKit Go.Ord
variable {d:Dist}
def Win (e:Ev) (t:Int):Prop:=0≤t∧t≤1000000∧e.low≤t∧t≤e.high
def Two (d:Dist) (l:List Ev) (ts:List Int) (j i:Nat):Prop:= ∀a s b t,l[j]?=some a→ts[j]?=some s→l[i]?=some b→ts[i]?=some t→Aft d (a,s) (b,t)∨Aft d (b,t) (a,s)
structure HoldsI (d:Dist) (l:List Ev) (ts:List Int):Prop where
 wf:WfE d l
 len:ts.length=l.length
 win: ∀(i:Nat) e t,l[i]?=some e→ts[i]?=some t→Win e t
 two: ∀j i,j<i→Two d l ts j i
theorem HoldsI.n {l:List Ev} {ts:List Int} (h:HoldsI d l ts):HoldsN d (l.zip ts):=by
 refine ⟨fun x hx=> ?_,List.pairwise_iff_getElem.2 fun i j hi hj hij=> ?_⟩
 ·obtain ⟨i,hi⟩:=List.mem_iff_getElem?.1 hx
  rw [List.getElem?_zip_eq_some] at hi
  exact h.win i _ _ hi.1 hi.2
 ·have hi':=List.getElem?_eq_getElem hi
  have hj':=List.getElem?_eq_getElem hj
  rw [List.getElem?_zip_eq_some] at hi' hj'
  exact h.two i j hij _ _ _ _ hi'.1 hi'.2 hj'.1 hj'.2
theorem Two.symm {d:Dist} {l:List Ev} {ts:List Int} {j i:Nat} (h:Two d l ts j i):Two d l ts i j:=fun a s b t h1 h2 h3 h4=>(h b t a s h3 h4 h1 h2).symm
def AftO (d:Dist) (a:Nat) (x:Int) (b:Nat) (y:Int):Prop:=at2 d a b≠ -1∧at2 d a b≤y-x
structure Nd where
 first:Int
 second:Int
 office:Int
 low:Int
 high:Int
 gap:Int
 endo:Int
def Nd.cells (x:Nd):List Value:= [.int .i64 x.first,.int .i64 x.second,.int .i64 x.office,.int .i64 x.low,.int .i64 x.high,.int .i64 x.gap,.int .i64 x.endo]
def Nd.u (x:Nd):U:=⟨x.low,x.high,x.gap,x.office.toNat,x.endo.toNat⟩
def ndT:Ty Nd where
 n:=7
 rep:=fun _ _ cs x=>cs=x.cells
 len:=fun _ _ _ _ h=>by rw [h]; rfl
 mono:=fun _ _ _ _ _ _ h=>h
 wider:=fun _ _ _ _ _ _ h=>h
def rsCells (s:RS):List Value:= [.int .i64 s.time,.int .i64 (s.last:Int),.int .i64 (s.set:Int),.int .i64 s.frm]
def rsT:Ty RS where
 n:=4
 rep:=fun _ _ cs x=>cs=rsCells x
 len:=fun _ _ _ _ h=>by rw [h]; rfl
 mono:=fun _ _ _ _ _ _ h=>h
 wider:=fun _ _ _ _ _ _ h=>h
structure NdOK (d:Dist) (m:Nat) (x:Nd):Prop where
 o0:0≤x.office
 e0:0≤x.endo
 g0:0≤x.gap
 g1:x.gap≤1000000
 w0:0≤x.low
 w1:x.low≤x.high
 w2:x.high≤1000000
 uok:UOK d x.u
 f0:0≤x.first
 f1:x.first<m
 s1:x.second<m
theorem NdOK.o1 {m:Nat} {x:Nd} (h:NdOK d m x):x.office.toNat<d.length:=h.uok.e1
theorem NdOK.e1 {m:Nat} {x:Nd} (h:NdOK d m x):x.endo.toNat<d.length:=h.uok.e2
abbrev usOf (ns:List Nd):List U:=ns.map Nd.u
end Go.Proofs.YtffjgpoadfkjlaaGreatDoor
namespace Go.Proofs.YtffjgpoadfkjlaaGreatDoor
open Go.PF Go.RowKit Go.Ord
attribute [local irreducible] TW CW KW DW
end Go.Proofs.YtffjgpoadfkjlaaGreatDoor
namespace Go.Proofs.YtffjgpoadfkjlaaGreatDoor
open Go.PF Go.RowKit Go.Ord
variable {W W':World} {b:Nat} {lv:Value} {rs:List (Value×List Int)}
structure Tab (W:World) (b:Nat) (lv:Value) (rs:List (Value×List Int)):Prop where
 own:OwnS W 37 1 lv rs.length (rs.map (·.1))
 lb: ∀g,lv.ownBlock=some g→b≤g
 row: ∀p∈rs,OwnS W 3 1 p.1 p.2.length (p.2.map (Value.int .i64))∧(∀x∈p.2,I64 x)∧ ∀g,p.1.ownBlock=some g→b≤g∧lv.ownBlock≠some g
 dis:rs.Pairwise fun p q=> ∀g,p.1.ownBlock=some g→q.1.ownBlock≠some g
theorem Tab.step (h:Tab W b lv rs) (hb:Below W.heap.size W W'):Tab W' b lv rs :=
 ⟨h.own.below hb,h.lb,fun p hp=>⟨(h.row p hp).1.below hb,(h.row p hp).2⟩,h.dis⟩
theorem Tab.sdF (h:Tab W b lv rs) (hs:rs.length≤1000) (hr: ∀p∈rs,p.2.length≤1000):SL (sliceT intT) (fun k=>b≤k∧k<W.heap.size) W lv (rs.map (·.2)):=by
 have key:SL (sliceT intT) (fun k=>b≤k∧k<W.heap.size) W lv ((rs.map fun p=>([p.1],p.2)).map (·.2)):=by
  refine OwnS.toSLp (T:=sliceT intT) (e:=37) (n:=rs.length) (rs.map fun p=>([p.1],p.2)) (fun q hq=> ?_) (by show 0<1; decide) ?_ (by simp) (fun g hg=>(⟨h.lb g hg,h.own.lt hg⟩:b≤g∧g<W.heap.size)) (by simp; omega)
  ·obtain ⟨p,hp,rfl⟩:=List.mem_map.1 hq
   obtain ⟨h1,h2,h3⟩:=h.row p hp
   exact ⟨p.1,rfl,OwnS.toInts h1 h2 (fun g hg=>(⟨(h3 g hg).1,h1.lt hg⟩:b≤g∧g<W.heap.size)) (by have:=hr p hp; show p.2.length≤_; omega)⟩
  ·have e:(rs.map fun p=>([p.1],p.2)).flatMap (·.1)=rs.map (·.1):=by
    clear h hs hr
    induction rs with
    | nil=>rfl
    | cons p rs ih=>simp only [List.map_cons,List.flatMap_cons,ih]; rfl
   rw [e]
   exact h.own
 rwa [List.map_map] at key
theorem Tab.sd (h:Tab W b lv rs) (hs:rs.length≤1000) (hr: ∀p∈rs,p.2.length≤1000):SD W lv (rs.map (·.2)):=(h.sdF hs hr).wider fun _ hk=>hk.2
theorem Tab.app {lv' rv:Value} {r:List Int} (h:Tab W b lv rs) (hO:OwnS W' 37 1 lv' (rs.length+1) (rs.map (·.1)++ [rv])) (hg:W.grownBy W' lv.ownBlock) (hn:lv'.ownBlock=lv.ownBlock∨lv'.ownBlock=some W.heap.size) (hb:b≤W.heap.size)
 (hr:OwnS W 3 1 rv r.length (r.map (Value.int .i64))) (hI: ∀x∈r,I64 x) (hrb: ∀g,rv.ownBlock=some g→b≤g∧lv.ownBlock≠some g) (hd: ∀p∈rs,∀g,p.1.ownBlock=some g→rv.ownBlock≠some g):Tab W' b lv' (rs++ [(rv,r)]):=by
 have out: ∀(v:Value) (n:Nat) (xs:List Value),OwnS W 3 1 v n xs→(∀g,v.ownBlock=some g→lv.ownBlock≠some g)→OwnS W' 3 1 v n xs∧ ∀g,v.ownBlock=some g→lv'.ownBlock≠some g:=by
  intro v n xs ho hne
  refine ⟨ho.kept fun g hg'=>hg.block g (ho.lt hg') (fun e=>hne g hg' e.symm),fun g hg' e=> ?_⟩
  rcases hn with h'|h'
  ·exact hne g hg' (by rw [←h']; exact e)
  ·rw [h'] at e; cases e; exact absurd (ho.lt hg') (Nat.lt_irrefl _)
 refine ⟨by simpa using hO,fun g hg'=> ?_,fun p hp=> ?_,?_⟩
 ·rcases hn with h'|h'
  ·exact h.lb g (by rw [←h']; exact hg')
  ·rw [h'] at hg'; cases hg'; exact hb
 ·rcases List.mem_append.1 hp with hp|hp
  ·obtain ⟨h1,h2,h3⟩:=h.row p hp
   obtain ⟨h4,h5⟩:=out _ _ _ h1 (fun g hg'=>(h3 g hg').2)
   exact ⟨h4,h2,fun g hg'=>⟨(h3 g hg').1,h5 g hg'⟩⟩
  ·rw [List.mem_singleton] at hp
   subst hp
   obtain ⟨h4,h5⟩:=out _ _ _ hr (fun g hg'=>(hrb g hg').2)
   exact ⟨h4,hI,fun g hg'=>⟨(hrb g hg').1,h5 g hg'⟩⟩
 ·refine List.pairwise_append.2 ⟨h.dis,List.pairwise_singleton _ _,fun p hp q hq=> ?_⟩
  rw [List.mem_singleton] at hq
  subst hq
  exact hd p hp
theorem Tab.set {W W':World} {b i:Nat} {lv rv:Value} {rs:List (Value×List Int)} {r r':List Int} {g:Nat} (h:Tab W b lv rs) (hi:rs[i]?=some (rv,r)) (hrv:rv.ownBlock=some g) (hb:But g W W') (hO:OwnS W' 3 1 rv r'.length (r'.map (Value.int .i64))) (hI: ∀x∈r',I64 x):Tab W' b lv (rs.set i (rv,r')):=by
 have hil:i<rs.length:=(List.getElem?_eq_some_iff.1 hi).1
 have hie:rs[i]=(rv,r):=(List.getElem?_eq_some_iff.1 hi).2
 have hm:=h.row (rv,r) (List.mem_of_getElem? hi)
 have hmap:(rs.set i (rv,r')).map (·.1)=rs.map (·.1):=by
  rw [List.map_set]
  apply List.ext_getElem?
  intro j
  rw [List.getElem?_set]
  split
  ·rename_i e
   subst e
   simp [hil,hie]
  ·rfl
 have hkeep: ∀k,k≠g→k<W.heap.size→W'.heap[k]?=W.heap[k]?:=fun k hk hlt=>hb.block k hlt (fun e=>hk (by cases e; rfl))
 refine ⟨by rw [hmap,List.length_set]; exact h.own.kept fun k hk=>hkeep k (fun e=>(hm.2.2 g hrv).2 (by rw [←e]; exact hk)) (h.own.lt hk),h.lb,fun p hp=> ?_,?_⟩
 ·obtain ⟨j,hj⟩:=List.mem_iff_getElem?.1 hp
  rw [List.getElem?_set] at hj
  by_cases hne:i=j
  ·subst hne
   simp [hil] at hj
   subst hj
   exact ⟨hO,hI,hm.2.2⟩
  ·rw [if_neg hne] at hj
   have hpm:=h.row p (List.mem_of_getElem? hj)
   refine ⟨hpm.1.kept fun k hk=>hkeep k (fun e=> ?_) (hpm.1.lt hk),hpm.2⟩
   subst e
   obtain ⟨hjl,hje⟩:=List.getElem?_eq_some_iff.1 hj
   rcases Nat.lt_or_gt_of_ne hne with hlt|hlt
   ·have:=List.pairwise_iff_getElem.1 h.dis i j hil hjl hlt
    rw [hie,hje] at this
    exact this k hrv hk
   ·have:=List.pairwise_iff_getElem.1 h.dis j i hjl hil hlt
    rw [hie,hje] at this
    exact this k hk hrv
 ·have h1:((rs.set i (rv,r')).map (·.1)).Pairwise fun p q=> ∀g,p.ownBlock=some g→q.ownBlock≠some g:=by
   rw [hmap,List.pairwise_map]
   exact h.dis
  rwa [List.pairwise_map] at h1
theorem Tab.nil {W:World} {b g:Nat} (hB:Blk W g 37 []) (hg:b≤g):Tab W b (.slice (some ⟨g,0,none⟩) 0 0) [] :=
 ⟨OwnS.of_blk hB rfl (by omega),(fun q hq=>by simp [Value.ownBlock] at hq; omega),(fun p hp=>by cases hp),List.Pairwise.nil⟩
theorem Tab.but {g:Nat} (h:Tab W b lv rs) (hb:But g W W') (h1:lv.ownBlock≠some g) (h2: ∀p∈rs,p.1.ownBlock≠some g):Tab W' b lv rs :=
 ⟨h.own.kept fun k hk=>hb.block k (h.own.lt hk) (fun e=>h1 (by rw [hk,e])),h.lb,fun p hp=>⟨(h.row p hp).1.kept fun k hk=>hb.block k ((h.row p hp).1.lt hk) (fun e=>h2 p hp (by rw [hk,e])),(h.row p hp).2⟩,h.dis⟩
theorem Tab.len (h:Tab W b lv rs):(rs.map (·.1)).length=rs.length:=List.length_map _
theorem Tab.put {i tg:Nat} {rv:Value} {r:List Int} (h:Tab W b lv rs) (hi:i<rs.length) (hlv:lv.ownBlock=some tg) (hb:But tg W W') (hO:OwnS W' 37 1 lv rs.length ((rs.map (·.1)).set i rv)) (hr:OwnS W' 3 1 rv r.length (r.map (Value.int .i64))) (hI: ∀x∈r,I64 x)
 (hrb: ∀g,rv.ownBlock=some g→b≤g∧lv.ownBlock≠some g) (hd: ∀p∈rs,∀g,p.1.ownBlock=some g→rv.ownBlock≠some g):Tab W' b lv (rs.set i (rv,r)):=by
 refine ⟨by rw [List.map_set,List.length_set]; exact hO,h.lb,fun p hp=> ?_,?_⟩
 ·rcases List.mem_or_eq_of_mem_set hp with hp|hp
  ·obtain ⟨h1,h2,h3⟩:=h.row p hp
   exact ⟨h1.kept fun k hk=>hb.block k (h1.lt hk) (fun e=>(h3 k hk).2 (by cases e; exact hlv)),h2,h3⟩
  ·subst hp
   exact ⟨hr,hI,hrb⟩
 ·rw [List.pairwise_iff_getElem]
  intro x y hx hy hxy
  have hx':x<rs.length:=by simpa using hx
  have hy':y<rs.length:=by simpa using hy
  rw [List.getElem_set,List.getElem_set]
  split
  ·rw [if_neg (by omega)]
   intro g hg e
   exact hd _ (List.getElem_mem hy') g e hg
  ·split
   ·intro g hg
    exact hd _ (List.getElem_mem hx') g hg
   ·exact List.pairwise_iff_getElem.1 h.dis x y hx' hy' hxy
theorem Tab.start {g n:Nat} (hB:Blk W g 37 (List.replicate n (.slice none 0 0))) (hg:b≤g) (hn:n≤9223372036854775807):Tab W b (.slice (some ⟨g,0,none⟩) n n) (List.replicate n (.slice none 0 0,[])):=by
 refine ⟨?_,(fun q hq=>by simp [Value.ownBlock] at hq; omega),(fun p hp=> ?_),?_⟩
 ·rw [List.length_replicate,List.map_replicate]
  exact OwnS.of_blk hB (by simp) hn
 ·rw [List.mem_replicate] at hp
  rw [hp.2]
  exact ⟨OwnS.nil _ _ _,(fun x hx=>by cases hx),(fun g hg=>by simp [Value.ownBlock] at hg)⟩
 ·rw [List.pairwise_iff_getElem]
  intro x y hx hy _
  simp [Value.ownBlock]
end Go.Proofs.YtffjgpoadfkjlaaGreatDoor
namespace Go.Proofs.YtffjgpoadfkjlaaGreatDoor
open Go.PF Go.RowKit Go.Ord
attribute [local irreducible] TW CW KW DW
variable {w:World} {M:Tab12} {n a:Nat} {s:ByteArray}
def rowG (M:Tab12) (n a:Nat):List Int:=(List.range n).map fun b=>g12 M a b
def distG (M:Tab12) (n:Nat):List (List Int):=(List.range n).map fun a=>rowG M n a
def rowT (M:Tab12) (n a j:Nat):List Int:=(List.range n).map fun b=>if b<j then g12 M a b else 0
theorem rowT_len (M:Tab12) (n a j:Nat):(rowT M n a j).length=n:=by simp [rowT]
theorem rowT_zero (M:Tab12) (n a:Nat):rowT M n a 0=List.replicate n 0:=by
 apply List.ext_getElem?
 intro i
 simp [rowT,List.getElem?_replicate]
 split
 ·rename_i h; simp [h]
 ·rename_i h; rw [List.getElem?_eq_none (by simpa using h)]; rfl
theorem rowT_all (M:Tab12) (n a:Nat):rowT M n a n=rowG M n a:=by
 unfold rowT rowG
 exact List.map_congr_left fun b hb=>by rw [if_pos (List.mem_range.1 hb)]
theorem rowT_succ {j:Nat} (hj:j<n):(rowT M n a j).set j (g12 M a j)=rowT M n a (j+1):=by
 apply List.ext_getElem?
 intro i
 rw [List.getElem?_set,rowT_len]
 by_cases h:j=i
 ·subst h
  simp [rowT,hj]
 ·rw [if_neg h]
  unfold rowT
  rw [List.getElem?_map,List.getElem?_map]
  rcases Nat.lt_or_ge i n with hi|hi
  ·rw [List.getElem?_range hi]
   simp only [Option.map_some]
   congr 1
   by_cases h':i<j
   ·rw [if_pos h',if_pos (by omega)]
   ·rw [if_neg h',if_neg (by omega)]
  ·rw [List.getElem?_eq_none (by simpa using hi)]; rfl
theorem rowT_rng {L:List Ln} {B:Int} (h:T12 L B M) (hB:B≤1000000000) {j:Nat} (hn:n≤12) (ha:a<12): ∀x∈rowT M n a j,I64 x:=by
 intro x hx
 obtain ⟨b,hb,rfl⟩:=List.mem_map.1 hx
 have hb':=List.mem_range.1 hb
 have:=h.rng a b ha (by omega)
 split
 ·exact ⟨by omega,by omega⟩
 ·exact ⟨by decide,by decide⟩
structure Rows12 (M:Tab12) (n a:Nat) (rs:List (Value×List Int)):Prop where
 len:rs.length=n
 at_: ∀i,i<a→(rs[i]?).map (·.2)=some (rowG M n i)
theorem Rows12.next {rs:List (Value×List Int)} (h:Rows12 M n a rs) (ha:a<n) (v:Value):Rows12 M n (a+1) (rs.set a (v,rowG M n a)):=by
 have hl:=h.len
 refine ⟨by rw [List.length_set]; exact hl,fun i hi=> ?_⟩
 rw [List.getElem?_set]
 by_cases e:a=i
 ·subst e
  rw [if_pos rfl,if_pos (by omega)]
  rfl
 ·rw [if_neg e]
  exact h.at_ i (by omega)
theorem Rows12.all {rs:List (Value×List Int)} (h:Rows12 M n n rs):rs.map (·.2)=distG M n:=by
 apply List.ext_getElem?
 intro i
 rw [List.getElem?_map]
 rcases Nat.lt_or_ge i n with hi|hi
 ·rw [h.at_ i hi]
  unfold distG
  rw [List.getElem?_map,List.getElem?_range hi]
  rfl
 ·rw [List.getElem?_eq_none (by have:=h.len; omega),List.getElem?_eq_none (by unfold distG; simpa using hi)]
  rfl
theorem dist_c {v:NV} {N:Net} (ht:Tabs w) (hN:NetAt w v N) (hc:ConsOK keys11 N):Gives Tryz.prog 10 #[.agg v.cells.toArray] w fun u w'=>Below w.heap.size w w'∧SD w' u (distG (relaxed12 (lnOf N)) N.offs.length):=by
 have hform:=NetIn.form hN
 obtain ⟨vc,vn,vo,vf,vl,vk⟩:=v
 obtain ⟨⟨A1,c1,e1⟩,⟨A2,c2,e2⟩,⟨A3,c3,e3⟩,⟨A4,c4,e4⟩,⟨A5,c5,e5⟩,⟨A6,c6,e6⟩⟩:=id hform
 dsimp only at e1 e2 e3 e4 e5 e6
 subst e1 e2 e3 e4 e5 e6
 have hL:=cons_ln12 hc
 have hn12:=hc.ln.2.1
 refine gv (f:=10) ?_
 refine rnT ?_
 refine TW.box rfl rfl rfl rfl ?_
 rintro g1 w1 f1
 refine rnT ?_
 have hB1:=f1.blk
 have hN1:=net_step hN f1.below
 refine TW.ldS rfl (fun _ _ hv=>hB1.fld hv) ?_
 refine TW.cl rfl (incon_c (v:=⟨.slice A1 N.cals.length c1,.slice A2 N.names.length c2,.slice A3 N.ops.length c3,.slice A4 N.offs.length c4,.slice A5 N.lines.length c5,.slice A6 N.classes.length c6⟩) (ht.below f1.below) hN1) ?_
 rintro y2 w2 ⟨d2,n,hR,hn,hiff⟩
 obtain ⟨Y,yc,rfl⟩:=FRow.form hR
 have b2:=f1.below.step d2
 have hB2:=hB1.next d2
 have hn0:n=0:=hiff.2 hc
 subst hn0
 refine rnT ?_
 refine CW.condP rfl (fun hbad=> ?_) (fun hgood=> ?_)
 ·exact absurd hbad (by simp)
 obtain ⟨rel,hrel⟩: ∃r,r=relaxed12 (lnOf N):=⟨_,rfl⟩
 have hok:=(relaxed12_ok hL).1
 rw [←hrel] at hok ⊢
 have hlen:=tabV_len hok.len
 refine rnT ?_
 refine TW.ldS rfl (fun _ _ hv=>hB2.fld hv) ?_
 refine TW.cl rfl (relaxed_c (v:=⟨.slice A1 N.cals.length c1,.slice A2 N.names.length c2,.slice A3 N.ops.length c3,.slice A4 N.offs.length c4,.slice A5 N.lines.length c5,.slice A6 N.classes.length c6⟩) (net_step hN1 d2) hL (cons_nat hc)) ?_
 rintro y3 w3 ⟨d3,rfl⟩
 rw [←hrel]
 refine TW.newVar rfl zc100 rfl (hlen ▸ sz100) (by rw [hlen]; rfl) (tabV_one _) ?_
 rintro g4 w4 f4
 refine rnT ?_
 have hB4:=(hB2.next d3).next f4.below
 have b4:=(b2.step d3).step f4.below
 refine TW.ld rfl (hB4.fld rfl) ?_
 refine rnT ?_
 refine TW.makeSlice rfl rfl (zero1_of go30 ze37 rfl) rfl rfl (by omega) (by omega) ?_
 rintro g5 w5 f5
 refine rnT ?_
 have hT4:=f4.blk.next f5.below
 have hB5:=hB4.next f5.below
 have b5:=b4.step f5.below
 have hw05:=b4.size
 have hat5:=f5.at_
 have hD5:Tab w5 w4.heap.size (.slice (some ⟨g5,0,none⟩) N.offs.length N.offs.length) (List.replicate N.offs.length (.slice none 0 0,[])):=Tab.start f5.blk (by omega) (by omega)
 refine CW.lp [1,3,4,18] (fun x:Nat×List (Value×List Int)=> [(19,none,.int .i64 (x.1:Int))])
  (fun x W=>x.1≤N.offs.length∧Below w4.heap.size w4 W∧Tab W w4.heap.size (.slice (some ⟨g5,0,none⟩) N.offs.length N.offs.length) x.2∧Rows12 rel N.offs.length x.1 x.2) (fun x=>N.offs.length-x.1) (0,List.replicate N.offs.length (.slice none 0 0,[])) ⟨Nat.zero_le _,f5.below,hD5,⟨List.length_replicate,fun i hi=>by omega⟩⟩ ?_
 rintro ⟨a,rs⟩ W ⟨ha,hW,hD,hRs⟩
 dsimp only at ha hD hRs
 have hBW:=hB4.next hW
 have hlrs:=hRs.len
 have hbs:=hW.size
 refine rnT ?_
 refine CW.pk [1,3,4,18,19,20] rfl ?_
 refine CW.condP rfl (fun hlt=> ?_) (fun hge=> ?_)
 ·refine rnT ?_
  refine TW.ld rfl (hBW.fld rfl) ?_
  refine rnT ?_
  refine TW.makeSlice rfl rfl (zero1_of go37 ze3 rfl) rfl rfl (by omega) (by omega) ?_
  rintro gr wr fr
  refine rnT ?_
  have hDr:=hD.step fr.below
  have hatr:=fr.at_
  have hown:=hDr.own
  rw [hlrs] at hown
  refine TW.storeRow1 rfl sz37 rfl rfl hown (by simp; omega) rfl ?_
  rintro W1 o1 hbut1 hsz1
  refine rnT ?_
  have hg5:=hD.own.lt (g:=g5) rfl
  have hne:g5≠gr:=by omega
  have hr1:OwnS W1 3 1 (.slice (some ⟨gr,0,none⟩) N.offs.length N.offs.length) (rowT rel N.offs.length a 0).length ((rowT rel N.offs.length a 0).map (Value.int .i64)):=by
   rw [rowT_len,rowT_zero]
   have:=OwnS.of_blk fr.blk (n:=N.offs.length) (sz:=1) (by simp) (by omega)
   rw [List.map_replicate]
   exact this.kept fun k hk=>hbut1.block k (this.lt hk) (fun e=>by cases hk; cases e; exact hne rfl)
  have hD1:Tab W1 w4.heap.size (.slice (some ⟨g5,0,none⟩) N.offs.length N.offs.length) (rs.set a (.slice (some ⟨gr,0,none⟩) N.offs.length N.offs.length,rowT rel N.offs.length a 0)):=by
   refine hDr.put (by omega) rfl hbut1 (by rw [hlrs]; simpa using o1) hr1 (rowT_rng hok (by decide) hn12 (by omega)) (fun g hg=> ?_) (fun p hp g hg e=> ?_)
   ·cases hg
    exact ⟨by show w4.heap.size≤gr; omega,fun e=>by cases e; exact hne rfl⟩
   ·cases e
    have h9:gr<W.heap.size:=(hD.row p hp).1.lt hg
    omega
  have hW1:Below w4.heap.size w4 W1:=(hW.step fr.below).grown hbut1 (hW.step fr.below).size (fun q hq=>by cases hq; omega)
  have hB1W:=hB4.next hW1
  have hcel0:W1.cell? (Addr.add ⟨g5,0,none⟩ ((a:Int).toNat*1))=some (.slice (some ⟨gr,0,none⟩) N.offs.length N.offs.length):=by
   rw [Nat.mul_one,Int.toNat_natCast]
   have ho:=hD1.own
   rw [List.length_set,hlrs] at ho
   exact ho.cell1 (by rw [List.getElem?_map,List.getElem?_set_self (by omega)]; rfl)
  refine TW.ld rfl hcel0 ?_
  refine rnT ?_
  refine CW.pk [1,3,4,5,18,19,33,34] rfl ?_
  refine CW.lp [1,3,4,5,18,19,33] (fun j:Nat=> [(34,none,.int .i64 (j:Int))])
   (fun j W'=>j≤N.offs.length∧Below w4.heap.size w4 W'∧Tab W' w4.heap.size (.slice (some ⟨g5,0,none⟩) N.offs.length N.offs.length) (rs.set a (.slice (some ⟨gr,0,none⟩) N.offs.length N.offs.length,rowT rel N.offs.length a j))) (fun j=>N.offs.length-j) 0 ⟨Nat.zero_le _,hW1,hD1⟩ ?_
  rintro j W2 ⟨hj,hW2,hD2⟩
  refine rnT ?_
  refine CW.condP rfl (fun hlt2=> ?_) (fun hge2=> ?_)
  ·have hri:(rs.set a (.slice (some ⟨gr,0,none⟩) N.offs.length N.offs.length,rowT rel N.offs.length a j))[a]?=some (.slice (some ⟨gr,0,none⟩) N.offs.length N.offs.length,rowT rel N.offs.length a j):=by
    rw [List.getElem?_set_self (by omega)]
   have hcel:W2.cell? (Addr.add ⟨g5,0,none⟩ ((a:Int).toNat*1))=some (.slice (some ⟨gr,0,none⟩) N.offs.length N.offs.length):=by
    rw [Nat.mul_one,Int.toNat_natCast]
    have ho:=hD2.own
    rw [List.length_set,hlrs] at ho
    exact ho.cell1 (by rw [List.getElem?_map,hri]; rfl)
   have hcelt:=tab_cell (a:=a) (b:=j) (f4.blk.next hW2) hok.len (by omega) (by omega)
   refine rnT ?_
   refine CW.drawR mixed fun W3 hb3=> ?_
   refine RW.draw .weak 11 (by kernel_rfl) (by kernel_rfl) rfl rfl hb3 ?_
   refine rnD ?_
   refine DW.ld rfl hcel ?_
   refine DW.v V.move rfl ⟨ct,trivial⟩ (fun _=>trivial) ?_
   refine DW.v V.move rfl ⟨ct,trivial⟩ (fun _=>trivial) ?_
   refine DW.v V.move rfl ⟨ct,trivial⟩ (fun _=>trivial) ?_
   refine DW.v V.indexAddrA rfl ⟨ct,ct,trivial⟩ (fun _=>by (try dsimp only); omega) ?_
   refine DW.v V.indexAddrA rfl ⟨ct,ct,trivial⟩ (fun _=>by (try dsimp only); omega) ?_
   refine DW.ld rfl hcelt ?_
   refine rnD ?_
   refine DW.nil (DW.fin [1,3,4,5,6,18,19,33,34,46,47] [(1,_,_),(3,_,_),(4,_,_),(5,_,_),(6,_,_),(18,_,_),(19,_,_),(33,_,_),(34,_,_),(46,_,_),(47,_,_)] rfl (fun W4 hb4=>KW.rk' ?_))
   refine RW.one (by kernel_rfl) (by kernel_rfl) rfl ?_
   have hD4:=hD2.step hb4
   obtain ⟨ho4,hI4,hob4⟩:=hD4.row _ (List.mem_of_getElem? hri)
   dsimp only at ho4 hI4 hob4
   rw [rowT_len] at ho4
   refine TW.storeRow1 rfl sz3 rfl rfl ho4 (by simp [rowT_len]; omega) rfl ?_
   rintro W5 o5 hbut5 hsz5
   refine TW.nil (KW.pick [1,3,4,5,6,18,19,33,34] [(1,_,_),(3,_,_),(4,_,_),(5,_,_),(6,_,_),(18,_,_),(19,_,_),(33,_,_),(34,_,_)] rfl (KW.rk ?_))
   refine RW.end rfl (KW.pick [1,3,4,5,6,18,19,33,34] [(1,_,_),(3,_,_),(4,_,_),(5,_,_),(6,_,_),(18,_,_),(19,_,_),(33,_,_),(34,_,_)] rfl (KW.blockN (KW.then_ ?_)))
   refine rnT ?_
   have hW4:=hW2.step hb4
   have hD5:=hD4.set hri rfl hbut5 (r':=rowT rel N.offs.length a (j+1)) (by
    rw [rowT_len,←rowT_succ (by omega),List.map_set]
    have e:(j:Int).toNat*1=j:=by omega
    rw [e] at o5
    exact o5) (rowT_rng hok (by decide) hn12 (by omega))
   rw [List.set_set] at hD5
   refine KW.rd (j+1) ⟨by omega,hW4.grown hbut5 hW4.size (fun q hq=>by cases hq; exact (hob4 _ rfl).1),hD5⟩
  ·have hje:j=N.offs.length:=by omega
   subst hje
   rw [rowT_all] at hD2
   refine rnT ?_
   refine KW.rd (a+1,rs.set a (.slice (some ⟨gr,0,none⟩) N.offs.length N.offs.length,rowG rel N.offs.length a)) ⟨by show a+1≤N.offs.length; omega,hW2,hD2,hRs.next (by omega) _⟩
 ·have hae:a=N.offs.length:=by omega
  subst hae
  have hsd:=hD.sd (by omega) (fun p hp=>by
   have:p.2∈rs.map (·.2):=List.mem_map_of_mem hp
   rw [hRs.all] at this
   obtain ⟨i,_,e⟩:=List.mem_map.1 this
   rw [←e]
   simp [rowG]
   omega)
  rw [hRs.all] at hsd
  refine rnT ?_
  refine rt1 rfl ⟨b4.step hW,hsd⟩
theorem rdigit_c {b:Nat}:Gives Tryz.prog 153 #[.int .u8 (b:Int)] w fun u w'=>Below w.heap.size w w'∧u= .bool (dec (isDg b)):=by
 refine gv (f:=153) ?_
 refine rnT ?_
 refine rt1 rfl ⟨Below.refl _ _,?_⟩
 by_cases h:isDg b
 ·rw [dec_pos h]
  unfold isDg at h
  simp
  omega
 ·rw [dec_neg h]
  unfold isDg at h
  simp
  omega
theorem between_c {v a b:Int}:Gives Tryz.prog 157 #[.int .i64 v,.int .i64 a,.int .i64 b] w fun u w'=>Below w.heap.size w w'∧u= .bool (decide (a≤v∧v≤b)):=by
 refine gv (f:=157) ?_
 refine rnT ?_
 refine rt1 rfl ⟨Below.refl _ _,?_⟩
 by_cases h1:a≤v<;>by_cases h2:v≤b<;>simp [h1,h2]
theorem byteN (s:ByteArray) (k:Nat):(s.data.getD ((k:Nat):Int).toNat 0).toNat=byteA s k:=by rw [Int.toNat_natCast]; rfl
theorem byte0 (s:ByteArray):(s.data.getD (Int.toNat 0) 0).toNat=byteA s 0:=rfl
theorem code_test (b:Nat):((decide ((b:Int)<65)||decide (90<(b:Int)))&& !dec (isDg b))=true↔ ¬((65≤b∧b≤90)∨isDg b):=by
 by_cases h:isDg b
 ·rw [dec_pos h]
  simp [h]
 ·rw [dec_neg h]
  simp [h]
  omega
theorem name_test (b:Nat):((decide ((b:Int)<97)||decide (122<(b:Int)))&& !dec (isDg b)&&decide ((b:Int)≠95))=true↔ ¬(isSm b∨isDg b∨b=95):=by
 by_cases h:isDg b
 ·rw [dec_pos h]
  simp [h]
 ·rw [dec_neg h]
  simp [h,isSm]
  omega
theorem rcode_c:Gives Tryz.prog 165 #[.string s] w fun u w'=>Below w.heap.size w w'∧u= .bool (dec (CodeOK s)):=by
 refine gv (f:=165) ?_
 refine rnT ?_
 refine CW.cond rfl (fun hbad=> ?_) (fun hgood=> ?_)
 ·refine rnT ?_
  refine rt1 rfl ⟨Below.refl _ _,?_⟩
  rw [dec_neg fun h=> ?_]
  have:=h.n1
  have:=h.n2
  simp at hbad
  omega
 have hsz:1≤s.size∧s.size≤8:=by simp at hgood; omega
 refine rnT ?_
 refine CW.lp [0] (fun k:Nat=> [(3,none,.int .i64 (k:Int))])
  (fun k W=>k≤s.size∧Below w.heap.size w W∧ ∀i,i<k→(65≤byteA s i∧byteA s i≤90)∨isDg (byteA s i)) (fun k=>s.size-k) 0 ⟨Nat.zero_le _,Below.refl _ _,fun i hi=>by omega⟩ ?_
 rintro k W ⟨hk,hB,hok⟩
 refine rnT ?_
 refine CW.condP rfl (fun hlt=> ?_) (fun hge=> ?_)
 ·have hks:k<s.size:=by omega
  refine rnT ?_
  refine TW.callF (cap:= []) rfl rfl en153 rfl ct (Args.cons rfl id Args.nil) (fun _=>rdigit_c (b:=byteA s k)) ?_
  rintro w2 c2
  refine rnT ?_
  refine CW.pk [0,3,34] rfl ?_
  refine CW.cond rfl (fun hbad2=> ?_) (fun hgood2=> ?_)
  ·rw [byteN,code_test] at hbad2
   refine rnT ?_
   refine rt1 rfl ⟨hB.step c2,?_⟩
   rw [dec_neg fun h=>hbad2 (h.all k hks)]
  ·rw [byteN] at hgood2
   have hgd:(65≤byteA s k∧byteA s k≤90)∨isDg (byteA s k):=Classical.byContradiction fun h=>by
    rw [←code_test] at h
    rw [h] at hgood2
    cases hgood2
   refine rnT ?_
   refine KW.rd (k+1) ⟨by omega,hB.step c2,fun i hi=> ?_⟩
   rcases Nat.lt_or_ge i k with h|h
   ·exact hok i h
   ·have:i=k:=by omega
    subst this
    exact hgd
 ·have hke:k=s.size:=by omega
  subst hke
  refine rnT ?_
  refine rt1 rfl ⟨hB,by rw [dec_pos ⟨hsz.1,hsz.2,hok⟩]⟩
theorem rkeys_c:Gives Tryz.prog 164 #[] w fun u w'=>Below w.heap.size w w'∧ ∃g,u= .slice (some ⟨g,0,none⟩) 17 17∧Blk w' g 9 (keys11.map Value.string):=by
 refine gv (f:=164) ?_
 refine rnT ?_
 refine TW.buildSlice 9 (cs:=keys11.map Value.string) _ rfl rfl rfl eo23 (Args.cons rfl ct (Args.cons rfl ct (Args.cons rfl ct (Args.cons rfl ct (Args.cons rfl ct (Args.cons rfl ct (Args.cons rfl ct (Args.cons rfl ct (Args.cons rfl ct (Args.cons rfl ct (Args.cons rfl ct (Args.cons rfl ct (Args.cons rfl ct (Args.cons rfl ct (Args.cons rfl ct (Args.cons rfl ct (Args.cons rfl ct Args.nil))))))))))))))))) rfl rfl rfl rfl (by kernel_rfl) ?_
 rintro g w1 f1
 refine rnT ?_
 refine rt1 rfl ⟨f1.below,g,rfl,f1.blk⟩
theorem rkey_c:Gives Tryz.prog 152 #[.string s] w fun u w'=>Below w.heap.size w w'∧u= .bool (dec (s∈keys11)):=by
 refine gv (f:=152) ?_
 refine rnT ?_
 refine TW.cl rfl (rkeys_c) ?_
 rintro y1 w1 ⟨b1,g,rfl,hB1⟩
 refine rnT ?_
 have hkl:keys11.length=17:=rfl
 refine CW.lp [0,3] (fun k:Nat=> [(4,none,.int .i64 (k:Int))])
  (fun k W=>k≤17∧Below w1.heap.size w1 W∧ ∀i x,i<k→keys11[i]?=some x→s≠x) (fun k=>17-k) 0 ⟨Nat.zero_le _,Below.refl _ _,fun i x hi=>by omega⟩ ?_
 rintro k W ⟨hk,hB,hno⟩
 refine rnT ?_
 refine CW.pk [0,3,4,9] rfl ?_
 refine CW.condP rfl (fun hlt=> ?_) (fun hge=> ?_)
 ·obtain ⟨x,hx,hxm⟩:=getx (l:=keys11) (k:=k) (by omega)
  have hxv:W.cell? (Addr.add ⟨g,0,none⟩ ((k:Int).toNat*1))=some (.string x):=by
   rw [show (k:Int).toNat*1=k by omega]
   exact (hB1.next hB).fld (by rw [List.getElem?_map,hx]; rfl)
  refine rnT ?_
  refine TW.ld rfl hxv ?_
  refine rnT ?_
  rw [beqL]
  refine CW.cond rfl (fun heq=> ?_) (fun hne=> ?_)
  ·refine rnT ?_
   refine rt1 rfl ⟨b1.step hB,?_⟩
   rw [dec_pos (p:=s∈keys11) (of_decide_eq_true heq ▸ hxm)]
  ·refine rnT ?_
   refine KW.rd (k+1) ⟨by omega,hB,fun i z hi hz=> ?_⟩
   rcases Nat.lt_or_ge i k with h|h
   ·exact hno i z h hz
   ·have:i=k:=by omega
    subst this
    rw [hx] at hz
    cases hz
    exact fun e=>of_decide_eq_false hne e.symm
 ·refine rnT ?_
  have hnk:s ∉ keys11:=fun h=>by
   obtain ⟨i,hi⟩:=List.mem_iff_getElem?.1 h
   exact hno i s (by have:=(List.getElem?_eq_some_iff.1 hi).1; omega) hi rfl
  refine rt1 rfl ⟨b1.step hB,by rw [dec_neg hnk]⟩
theorem rname_c:Gives Tryz.prog 138 #[.string s] w fun u w'=>Below w.heap.size w w'∧u= .bool (dec (NameOK keys11 s)):=by
 refine gv (f:=138) ?_
 refine rnT ?_
 refine TW.callF (cap:= []) rfl rfl en152 rfl ct (Args.cons rfl id Args.nil) (fun _=>rkey_c (s:=s)) ?_
 rintro w1 c1
 refine rnT ?_
 refine CW.pk [0,2,25] rfl ?_
 refine CW.cond rfl (fun hbad=> ?_) (fun hgood=> ?_)
 ·refine rnT ?_
  refine rt1 rfl ⟨c1,?_⟩
  rw [dec_neg fun h=> ?_]
  have h1:=h.n1
  have h2:=h.n2
  have h3:=h.fst
  have h4:=h.nokey
  rw [byte0] at hbad
  unfold isSm at h3
  rw [dec_neg h4] at hbad
  simp at hbad
  omega
 have hsz:1≤s.size∧s.size≤16∧isSm (byteA s 0)∧s ∉ keys11:=by
  rw [byte0] at hgood
  unfold isSm
  simp only [Bool.or_eq_false_iff,decide_eq_false_iff_not] at hgood
  exact ⟨by omega,by omega,by omega,fun h=>by rw [dec_pos h] at hgood; cases hgood.2⟩
 refine rnT ?_
 refine CW.lp [0] (fun k:Nat=> [(3,none,.int .i64 (k:Int))])
  (fun k W=>k≤s.size∧Below w.heap.size w W∧ ∀i,i<k→isSm (byteA s i)∨isDg (byteA s i)∨byteA s i=95) (fun k=>s.size-k) 0 ⟨Nat.zero_le _,c1,fun i hi=>by omega⟩ ?_
 rintro k W ⟨hk,hB,hok⟩
 refine rnT ?_
 refine CW.condP rfl (fun hlt=> ?_) (fun hge=> ?_)
 ·have hks:k<s.size:=by omega
  refine rnT ?_
  refine TW.callF (cap:= []) rfl rfl en153 rfl ct (Args.cons rfl id Args.nil) (fun _=>rdigit_c (b:=byteA s k)) ?_
  rintro w2 c2
  refine rnT ?_
  refine CW.pk [0,3,54] rfl ?_
  refine CW.cond rfl (fun hbad2=> ?_) (fun hgood2=> ?_)
  ·rw [byteN,name_test] at hbad2
   refine rnT ?_
   refine rt1 rfl ⟨hB.step c2,?_⟩
   rw [dec_neg fun h=>hbad2 (h.all k hks)]
  ·rw [byteN] at hgood2
   have hgd:isSm (byteA s k)∨isDg (byteA s k)∨byteA s k=95:=Classical.byContradiction fun h=>by
    rw [←name_test] at h
    rw [h] at hgood2
    cases hgood2
   refine rnT ?_
   refine KW.rd (k+1) ⟨by omega,hB.step c2,fun i hi=> ?_⟩
   rcases Nat.lt_or_ge i k with h|h
   ·exact hok i h
   ·have:i=k:=by omega
    subst this
    exact hgd
 ·have hke:k=s.size:=by omega
  subst hke
  refine rnT ?_
  refine rt1 rfl ⟨hB,by rw [dec_pos ⟨hsz.1,hsz.2.1,hsz.2.2.1,hok,hsz.2.2.2⟩]⟩
theorem rcalValid_c {u v:Value} {c:Cal} {F:Nat→Prop} (h:CalIn F w u v c):Gives Tryz.prog 154 #[.agg (calV c u v).toArray] w fun x w'=>Below w.heap.size w w'∧x= .bool (dec (CalOK c)):=by
 obtain ⟨A,cap,rfl,_⟩:=h.wk.form
 obtain ⟨B,bcap,rfl,_⟩:=h.hol.form
 refine gv (f:=154) ?_
 refine rnT ?_
 refine TW.box rfl rfl rfl rfl ?_
 rintro g1 w1 f1
 refine rnT ?_
 have hB:=f1.blk
 have h1:=h.below f1.below
 refine TW.ld rfl (hB.fld rfl) ?_
 refine rnT ?_
 refine TW.ld rfl (hB.fld rfl) ?_
 refine rnT ?_
 refine TW.ld rfl (hB.fld rfl) ?_
 refine rnT ?_
 refine TW.ld rfl (hB.fld rfl) ?_
 refine rnT ?_
 refine CW.pk [0,1,2,23] rfl ?_
 refine CW.cond rfl (fun hbad=> ?_) (fun hgood=> ?_)
 ·refine rnT ?_
  refine rt1 rfl ⟨f1.below,?_⟩
  rw [dec_neg fun h=> ?_]
  have q1:=h.z1
  have q2:=h.z2
  have q3:=h.wk
  have q4:=h.few
  simp at hbad
  omega
 have hg:(-720≤c.zone∧c.zone≤840)∧c.week.length=7∧c.hol.length≤40:=by simp at hgood; omega
 refine rnT ?_
 refine CW.lp [1] (fun k:Nat=> [(3,none,.int .i64 ((k:Int)+1))])
  (fun k W=>k≤c.hol.length∧Below w1.heap.size w1 W∧ ∀(i:Nat) (x y:Int),i<k→c.hol[i]?=some x→c.hol[i+1]?=some y→x<y) (fun k=>c.hol.length-k) 0 ⟨Nat.zero_le _,Below.refl _ _,fun i x y hi=>by omega⟩ ?_
 rintro k W ⟨hk,hBW,hinc⟩
 have hB2:=hB.next hBW
 refine rnT ?_
 refine TW.ld rfl (hB2.fld rfl) ?_
 refine rnT ?_
 refine CW.condP rfl (fun hlt=> ?_) (fun hge=> ?_)
 ·obtain ⟨x,hx,_⟩:=getx (l:=c.hol) (k:=k) (by omega)
  obtain ⟨y,hy,_⟩:=getx (l:=c.hol) (k:=k+1) (by omega)
  obtain ⟨ad,rfl⟩:=h.hol.addr (by omega)
  have hyc:W.cell? (ad.add (((k:Int)+1).toNat*1))=some (.int .i64 y):=by
   have:=(h1.hol.below hBW).getI hy
   rw [show ((k+1:Nat):Int)=(k:Int)+1 by omega] at this
   exact this
  have hxc:W.cell? (ad.add (((k:Int)+1-1).toNat*1))=some (.int .i64 x):=by
   have:=(h1.hol.below hBW).getI hx
   rw [show ((k:Nat):Int)=(k:Int)+1-1 by omega] at this
   exact this
  refine rnT ?_
  refine CW.draw mixed (by kernel_rfl) ?_
  refine rnD ?_
  refine DW.ld rfl (hB2.fld rfl) ?_
  refine rnD ?_
  refine DW.ld rfl hxc ?_
  refine rnD ?_
  refine DW.ld rfl (hB2.fld rfl) ?_
  refine rnD ?_
  refine DW.ld rfl hyc ?_
  refine rnD ?_
  refine DW.fi [1,3,42] rfl fun w3 b3=> ?_
  refine KW.then_ ?_
  refine CW.condP rfl (fun hbad2=> ?_) (fun hgood2=> ?_)
  ·refine rnT ?_
   refine rt1 rfl ⟨(f1.below.step hBW).step b3,?_⟩
   rw [dec_neg fun h=> ?_]
   have:=h.inc k x y hx hy
   omega
  ·refine rnT ?_
   rw [show ((k:Int)+1+1)=((k+1:Nat):Int)+1 by omega]
   refine KW.rd (k+1) ⟨by omega,hBW.step b3,fun i p q hi hp hq=> ?_⟩
   rcases Nat.lt_or_ge i k with h|h
   ·exact hinc i p q h hp hq
   ·have:i=k:=by omega
    subst this
    rw [hx] at hp
    rw [hy] at hq
    cases hp
    cases hq
    omega
 ·refine rnT ?_
  refine rt1 rfl ⟨f1.below.step hBW,?_⟩
  rw [dec_pos ⟨hg.1.1,hg.1.2,hg.2.1,hg.2.2,fun i x y hx hy=>hinc i x y (by have:=(List.getElem?_eq_some_iff.1 hy).1; omega) hx hy⟩]
theorem rsmall_c {u v:Value} {c:Cal} {F:Nat→Prop} (h:CalIn F w u v c):Gives Tryz.prog 90 #[.agg (calV c u v).toArray] w fun x w'=>Below w.heap.size w w'∧x= .bool (decide (c.week.length≤20∧c.hol.length≤60)):=by
 obtain ⟨A,cap,rfl,_⟩:=h.wk.form
 obtain ⟨B,bcap,rfl,_⟩:=h.hol.form
 refine gv (f:=90) ?_
 refine rnT ?_
 refine TW.box rfl rfl rfl rfl ?_
 rintro g1 w1 f1
 refine rnT ?_
 have hB:=f1.blk
 refine TW.ld rfl (hB.fld rfl) ?_
 refine rnT ?_
 refine TW.ld rfl (hB.fld rfl) ?_
 refine rnT ?_
 refine rt1 rfl ⟨f1.below,?_⟩
 by_cases h1:c.week.length≤20<;>by_cases h2:c.hol.length≤60<;>simp [h1,h2]<;>omega
end Go.Proofs.YtffjgpoadfkjlaaGreatDoor
namespace Go.Proofs.YtffjgpoadfkjlaaGreatDoor
open Go.PF Go.RowKit Go.Ord
variable {N:Net}
def namesK (N:Net) (k:Nat):List ByteArray:=if k=1 then calNm N else if k=2 then N.ops else if k=3 then N.offs.map (·.name) else if k=4 then N.lines.map (·.name) else N.classes.map (·.name)
def limN (k:Nat):Nat:=if k=3 then 12 else if k=4 then 40 else if k=5 then 4 else 6
def numK (N:Net) (k i:Nat):Prop:=if k=1 then∀x,N.cals[i]?=some x→CalOK x else if k=2 then True else if k=3 then∀x,N.offs[i]?=some x→OfOK N x else if k=4 then∀x,N.lines[i]?=some x→LiOK N x else∀x,N.classes[i]?=some x→ClaOK x
def eOK (N:Net) (k i:Nat):Prop:= ∀s,(namesK N k)[i]?=some s→NameOK keys11 s∧s ∉ (namesK N k).take i∧numK N k i
def KindR (N:Net) (k:Nat):Prop:=(namesK N k).length≤limN k∧ ∀j,j<min (namesK N k).length (limN k)→eOK N k j
theorem calNm_len (N:Net):(calNm N).length=N.cals.length:=by simp [calNm]
theorem eok_of {α:Type} {k i:Nat} {nm:List ByteArray} {l:List α} {G:α→Prop} (hnm:namesK N k=nm) (hl:nm.length=l.length) (hnum:numK N k i↔ ∀x,l[i]?=some x→G x):eOK N k i↔GoodAt nm l G i:=by
 unfold eOK GoodAt
 rw [hnm,hnum]
 constructor
 ·intro h x s hx hs
  obtain ⟨h1,h2,h3⟩:=h s hs
  exact ⟨h1,h2,h3 x hx⟩
 ·intro h s hs
  have hil:=(List.getElem?_eq_some_iff.1 hs).1
  obtain ⟨h1,h2,h3⟩:=h l[i] s (List.getElem?_eq_getElem (by omega)) hs
  refine ⟨h1,h2,fun x hx=> ?_⟩
  rw [List.getElem?_eq_getElem (by omega)] at hx
  cases hx
  exact h3
theorem kindR_of {α:Type} {k:Nat} {nm:List ByteArray} {l:List α} {G:α→Prop} (hnm:namesK N k=nm) (hl:nm.length=l.length) (hnum: ∀i,numK N k i↔ ∀x,l[i]?=some x→G x):KindR N k↔KindOK keys11 (limN k) nm l G:=by
 rw [kind_iff hl]
 unfold KindR
 rw [hnm,hl]
 constructor
 ·rintro ⟨h1,h2⟩
  exact ⟨h1,fun j hj=>(eok_of hnm hl (hnum j)).1 (h2 j hj)⟩
 ·rintro ⟨h1,h2⟩
  exact ⟨h1,fun j hj=>(eok_of hnm hl (hnum j)).2 (h2 j hj)⟩
theorem cons_iff:ConsOK keys11 N↔N.names.length=N.cals.length∧ ∀k,1≤k→k≤5→KindR N k:=by
 have k1:KindR N 1↔KindOK keys11 6 (calNm N) N.cals CalOK:=kindR_of rfl (calNm_len N) fun i=>Iff.rfl
 have k2:KindR N 2↔KindOK keys11 6 N.ops N.ops (fun _=>True):=kindR_of rfl rfl fun i=>⟨fun _ _ _=>trivial,fun _=>trivial⟩
 have k3:KindR N 3↔KindOK keys11 12 (N.offs.map (·.name)) N.offs (OfOK N):=kindR_of rfl (List.length_map _) fun i=>Iff.rfl
 have k4:KindR N 4↔KindOK keys11 40 (N.lines.map (·.name)) N.lines (LiOK N):=kindR_of rfl (List.length_map _) fun i=>Iff.rfl
 have k5:KindR N 5↔KindOK keys11 4 (N.classes.map (·.name)) N.classes ClaOK:=kindR_of rfl (List.length_map _) fun i=>Iff.rfl
 constructor
 ·intro h
  refine ⟨h.len,fun k h1 h5=> ?_⟩
  have:k=1∨k=2∨k=3∨k=4∨k=5:=by omega
  rcases this with rfl|rfl|rfl|rfl|rfl
  ·rw [k1,calNm_eq h.len]; exact h.cals
  ·exact k2.2 h.ops
  ·exact k3.2 h.offs
  ·exact k4.2 h.lines
  ·exact k5.2 h.classes
 ·rintro ⟨h1,h2⟩
  have q1:=k1.1 (h2 1 (by omega) (by omega))
  rw [calNm_eq h1] at q1
  exact ⟨h1,q1,k2.1 (h2 2 (by omega) (by omega)),k3.1 (h2 3 (by omega) (by omega)),k4.1 (h2 4 (by omega) (by omega)),k5.1 (h2 5 (by omega) (by omega))⟩
structure FewN (N:Net):Prop where
 c:N.cals.length≤100
 n:N.names.length≤100
 o:N.ops.length≤100
 f:N.offs.length≤100
 l:N.lines.length≤100
 k:N.classes.length≤100
theorem FewN.names (h:FewN N) (k:Nat):(namesK N k).length≤100:=by
 have h1:=h.c
 have h2:=h.o
 have h3:=h.f
 have h4:=h.l
 have h5:=h.k
 have:=calNm_len N
 unfold namesK
 split
 ·omega
 split
 ·omega
 split
 ·rw [List.length_map]; omega
 split<;>rw [List.length_map]<;>omega
end Go.Proofs.YtffjgpoadfkjlaaGreatDoor
namespace Go.Proofs.YtffjgpoadfkjlaaGreatDoor
open Go.PF Go.RowKit Go.Ord
attribute [local irreducible] TW CW KW DW
variable {w:World} {v:NV} {N:Net} {i:Nat} {x:_}
structure StrRow (W:World) (b:Nat) (v:Value) (l:List ByteArray):Prop where
 own:OwnS W 9 1 v l.length (l.map Value.string)
 lb: ∀g,v.ownBlock=some g→b≤g
theorem StrRow.below {W W':World} {b:Nat} {v:Value} {l:List ByteArray} (h:StrRow W b v l) (hb:Below W.heap.size W W'):StrRow W' b v l:=⟨h.own.below hb,h.lb⟩
theorem StrRow.form {W:World} {b:Nat} {v:Value} {l:List ByteArray} (h:StrRow W b v l): ∃A c,v= .slice A l.length c:=by
 obtain ⟨A,c,h1,_⟩:=h.own.form
 exact ⟨A,c,h1⟩
theorem StrRow.at {W:World} {b:Nat} {A:Option Addr} {c:Nat} {l:List ByteArray} {s:ByteArray} (h:StrRow W b (.slice A l.length c) l) (hs:l[i]?=some s): ∃g,A=some ⟨g,0,none⟩∧W.cell? (Addr.add ⟨g,0,none⟩ ((i:Int).toNat*1))=some (.string s):=by
 have hil:=(List.getElem?_eq_some_iff.1 hs).1
 obtain ⟨g,rfl⟩:=h.own.addr (by simp; omega)
 refine ⟨g,rfl,?_⟩
 rw [Nat.mul_one,Int.toNat_natCast]
 exact h.own.cell1 (by rw [List.getElem?_map,hs]; rfl)
theorem StrRow.app {W W1 W':World} {b:Nat} {v v':Value} {l:List ByteArray} {s:ByteArray} (h:StrRow W b v l) (hO:OwnS W' 9 1 v' (l.length+1) (l.map Value.string++ [.string s])) (hn:v'.ownBlock=v.ownBlock∨v'.ownBlock=some W1.heap.size) (hb:b≤W1.heap.size):StrRow W' b v' (l++ [s]):=by
 refine ⟨?_,new_own hn h.lb hb⟩
 rw [List.length_append,List.map_append]
 exact hO
theorem names1_c (hN:NetAt w v N) (hf:FewN N):Gives Tryz.prog 91 #[.agg v.cells.toArray,.int .i64 1] w fun u w'=>Below w.heap.size w w'∧StrRow w' w.heap.size u (calNm N):=by
 have hform:=NetIn.form hN
 obtain ⟨vc,vn,vo,vf,vl,vk⟩:=v
 obtain ⟨⟨A1,c1,e1⟩,⟨A2,c2,e2⟩,⟨A3,c3,e3⟩,⟨A4,c4,e4⟩,⟨A5,c5,e5⟩,⟨A6,c6,e6⟩⟩:=id hform
 dsimp only at e1 e2 e3 e4 e5 e6
 subst e1 e2 e3 e4 e5 e6
 have qc:=hf.c
 refine gv (f:=91) ?_
 refine rnT ?_
 refine TW.box rfl rfl rfl rfl ?_
 rintro g1 w1 f1
 refine rnT ?_
 have hB1:=f1.blk
 have hN1:=net_step hN f1.below
 have hb01:=f1.below.size
 refine CW.condP rfl (fun h1=> ?_) (fun n1=> ?_)
 ·refine rnT ?_
  refine CW.lp [2] (fun x:Nat×Value=> [(5,none,x.2),(6,none,.int .i64 (x.1:Int))])
   (fun x W=>x.1≤N.cals.length∧Below w1.heap.size w1 W∧StrRow W w1.heap.size x.2 ((calNm N).take x.1)) (fun x=>N.cals.length-x.1) (0,.slice none 0 0) ⟨Nat.zero_le _,Below.refl _ _,⟨OwnS.nil _ _ _,fun g hg=>by simp [Value.ownBlock] at hg⟩⟩ ?_
  rintro ⟨i,lv⟩ W ⟨hi,hB,hR⟩
  dsimp only at hi hR
  have hlen:(calNm N).length=N.cals.length:=calNm_len N
  have hti:((calNm N).take i).length=i:=by rw [List.length_take]; omega
  have hBW:=hB1.next hB
  have hbW:=hB.size
  obtain ⟨VA,vcap,rfl⟩:=hR.form
  refine rnT ?_
  refine TW.ld rfl (hBW.fld rfl) ?_
  refine rnT ?_
  refine CW.condP rfl (fun hlt=> ?_) (fun hge=> ?_)
  ·have hcel: ∀x,N.names[i]?=some x→ ∃ad,A2=some ad∧W.cell? (ad.add ((i:Int).toNat*1))=some (.string x):=fun x hx=>by
    have hnW:=hN1.n.below hB
    obtain ⟨ad,rfl⟩:=hnW.addr (by have:=(List.getElem?_eq_some_iff.1 hx).1; omega)
    exact ⟨ad,rfl,hnW.getT hx⟩
   refine rnT ?_
   refine TW.ld rfl (hBW.fld rfl) ?_
   refine rnT ?_
   refine CW.pk [2,5,6,25] rfl ?_
   refine CW.condP rfl (fun hin=> ?_) (fun hout=> ?_)
   ·obtain ⟨x,hx,_⟩:=getx (l:=N.names) (k:=i) (by omega)
    have hnm:(calNm N)[i]?=some x:=by
     unfold calNm
     rw [List.getElem?_map,List.getElem?_range (by omega)]
     simp [List.getD_eq_getElem?_getD,hx]
    obtain ⟨ad,rfl,hxc⟩:=hcel x hx
    refine rnT ?_
    refine TW.ld rfl (hBW.fld rfl) ?_
    refine rnT ?_
    refine TW.ld rfl hxc ?_
    refine TW.buildSlice 9 _ rfl rfl rfl eo23 (Args.cons rfl ct Args.nil) rfl rfl rfl rfl rfl ?_
    rintro g5 w5 f5
    have hR5:=hR.below f5.below
    have hb5:=f5.below.size
    refine TW.append [.string x] rfl rfl go23 rfl hR5.own rfl rfl (fun j u hj=>⟨_,rfl,f5.blk.fld hj⟩) (fun u hu=>by simp at hu; subst hu; rfl) (by omega) (by omega) ?_
    rintro lv' w6 o6 g6 n6
    refine rnT ?_
    have hW5:=hB.step f5.below
    have hR6:StrRow w6 w1.heap.size lv' ((calNm N).take (i+1)):=by
     rw [List.take_add_one,hnm]
     exact hR5.app o6 n6 (by omega)
    refine KW.rd (i+1,lv') ⟨by show i+1≤N.cals.length; omega,hW5.grown g6 hW5.size (fun q hq=>hR.lb q hq),hR6⟩
   ·have hnm:(calNm N)[i]?=some ⟨#[]⟩:=by
     unfold calNm
     rw [List.getElem?_map,List.getElem?_range (by omega)]
     simp [List.getD_eq_getElem?_getD,List.getElem?_eq_none (show N.names.length≤i by omega)]
    refine rnT ?_
    refine TW.buildSlice 9 _ rfl rfl rfl eo23 (Args.cons rfl ct Args.nil) rfl rfl rfl rfl rfl ?_
    rintro g5 w5 f5
    have hR5:=hR.below f5.below
    have hb5:=f5.below.size
    refine TW.append [.string ⟨#[]⟩] rfl rfl go23 rfl hR5.own rfl rfl (fun j u hj=>⟨_,rfl,f5.blk.fld hj⟩) (fun u hu=>by simp at hu; subst hu; rfl) (by omega) (by omega) ?_
    rintro lv' w6 o6 g6 n6
    refine rnT ?_
    have hW5:=hB.step f5.below
    have hR6:StrRow w6 w1.heap.size lv' ((calNm N).take (i+1)):=by
     rw [List.take_add_one,hnm]
     exact hR5.app o6 n6 (by omega)
    refine KW.rd (i+1,lv') ⟨by show i+1≤N.cals.length; omega,hW5.grown g6 hW5.size (fun q hq=>hR.lb q hq),hR6⟩
  ·have ht:(calNm N).take i=calNm N:=List.take_of_length_le (by omega)
   have hR':StrRow W w.heap.size (.slice VA ((calNm N).take i).length vcap) (calNm N):=⟨by
    have h9:=hR.own
    rw [ht] at h9 ⊢
    exact h9,fun g hg=>Nat.le_trans hb01 (hR.lb g hg)⟩
   refine rnT ?_
   refine rt1 rfl ⟨f1.below.step hB,hR'⟩
 ·exact absurd (by decide) n1
theorem names2_c (hN:NetAt w v N) (hf:FewN N):Gives Tryz.prog 91 #[.agg v.cells.toArray,.int .i64 2] w fun u w'=>Below w.heap.size w w'∧StrRow w' w.heap.size u (N.ops):=by
 have hform:=NetIn.form hN
 obtain ⟨vc,vn,vo,vf,vl,vk⟩:=v
 obtain ⟨⟨A1,c1,e1⟩,⟨A2,c2,e2⟩,⟨A3,c3,e3⟩,⟨A4,c4,e4⟩,⟨A5,c5,e5⟩,⟨A6,c6,e6⟩⟩:=id hform
 dsimp only at e1 e2 e3 e4 e5 e6
 subst e1 e2 e3 e4 e5 e6
 have qo:=hf.o
 refine gv (f:=91) ?_
 refine rnT ?_
 refine TW.box rfl rfl rfl rfl ?_
 rintro g1 w1 f1
 refine rnT ?_
 have hB1:=f1.blk
 have hN1:=net_step hN f1.below
 have hb01:=f1.below.size
 refine CW.condP rfl (fun h1=> ?_) (fun n1=> ?_)
 ·exact absurd h1 (by decide)
 refine rnT ?_
 refine CW.pk [0,1,2,4,5,11,37] rfl ?_
 refine CW.condP rfl (fun h2=> ?_) (fun n2=> ?_)
 ·refine rnT ?_
  refine CW.lp [2] (fun x:Nat×Value=> [(5,none,x.2),(7,none,.int .i64 (x.1:Int))])
   (fun x W=>x.1≤N.ops.length∧Below w1.heap.size w1 W∧StrRow W w1.heap.size x.2 ((N.ops).take x.1)) (fun x=>N.ops.length-x.1) (0,.slice none 0 0) ⟨Nat.zero_le _,Below.refl _ _,⟨OwnS.nil _ _ _,fun g hg=>by simp [Value.ownBlock] at hg⟩⟩ ?_
  rintro ⟨i,lv⟩ W ⟨hi,hB,hR⟩
  dsimp only at hi hR
  have hlen:(N.ops).length=N.ops.length:=rfl
  have hti:((N.ops).take i).length=i:=by rw [List.length_take]; omega
  have hBW:=hB1.next hB
  have hbW:=hB.size
  obtain ⟨VA,vcap,rfl⟩:=hR.form
  refine rnT ?_
  refine TW.ld rfl (hBW.fld rfl) ?_
  refine rnT ?_
  refine CW.condP rfl (fun hlt=> ?_) (fun hge=> ?_)
  ·obtain ⟨x,hx,_⟩:=getx (l:=N.ops) (k:=i) (by omega)
   have hnW:=hN1.o.below hB
   obtain ⟨ad,rfl⟩:=hnW.addr (by omega)
   obtain ⟨ad',cs,e9,hF9,hrep9,hc9⟩:=hnW.at hx
   cases e9
   obtain ⟨rfl,_⟩:=hrep9
   have hnm:(N.ops)[i]?=some x:=by exact hx
   refine rnT ?_
   refine TW.ld rfl (hBW.fld rfl) ?_
   refine rnT ?_
   refine TW.ld rfl (hc9 0 _ rfl) ?_
   refine TW.buildSlice 9 _ rfl rfl rfl eo23 (Args.cons rfl ct Args.nil) rfl rfl rfl rfl rfl ?_
   rintro g5 w5 f5
   have hR5:=hR.below f5.below
   have hb5:=f5.below.size
   refine TW.append [.string x] rfl rfl go23 rfl hR5.own rfl rfl (fun j u hj=>⟨_,rfl,f5.blk.fld hj⟩) (fun u hu=>by simp at hu; subst hu; rfl) (by omega) (by omega) ?_
   rintro lv' w6 o6 g6 n6
   refine rnT ?_
   have hW5:=hB.step f5.below
   have hR6:StrRow w6 w1.heap.size lv' ((N.ops).take (i+1)):=by
    rw [List.take_add_one,hnm]
    exact hR5.app o6 n6 (by omega)
   refine KW.rd (i+1,lv') ⟨by show i+1≤N.ops.length; omega,hW5.grown g6 hW5.size (fun q hq=>hR.lb q hq),hR6⟩
  ·have ht:(N.ops).take i=N.ops:=List.take_of_length_le (by omega)
   have hR':StrRow W w.heap.size (.slice VA ((N.ops).take i).length vcap) (N.ops):=⟨by
    have h9:=hR.own
    rw [ht] at h9 ⊢
    exact h9,fun g hg=>Nat.le_trans hb01 (hR.lb g hg)⟩
   refine rnT ?_
   refine rt1 rfl ⟨f1.below.step hB,hR'⟩
 ·exact absurd (by decide) n2
theorem names3_c (hN:NetAt w v N) (hf:FewN N):Gives Tryz.prog 91 #[.agg v.cells.toArray,.int .i64 3] w fun u w'=>Below w.heap.size w w'∧StrRow w' w.heap.size u (N.offs.map (·.name)):=by
 have hform:=NetIn.form hN
 obtain ⟨vc,vn,vo,vf,vl,vk⟩:=v
 obtain ⟨⟨A1,c1,e1⟩,⟨A2,c2,e2⟩,⟨A3,c3,e3⟩,⟨A4,c4,e4⟩,⟨A5,c5,e5⟩,⟨A6,c6,e6⟩⟩:=id hform
 dsimp only at e1 e2 e3 e4 e5 e6
 subst e1 e2 e3 e4 e5 e6
 have qf:=hf.f
 refine gv (f:=91) ?_
 refine rnT ?_
 refine TW.box rfl rfl rfl rfl ?_
 rintro g1 w1 f1
 refine rnT ?_
 have hB1:=f1.blk
 have hN1:=net_step hN f1.below
 have hb01:=f1.below.size
 refine CW.condP rfl (fun h1=> ?_) (fun n1=> ?_)
 ·exact absurd h1 (by decide)
 refine rnT ?_
 refine CW.condP rfl (fun h2=> ?_) (fun n2=> ?_)
 ·exact absurd h2 (by decide)
 refine rnT ?_
 refine CW.condP rfl (fun h3=> ?_) (fun n3=> ?_)
 ·refine rnT ?_
  refine CW.lp [2] (fun x:Nat×Value=> [(5,none,x.2),(8,none,.int .i64 (x.1:Int))])
   (fun x W=>x.1≤N.offs.length∧Below w1.heap.size w1 W∧StrRow W w1.heap.size x.2 ((N.offs.map (·.name)).take x.1)) (fun x=>N.offs.length-x.1) (0,.slice none 0 0) ⟨Nat.zero_le _,Below.refl _ _,⟨OwnS.nil _ _ _,fun g hg=>by simp [Value.ownBlock] at hg⟩⟩ ?_
  rintro ⟨i,lv⟩ W ⟨hi,hB,hR⟩
  dsimp only at hi hR
  have hlen:(N.offs.map (·.name)).length=N.offs.length:=List.length_map _
  have hti:((N.offs.map (·.name)).take i).length=i:=by rw [List.length_take]; omega
  have hBW:=hB1.next hB
  have hbW:=hB.size
  obtain ⟨VA,vcap,rfl⟩:=hR.form
  refine rnT ?_
  refine TW.ld rfl (hBW.fld rfl) ?_
  refine rnT ?_
  refine CW.pk [2,5,8,61] rfl ?_
  refine CW.condP rfl (fun hlt=> ?_) (fun hge=> ?_)
  ·obtain ⟨x,hx,_⟩:=getx (l:=N.offs) (k:=i) (by omega)
   have hnW:=hN1.f.below hB
   obtain ⟨ad,rfl⟩:=hnW.addr (by omega)
   obtain ⟨ad',cs,e9,hF9,hrep9,hc9⟩:=hnW.at hx
   cases e9
   obtain ⟨uv,rfl,_⟩:=hrep9
   have hnm:(N.offs.map (·.name))[i]?=some x.name:=by rw [List.getElem?_map,hx]; rfl
   refine rnT ?_
   refine TW.ld rfl (hBW.fld rfl) ?_
   refine rnT ?_
   refine TW.ld rfl (hc9 0 _ rfl) ?_
   refine TW.buildSlice 9 _ rfl rfl rfl eo23 (Args.cons rfl ct Args.nil) rfl rfl rfl rfl rfl ?_
   rintro g5 w5 f5
   have hR5:=hR.below f5.below
   have hb5:=f5.below.size
   refine TW.append [.string x.name] rfl rfl go23 rfl hR5.own rfl rfl (fun j u hj=>⟨_,rfl,f5.blk.fld hj⟩) (fun u hu=>by simp at hu; subst hu; rfl) (by omega) (by omega) ?_
   rintro lv' w6 o6 g6 n6
   refine rnT ?_
   have hW5:=hB.step f5.below
   have hR6:StrRow w6 w1.heap.size lv' ((N.offs.map (·.name)).take (i+1)):=by
    rw [List.take_add_one,hnm]
    exact hR5.app o6 n6 (by omega)
   refine KW.rd (i+1,lv') ⟨by show i+1≤N.offs.length; omega,hW5.grown g6 hW5.size (fun q hq=>hR.lb q hq),hR6⟩
  ·have ht:(N.offs.map (·.name)).take i=N.offs.map (·.name):=List.take_of_length_le (by omega)
   have hR':StrRow W w.heap.size (.slice VA ((N.offs.map (·.name)).take i).length vcap) (N.offs.map (·.name)):=⟨by
    have h9:=hR.own
    rw [ht] at h9 ⊢
    exact h9,fun g hg=>Nat.le_trans hb01 (hR.lb g hg)⟩
   refine rnT ?_
   refine rt1 rfl ⟨f1.below.step hB,hR'⟩
 ·exact absurd (by decide) n3
theorem names4_c (hN:NetAt w v N) (hf:FewN N):Gives Tryz.prog 91 #[.agg v.cells.toArray,.int .i64 4] w fun u w'=>Below w.heap.size w w'∧StrRow w' w.heap.size u (N.lines.map (·.name)):=by
 have hform:=NetIn.form hN
 obtain ⟨vc,vn,vo,vf,vl,vk⟩:=v
 obtain ⟨⟨A1,c1,e1⟩,⟨A2,c2,e2⟩,⟨A3,c3,e3⟩,⟨A4,c4,e4⟩,⟨A5,c5,e5⟩,⟨A6,c6,e6⟩⟩:=id hform
 dsimp only at e1 e2 e3 e4 e5 e6
 subst e1 e2 e3 e4 e5 e6
 have ql:=hf.l
 refine gv (f:=91) ?_
 refine rnT ?_
 refine TW.box rfl rfl rfl rfl ?_
 rintro g1 w1 f1
 refine rnT ?_
 have hB1:=f1.blk
 have hN1:=net_step hN f1.below
 have hb01:=f1.below.size
 refine CW.condP rfl (fun h1=> ?_) (fun n1=> ?_)
 ·exact absurd h1 (by decide)
 refine rnT ?_
 refine CW.condP rfl (fun h2=> ?_) (fun n2=> ?_)
 ·exact absurd h2 (by decide)
 refine rnT ?_
 refine CW.condP rfl (fun h3=> ?_) (fun n3=> ?_)
 ·exact absurd h3 (by decide)
 refine rnT ?_
 refine CW.condP rfl (fun h4=> ?_) (fun n4=> ?_)
 ·refine rnT ?_
  refine CW.lp [2] (fun x:Nat×Value=> [(5,none,x.2),(9,none,.int .i64 (x.1:Int))])
   (fun x W=>x.1≤N.lines.length∧Below w1.heap.size w1 W∧StrRow W w1.heap.size x.2 ((N.lines.map (·.name)).take x.1)) (fun x=>N.lines.length-x.1) (0,.slice none 0 0) ⟨Nat.zero_le _,Below.refl _ _,⟨OwnS.nil _ _ _,fun g hg=>by simp [Value.ownBlock] at hg⟩⟩ ?_
  rintro ⟨i,lv⟩ W ⟨hi,hB,hR⟩
  dsimp only at hi hR
  have hlen:(N.lines.map (·.name)).length=N.lines.length:=List.length_map _
  have hti:((N.lines.map (·.name)).take i).length=i:=by rw [List.length_take]; omega
  have hBW:=hB1.next hB
  have hbW:=hB.size
  obtain ⟨VA,vcap,rfl⟩:=hR.form
  refine rnT ?_
  refine TW.ld rfl (hBW.fld rfl) ?_
  refine rnT ?_
  refine CW.pk [2,5,9,79] rfl ?_
  refine CW.condP rfl (fun hlt=> ?_) (fun hge=> ?_)
  ·obtain ⟨x,hx,_⟩:=getx (l:=N.lines) (k:=i) (by omega)
   have hnW:=hN1.l.below hB
   obtain ⟨ad,rfl⟩:=hnW.addr (by omega)
   obtain ⟨ad',cs,e9,hF9,hrep9,hc9⟩:=hnW.at hx
   cases e9
   obtain ⟨rfl,_⟩:=hrep9
   have hnm:(N.lines.map (·.name))[i]?=some x.name:=by rw [List.getElem?_map,hx]; rfl
   refine rnT ?_
   refine TW.ld rfl (hBW.fld rfl) ?_
   refine rnT ?_
   refine TW.ld rfl (hc9 0 _ rfl) ?_
   refine TW.buildSlice 9 _ rfl rfl rfl eo23 (Args.cons rfl ct Args.nil) rfl rfl rfl rfl rfl ?_
   rintro g5 w5 f5
   have hR5:=hR.below f5.below
   have hb5:=f5.below.size
   refine TW.append [.string x.name] rfl rfl go23 rfl hR5.own rfl rfl (fun j u hj=>⟨_,rfl,f5.blk.fld hj⟩) (fun u hu=>by simp at hu; subst hu; rfl) (by omega) (by omega) ?_
   rintro lv' w6 o6 g6 n6
   refine rnT ?_
   have hW5:=hB.step f5.below
   have hR6:StrRow w6 w1.heap.size lv' ((N.lines.map (·.name)).take (i+1)):=by
    rw [List.take_add_one,hnm]
    exact hR5.app o6 n6 (by omega)
   refine KW.rd (i+1,lv') ⟨by show i+1≤N.lines.length; omega,hW5.grown g6 hW5.size (fun q hq=>hR.lb q hq),hR6⟩
  ·have ht:(N.lines.map (·.name)).take i=N.lines.map (·.name):=List.take_of_length_le (by omega)
   have hR':StrRow W w.heap.size (.slice VA ((N.lines.map (·.name)).take i).length vcap) (N.lines.map (·.name)):=⟨by
    have h9:=hR.own
    rw [ht] at h9 ⊢
    exact h9,fun g hg=>Nat.le_trans hb01 (hR.lb g hg)⟩
   refine rnT ?_
   refine rt1 rfl ⟨f1.below.step hB,hR'⟩
 ·exact absurd (by decide) n4
theorem names5_c (hN:NetAt w v N) (hf:FewN N):Gives Tryz.prog 91 #[.agg v.cells.toArray,.int .i64 5] w fun u w'=>Below w.heap.size w w'∧StrRow w' w.heap.size u (N.classes.map (·.name)):=by
 have hform:=NetIn.form hN
 obtain ⟨vc,vn,vo,vf,vl,vk⟩:=v
 obtain ⟨⟨A1,c1,e1⟩,⟨A2,c2,e2⟩,⟨A3,c3,e3⟩,⟨A4,c4,e4⟩,⟨A5,c5,e5⟩,⟨A6,c6,e6⟩⟩:=id hform
 dsimp only at e1 e2 e3 e4 e5 e6
 subst e1 e2 e3 e4 e5 e6
 have qk:=hf.k
 refine gv (f:=91) ?_
 refine rnT ?_
 refine TW.box rfl rfl rfl rfl ?_
 rintro g1 w1 f1
 refine rnT ?_
 have hB1:=f1.blk
 have hN1:=net_step hN f1.below
 have hb01:=f1.below.size
 refine CW.condP rfl (fun h1=> ?_) (fun n1=> ?_)
 ·exact absurd h1 (by decide)
 refine rnT ?_
 refine CW.condP rfl (fun h2=> ?_) (fun n2=> ?_)
 ·exact absurd h2 (by decide)
 refine rnT ?_
 refine CW.condP rfl (fun h3=> ?_) (fun n3=> ?_)
 ·exact absurd h3 (by decide)
 refine rnT ?_
 refine CW.condP rfl (fun h4=> ?_) (fun n4=> ?_)
 ·exact absurd h4 (by decide)
 refine rnT ?_
 refine CW.pk [0,1,2,4,5,11,91] rfl ?_
 refine CW.condP rfl (fun h5=> ?_) (fun n5=> ?_)
 ·refine rnT ?_
  refine CW.lp [2] (fun x:Nat×Value=> [(5,none,x.2),(10,none,.int .i64 (x.1:Int))])
   (fun x W=>x.1≤N.classes.length∧Below w1.heap.size w1 W∧StrRow W w1.heap.size x.2 ((N.classes.map (·.name)).take x.1)) (fun x=>N.classes.length-x.1) (0,.slice none 0 0) ⟨Nat.zero_le _,Below.refl _ _,⟨OwnS.nil _ _ _,fun g hg=>by simp [Value.ownBlock] at hg⟩⟩ ?_
  rintro ⟨i,lv⟩ W ⟨hi,hB,hR⟩
  dsimp only at hi hR
  have hlen:(N.classes.map (·.name)).length=N.classes.length:=List.length_map _
  have hti:((N.classes.map (·.name)).take i).length=i:=by rw [List.length_take]; omega
  have hBW:=hB1.next hB
  have hbW:=hB.size
  obtain ⟨VA,vcap,rfl⟩:=hR.form
  refine rnT ?_
  refine TW.ld rfl (hBW.fld rfl) ?_
  refine rnT ?_
  refine CW.condP rfl (fun hlt=> ?_) (fun hge=> ?_)
  ·obtain ⟨x,hx,_⟩:=getx (l:=N.classes) (k:=i) (by omega)
   have hnW:=hN1.k.below hB
   obtain ⟨ad,rfl⟩:=hnW.addr (by omega)
   obtain ⟨ad',cs,e9,hF9,hrep9,hc9⟩:=hnW.at hx
   cases e9
   obtain ⟨rfl,_⟩:=hrep9
   have hnm:(N.classes.map (·.name))[i]?=some x.name:=by rw [List.getElem?_map,hx]; rfl
   refine rnT ?_
   refine TW.ld rfl (hBW.fld rfl) ?_
   refine rnT ?_
   refine TW.ld rfl (hc9 0 _ rfl) ?_
   refine TW.buildSlice 9 _ rfl rfl rfl eo23 (Args.cons rfl ct Args.nil) rfl rfl rfl rfl rfl ?_
   rintro g5 w5 f5
   have hR5:=hR.below f5.below
   have hb5:=f5.below.size
   refine TW.append [.string x.name] rfl rfl go23 rfl hR5.own rfl rfl (fun j u hj=>⟨_,rfl,f5.blk.fld hj⟩) (fun u hu=>by simp at hu; subst hu; rfl) (by omega) (by omega) ?_
   rintro lv' w6 o6 g6 n6
   refine rnT ?_
   have hW5:=hB.step f5.below
   have hR6:StrRow w6 w1.heap.size lv' ((N.classes.map (·.name)).take (i+1)):=by
    rw [List.take_add_one,hnm]
    exact hR5.app o6 n6 (by omega)
   refine KW.rd (i+1,lv') ⟨by show i+1≤N.classes.length; omega,hW5.grown g6 hW5.size (fun q hq=>hR.lb q hq),hR6⟩
  ·have ht:(N.classes.map (·.name)).take i=N.classes.map (·.name):=List.take_of_length_le (by omega)
   have hR':StrRow W w.heap.size (.slice VA ((N.classes.map (·.name)).take i).length vcap) (N.classes.map (·.name)):=⟨by
    have h9:=hR.own
    rw [ht] at h9 ⊢
    exact h9,fun g hg=>Nat.le_trans hb01 (hR.lb g hg)⟩
   refine rnT ?_
   refine rt1 rfl ⟨f1.below.step hB,hR'⟩
 ·exact absurd (by decide) n5
theorem limit_c {k:Nat}:Gives Tryz.prog 128 #[.int .i64 (k:Int)] w fun u w'=>Below w.heap.size w w'∧u= .int .i64 (limN k:Int):=by
 refine gv (f:=128) ?_
 refine rnT ?_
 refine CW.condP rfl (fun h3=> ?_) (fun n3=> ?_)
 ·refine rnT ?_
  have:k=3:=by omega
  subst this
  refine rt1 rfl ⟨Below.refl _ _,rfl⟩
 refine rnT ?_
 refine CW.condP rfl (fun h4=> ?_) (fun n4=> ?_)
 ·refine rnT ?_
  have:k=4:=by omega
  subst this
  refine rt1 rfl ⟨Below.refl _ _,rfl⟩
 refine rnT ?_
 refine CW.condP rfl (fun h5=> ?_) (fun n5=> ?_)
 ·refine rnT ?_
  have:k=5:=by omega
  subst this
  refine rt1 rfl ⟨Below.refl _ _,rfl⟩
 refine rnT ?_
 have e:limN k=6:=by
  unfold limN
  rw [if_neg (by omega),if_neg (by omega),if_neg (by omega)]
 rw [e]
 refine rt1 rfl ⟨Below.refl _ _,rfl⟩
theorem roffice_c {ov:Value} {o:Of} {F:Nat→Prop} (hN:NVform v N) (hf:FewN N) (h:OfIn F w ov o):Gives Tryz.prog 155 #[.agg v.cells.toArray,.agg (ofV o ov).toArray] w fun x w'=>Below w.heap.size w w'∧x= .bool (dec (OfOK N o)):=by
 obtain ⟨A,cap,rfl,_⟩:=h.cd.form
 obtain ⟨vc,vn,vo,vf,vl,vk⟩:=v
 obtain ⟨⟨A1,c1,e1⟩,_,⟨A3,c3,e3⟩,_,_,_⟩:=hN
 dsimp only at e1 e3
 subst e1 e3
 have qc:=hf.c
 have qo:=hf.o
 refine gv (f:=155) ?_
 refine rnT ?_
 refine TW.box rfl rfl rfl rfl ?_
 rintro g1 w1 f1
 refine TW.box rfl rfl rfl rfl ?_
 rintro g2 w2 f2
 refine rnT ?_
 have hB1:=f1.blk.next f2.below
 have hB2:=f2.blk
 have b2:=f1.below.step f2.below
 have hcd:=h.cd.below b2
 have hcl:=h.cd.len.2.2
 refine CW.lp [2,3] (fun k:Nat=> [(5,none,.int .i64 (k:Int))])
  (fun k W=>k≤o.codes.length∧Below w2.heap.size w2 W∧ ∀c∈o.codes.take k,CodeOK c) (fun k=>o.codes.length-k) 0 ⟨Nat.zero_le _,Below.refl _ _,fun c hc=>by simp at hc⟩ ?_
 rintro k W ⟨hk,hBW,hok⟩
 have hcW:=hcd.below hBW
 have hB1W:=hB1.next hBW
 have hB2W:=hB2.next hBW
 refine rnT ?_
 refine TW.ld rfl (hB2W.fld rfl) ?_
 refine rnT ?_
 refine CW.pk [2,3,5,11] rfl ?_
 refine CW.condP rfl (fun hlt=> ?_) (fun hge=> ?_)
 ·obtain ⟨c,hc,hcm⟩:=getx (l:=o.codes) (k:=k) (by omega)
  obtain ⟨ad,rfl⟩:=hcW.addr (by omega)
  refine rnT ?_
  refine TW.ld rfl (hB2W.fld rfl) ?_
  refine rnT ?_
  refine TW.ld rfl (hcW.getT hc) ?_
  refine TW.cl rfl (rcode_c) ?_
  rintro y5 w5 ⟨d5,rfl⟩
  refine rnT ?_
  refine CW.cond rfl (fun hb1=> ?_) (fun hb2=> ?_)
  ·refine rnT ?_
   refine rt1 rfl ⟨(b2.step hBW).step d5,?_⟩
   rw [dec_neg fun h=> ?_]
   rw [dec_pos (h.codes c hcm)] at hb1
   simp at hb1
  ·refine rnT ?_
   refine KW.rd (k+1) ⟨by omega,hBW.step d5,fun z hz=> ?_⟩
   rw [List.take_add_one,hc] at hz
   rcases List.mem_append.1 hz with hz|hz
   ·exact hok z hz
   ·simp at hz
    subst hz
    exact dec_iff.1 (by simpa using hb2)
 ·rw [List.take_of_length_le (by omega)] at hok
  refine rnT ?_
  refine TW.ld rfl (hB2W.fld rfl) ?_
  refine rnT ?_
  refine TW.ld rfl (hB2W.fld rfl) ?_
  refine rnT ?_
  refine TW.ld rfl (hB1W.fld rfl) ?_
  refine rnT ?_
  refine TW.callF (cap:= []) rfl rfl en157 rfl ct (Args.cons rfl id (Args.cons rfl ct (Args.cons rfl id Args.nil))) (fun _=>between_c) ?_
  rintro w5 d5
  refine rnT ?_
  have hB15:=hB1W.next d5
  have hB25:=hB2W.next d5
  refine TW.ld rfl (hB25.fld rfl) ?_
  refine rnT ?_
  refine TW.ld rfl (hB15.fld rfl) ?_
  refine rnT ?_
  refine TW.callF (cap:= []) rfl rfl en157 rfl ct (Args.cons rfl id (Args.cons rfl ct (Args.cons rfl id Args.nil))) (fun _=>between_c) ?_
  rintro w6 d6
  refine rnT ?_
  have hB26:=hB25.next d6
  refine TW.ld rfl (hB26.fld rfl) ?_
  refine TW.callF (cap:= []) rfl rfl en157 rfl ct (Args.cons rfl id (Args.cons rfl ct (Args.cons rfl ct Args.nil))) (fun _=>between_c) ?_
  rintro w7 d7
  refine rnT ?_
  have hB27:=hB26.next d7
  refine TW.ld rfl (hB27.fld rfl) ?_
  refine TW.callF (cap:= []) rfl rfl en157 rfl ct (Args.cons rfl id (Args.cons rfl ct (Args.cons rfl ct Args.nil))) (fun _=>between_c) ?_
  rintro w8 d8
  refine rnT ?_
  have hB28:=hB27.next d8
  refine TW.ld rfl (hB28.fld rfl) ?_
  refine TW.callF (cap:= []) rfl rfl en157 rfl ct (Args.cons rfl id (Args.cons rfl ct (Args.cons rfl ct Args.nil))) (fun _=>between_c) ?_
  rintro w9 d9
  refine rnT ?_
  refine rt1 rfl ⟨(((((b2.step hBW).step d5).step d6).step d7).step d8).step d9,?_⟩
  by_cases hq:OfOK N o
  ·rw [dec_pos hq]
   have q1:=hq.p1
   have q2:=hq.p2
   have q3:=hq.q1
   have q4:=hq.q2
   have q5:=hq.m1
   have q6:=hq.m2
   have q7:=hq.o1
   have q8:=hq.o2
   have q9:=hq.c1
   have qa:=hq.c2
   have qb:=hq.few
   simp [q1,q2,q3,q4,q5,q6,q7,q9]
   omega
  ·rw [dec_neg hq]
   have: ¬((((((o.codes.length:Int)≤20∧0≤o.op∧o.op≤(N.ops.length:Int)-1)∧0≤o.cal∧o.cal≤(N.cals.length:Int)-1)∧2≤o.pock∧o.pock≤64)∧1≤o.pass∧o.pass≤4)∧1≤o.mins∧o.mins≤240):=fun ⟨⟨⟨⟨⟨h1,h2,h3⟩,h4,h5⟩,h6,h7⟩,h8,h9⟩,ha,hb⟩=>hq ⟨h2,by omega,h4,by omega,by omega,hok,h6,h7,h8,h9,ha,hb⟩
   congr 1
   simp only [Bool.and_eq_false_iff,decide_eq_false_iff_not]
   omega
theorem rline_c {l:Li} (hN:NVform v N) (hf:FewN N):Gives Tryz.prog 156 #[.agg v.cells.toArray,.agg (liV l).toArray] w fun x w'=>Below w.heap.size w w'∧x= .bool (dec (LiOK N l)):=by
 obtain ⟨vc,vn,vo,vf,vl,vk⟩:=v
 obtain ⟨_,_,_,⟨A4,c4,e4⟩,_,_⟩:=hN
 dsimp only at e4
 subst e4
 have qf:=hf.f
 refine gv (f:=156) ?_
 refine rnT ?_
 refine TW.box rfl rfl rfl rfl ?_
 rintro g1 w1 f1
 refine TW.box rfl rfl rfl rfl ?_
 rintro g2 w2 f2
 refine rnT ?_
 have hB1:=f1.blk.next f2.below
 have hB2:=f2.blk
 have b2:=f1.below.step f2.below
 refine TW.ld rfl (hB1.fld rfl) ?_
 refine rnT ?_
 refine TW.ld rfl (hB2.fld rfl) ?_
 refine rnT ?_
 refine TW.cl rfl (between_c) ?_
 rintro y3 w3 ⟨d3,rfl⟩
 have hB23:=hB2.next d3
 refine rnT ?_
 refine TW.ld rfl (hB23.fld rfl) ?_
 refine rnT ?_
 refine TW.callF (cap:= []) rfl rfl en157 rfl ct (Args.cons rfl id (Args.cons rfl ct (Args.cons rfl id Args.nil))) (fun _=>between_c) ?_
 rintro w4 d4
 refine rnT ?_
 have hB24:=hB23.next d4
 have b4:=(b2.step d3).step d4
 refine TW.ld rfl (hB24.fld rfl) ?_
 refine rnT ?_
 refine TW.ld rfl (hB24.fld rfl) ?_
 refine rnT ?_
 refine TW.ld rfl (hB24.fld rfl) ?_
 refine TW.callF (cap:= []) rfl rfl en157 rfl ct (Args.cons rfl id (Args.cons rfl ct (Args.cons rfl ct Args.nil))) (fun _=>between_c) ?_
 rintro w5 d5
 refine rnT ?_
 have hB25:=hB24.next d5
 refine TW.ld rfl (hB25.fld rfl) ?_
 refine TW.callF (cap:= []) rfl rfl en157 rfl ct (Args.cons rfl id (Args.cons rfl ct (Args.cons rfl ct Args.nil))) (fun _=>between_c) ?_
 rintro w6 d6
 refine rnT ?_
 have hB26:=hB25.next d6
 refine TW.ld rfl (hB26.fld rfl) ?_
 refine TW.callF (cap:= []) rfl rfl en157 rfl ct (Args.cons rfl id (Args.cons rfl ct (Args.cons rfl ct Args.nil))) (fun _=>between_c) ?_
 rintro w7 d7
 refine rnT ?_
 refine rt1 rfl ⟨((b4.step d5).step d6).step d7,?_⟩
 by_cases hq:LiOK N l
 ·rw [dec_pos hq]
  have q1:=hq.a1
  have q2:=hq.a2
  have q3:=hq.r1
  have q4:=hq.r2
  have q5:=hq.d1
  have q6:=hq.d2
  have q7:=hq.f1
  have q8:=hq.f2
  have q9:=hq.t1
  have qa:=hq.t2
  have qb:=hq.ne
  simp [q1,q2,q3,q4,q5,q6,q7,q9,qb]
  omega
 ·rw [dec_neg hq]
  have: ¬((((((0≤l.frm∧l.frm≤(N.offs.length:Int)-1)∧0≤l.to∧l.to≤(N.offs.length:Int)-1)∧l.frm≠l.to)∧0≤l.at_∧l.at_≤1439)∧1≤l.trav∧l.trav≤5000)∧1≤l.load∧l.load≤40):=fun ⟨⟨⟨⟨⟨⟨h1,h2⟩,h3,h4⟩,h5⟩,h6,h7⟩,h8,h9⟩,ha,hb⟩=>hq ⟨h1,by omega,h3,by omega,h5,h6,h7,h8,h9,ha,hb⟩
  congr 1
  simp only [Bool.and_eq_false_iff,decide_eq_false_iff_not]
  omega
theorem numbers1_c (hN:NetAt w v N) (hf:FewN N) (hx:N.cals[i]?=some x):Gives Tryz.prog 139 #[.agg v.cells.toArray,.int .i64 1,.int .i64 (i:Int)] w fun u w'=>Below w.heap.size w w'∧u= .bool (dec (CalOK x)):=by
 have hform:=NetIn.form hN
 obtain ⟨vc,vn,vo,vf,vl,vk⟩:=v
 obtain ⟨⟨A1,c1,e1⟩,⟨A2,c2,e2⟩,⟨A3,c3,e3⟩,⟨A4,c4,e4⟩,⟨A5,c5,e5⟩,⟨A6,c6,e6⟩⟩:=id hform
 dsimp only at e1 e2 e3 e4 e5 e6
 subst e1 e2 e3 e4 e5 e6
 have hil:=(List.getElem?_eq_some_iff.1 hx).1
 refine gv (f:=139) ?_
 refine rnT ?_
 refine TW.box rfl rfl rfl rfl ?_
 rintro g1 w1 f1
 refine rnT ?_
 have hB1:=f1.blk
 have hN1:=net_step hN f1.below
 refine CW.condP rfl (fun h1=> ?_) (fun n1=> ?_)
 ·have hnW:=hN1.c
  obtain ⟨ad,rfl⟩:=hnW.addr (by omega)
  obtain ⟨ad',cs,e9,hF9,hrep9,hc9⟩:=hnW.at hx
  cases e9
  obtain ⟨u1,u2,rfl,q1,q2,q3⟩:=hrep9
  refine rnT ?_
  refine TW.ld rfl (hB1.fld rfl) ?_
  refine rnT ?_
  refine TW.ldS rfl (hc9) ?_
  refine TW.cl rfl (rcalValid_c (u:=u1) (v:=u2) ⟨q1,q2,q3⟩) ?_
  rintro y5 w5 ⟨d5,rfl⟩
  refine rnT ?_
  refine rt1 rfl ⟨f1.below.step d5,rfl⟩
 ·exact absurd (by decide) n1
theorem numbers2_c (hN:NetAt w v N) (hf:FewN N) (hx:N.ops[i]?=some x):Gives Tryz.prog 139 #[.agg v.cells.toArray,.int .i64 2,.int .i64 (i:Int)] w fun u w'=>Below w.heap.size w w'∧u= .bool (dec (True)):=by
 have hform:=NetIn.form hN
 obtain ⟨vc,vn,vo,vf,vl,vk⟩:=v
 obtain ⟨⟨A1,c1,e1⟩,⟨A2,c2,e2⟩,⟨A3,c3,e3⟩,⟨A4,c4,e4⟩,⟨A5,c5,e5⟩,⟨A6,c6,e6⟩⟩:=id hform
 dsimp only at e1 e2 e3 e4 e5 e6
 subst e1 e2 e3 e4 e5 e6
 have hil:=(List.getElem?_eq_some_iff.1 hx).1
 refine gv (f:=139) ?_
 refine rnT ?_
 refine TW.box rfl rfl rfl rfl ?_
 rintro g1 w1 f1
 refine rnT ?_
 have hB1:=f1.blk
 have hN1:=net_step hN f1.below
 refine CW.condP rfl (fun h1=> ?_) (fun n1=> ?_)
 ·exact absurd h1 (by decide)
 refine rnT ?_
 refine CW.pk [0,1,2,3,6,7,16] rfl ?_
 refine CW.condP rfl (fun h3=> ?_) (fun n3=> ?_)
 ·exact absurd h3 (by decide)
 refine rnT ?_
 refine CW.condP rfl (fun h4=> ?_) (fun n4=> ?_)
 ·exact absurd h4 (by decide)
 refine rnT ?_
 refine CW.condP rfl (fun h5=> ?_) (fun n5=> ?_)
 ·exact absurd h5 (by decide)
 refine rnT ?_
 refine rt1 rfl ⟨f1.below,by rw [dec_pos trivial]⟩
theorem numbers3_c (hN:NetAt w v N) (hf:FewN N) (hx:N.offs[i]?=some x):Gives Tryz.prog 139 #[.agg v.cells.toArray,.int .i64 3,.int .i64 (i:Int)] w fun u w'=>Below w.heap.size w w'∧u= .bool (dec (OfOK N x)):=by
 have hform:=NetIn.form hN
 obtain ⟨vc,vn,vo,vf,vl,vk⟩:=v
 obtain ⟨⟨A1,c1,e1⟩,⟨A2,c2,e2⟩,⟨A3,c3,e3⟩,⟨A4,c4,e4⟩,⟨A5,c5,e5⟩,⟨A6,c6,e6⟩⟩:=id hform
 dsimp only at e1 e2 e3 e4 e5 e6
 subst e1 e2 e3 e4 e5 e6
 have hil:=(List.getElem?_eq_some_iff.1 hx).1
 refine gv (f:=139) ?_
 refine rnT ?_
 refine TW.box rfl rfl rfl rfl ?_
 rintro g1 w1 f1
 refine rnT ?_
 have hB1:=f1.blk
 have hN1:=net_step hN f1.below
 refine CW.condP rfl (fun h1=> ?_) (fun n1=> ?_)
 ·exact absurd h1 (by decide)
 refine rnT ?_
 refine CW.pk [0,1,2,3,6,7,16] rfl ?_
 refine CW.condP rfl (fun h3=> ?_) (fun n3=> ?_)
 ·have hnW:=hN1.f
  obtain ⟨ad,rfl⟩:=hnW.addr (by omega)
  obtain ⟨ad',cs,e9,hF9,hrep9,hc9⟩:=hnW.at hx
  cases e9
  obtain ⟨u1,rfl,q1,q2,q3,q4,q5,q6,q7⟩:=hrep9
  have h9:OfIn _ w1 u1 x:=⟨q1,q2,q3,q4,q5,q6,q7⟩
  refine CW.seq ?_
  refine CW.draw mixed (by kernel_rfl) ?_
  refine DW.ldS rfl (fun _ _ hv=>hB1.fld hv) ?_
  refine rnD ?_
  refine DW.ld rfl (hB1.fld rfl) ?_
  refine rnD ?_
  refine DW.ldS rfl (hc9) ?_
  refine DW.cl (.ex (.bool (dec (OfOK N x)))) trivial rfl (fun _ w' hb'=>(roffice_c hform hf (h9.below hb')).mono fun u w'' ⟨p1,p2⟩=>⟨p1,p2⟩) ?_
  refine rnD ?_
  refine DW.fi [0,1,2,3,6,7] rfl fun w7 b7=> ?_
  refine rnT ?_
  refine rt1 rfl ⟨f1.below.step b7,rfl⟩
 ·exact absurd (by decide) n3
theorem numbers4_c (hN:NetAt w v N) (hf:FewN N) (hx:N.lines[i]?=some x):Gives Tryz.prog 139 #[.agg v.cells.toArray,.int .i64 4,.int .i64 (i:Int)] w fun u w'=>Below w.heap.size w w'∧u= .bool (dec (LiOK N x)):=by
 have hform:=NetIn.form hN
 obtain ⟨vc,vn,vo,vf,vl,vk⟩:=v
 obtain ⟨⟨A1,c1,e1⟩,⟨A2,c2,e2⟩,⟨A3,c3,e3⟩,⟨A4,c4,e4⟩,⟨A5,c5,e5⟩,⟨A6,c6,e6⟩⟩:=id hform
 dsimp only at e1 e2 e3 e4 e5 e6
 subst e1 e2 e3 e4 e5 e6
 have hil:=(List.getElem?_eq_some_iff.1 hx).1
 refine gv (f:=139) ?_
 refine rnT ?_
 refine TW.box rfl rfl rfl rfl ?_
 rintro g1 w1 f1
 refine rnT ?_
 refine CW.pk [0,1,2,3,6,7,8] rfl ?_
 have hB1:=f1.blk
 have hN1:=net_step hN f1.below
 refine CW.condP rfl (fun h1=> ?_) (fun n1=> ?_)
 ·exact absurd h1 (by decide)
 refine rnT ?_
 refine CW.condP rfl (fun h3=> ?_) (fun n3=> ?_)
 ·exact absurd h3 (by decide)
 refine rnT ?_
 refine CW.condP rfl (fun h4=> ?_) (fun n4=> ?_)
 ·have hnW:=hN1.l
  obtain ⟨ad,rfl⟩:=hnW.addr (by omega)
  obtain ⟨ad',cs,e9,hF9,hrep9,hc9⟩:=hnW.at hx
  cases e9
  obtain ⟨rfl,q1⟩:=hrep9
  refine CW.seq ?_
  refine CW.draw mixed (by kernel_rfl) ?_
  refine DW.ldS rfl (fun _ _ hv=>hB1.fld hv) ?_
  refine rnD ?_
  refine DW.ld rfl (hB1.fld rfl) ?_
  refine rnD ?_
  refine DW.ldS rfl (hc9) ?_
  refine DW.cl (.ex (.bool (dec (LiOK N x)))) trivial rfl (fun _ w' hb'=>(rline_c hform hf).mono fun u w'' ⟨p1,p2⟩=>⟨p1,p2⟩) ?_
  refine rnD ?_
  refine DW.fi [0,1,2,3,6,7] rfl fun w7 b7=> ?_
  refine rnT ?_
  refine rt1 rfl ⟨f1.below.step b7,rfl⟩
 ·exact absurd (by decide) n4
theorem numbers5_c (hN:NetAt w v N) (hf:FewN N) (hx:N.classes[i]?=some x):Gives Tryz.prog 139 #[.agg v.cells.toArray,.int .i64 5,.int .i64 (i:Int)] w fun u w'=>Below w.heap.size w w'∧u= .bool (dec (ClaOK x)):=by
 have hform:=NetIn.form hN
 obtain ⟨vc,vn,vo,vf,vl,vk⟩:=v
 obtain ⟨⟨A1,c1,e1⟩,⟨A2,c2,e2⟩,⟨A3,c3,e3⟩,⟨A4,c4,e4⟩,⟨A5,c5,e5⟩,⟨A6,c6,e6⟩⟩:=id hform
 dsimp only at e1 e2 e3 e4 e5 e6
 subst e1 e2 e3 e4 e5 e6
 have hil:=(List.getElem?_eq_some_iff.1 hx).1
 refine gv (f:=139) ?_
 refine rnT ?_
 refine TW.box rfl rfl rfl rfl ?_
 rintro g1 w1 f1
 refine rnT ?_
 refine CW.pk [0,1,2,3,6,7,8] rfl ?_
 have hB1:=f1.blk
 have hN1:=net_step hN f1.below
 refine CW.condP rfl (fun h1=> ?_) (fun n1=> ?_)
 ·exact absurd h1 (by decide)
 refine rnT ?_
 refine CW.condP rfl (fun h3=> ?_) (fun n3=> ?_)
 ·exact absurd h3 (by decide)
 refine rnT ?_
 refine CW.condP rfl (fun h4=> ?_) (fun n4=> ?_)
 ·exact absurd h4 (by decide)
 refine rnT ?_
 refine CW.condP rfl (fun h5=> ?_) (fun n5=> ?_)
 ·have hnW:=hN1.k
  obtain ⟨ad,rfl⟩:=hnW.addr (by omega)
  obtain ⟨ad',cs,e9,hF9,hrep9,hc9⟩:=hnW.at hx
  cases e9
  obtain ⟨rfl,q1⟩:=hrep9
  refine rnT ?_
  refine TW.ld rfl (hB1.fld rfl) ?_
  refine rnT ?_
  refine TW.ld rfl (hc9 1 _ rfl) ?_
  refine TW.cl rfl (between_c) ?_
  rintro y5 w5 ⟨d5,rfl⟩
  have hB5:=hB1.next d5
  have hc95:w5.cell? (Addr.add (Addr.add ad ((i:Int).toNat*3)) 2)=some (.int .i64 x.del):=by
   have h9:=hc9 2 _ rfl
   exact (d5.cell (block_lt_of_cell h9)).trans h9
  refine rnT ?_
  refine TW.ld rfl (hB5.fld rfl) ?_
  refine rnT ?_
  refine TW.ld rfl hc95 ?_
  refine TW.callF (cap:= []) rfl rfl en157 rfl ct (Args.cons rfl id (Args.cons rfl ct (Args.cons rfl ct Args.nil))) (fun _=>between_c) ?_
  rintro w6 d6
  refine rnT ?_
  refine rt1 rfl ⟨(f1.below.step d5).step d6,?_⟩
  by_cases hq:ClaOK x
  ·rw [dec_pos hq]
   simp [hq.c1,hq.c2,hq.d1,hq.d2]
  ·rw [dec_neg hq]
   have: ¬((0≤x.cut∧x.cut≤1439)∧0≤x.del∧x.del≤1439):=fun h=>hq ⟨h.1.1,h.1.2,h.2.1,h.2.2⟩
   congr 1
   simp only [Bool.and_eq_false_iff,decide_eq_false_iff_not]
   omega
 ·exact absurd (by decide) n5
end Go.Proofs.YtffjgpoadfkjlaaGreatDoor
