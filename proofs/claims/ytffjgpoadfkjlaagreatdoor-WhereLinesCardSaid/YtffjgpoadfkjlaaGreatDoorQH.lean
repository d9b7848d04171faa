/- Texts of this claim,joined. -/
import Derived.Test.YtffjgpoadfkjlaaGreatDoorQG
import Derived.Maps.RangeRun
set_option linter.unusedSimpArgs false
set_option linter.unusedVariables false
set_option maxRecDepth 100000
set_option maxHeartbeats 4000000
namespace Go.Ord
open Go.PF
def insS (n:Int):List Int→List Int
 | []=> [n]
 | x::l=>if x<n then x::insS n l else if x=n then x::l else n::x::l
def Inc (l:List Int):Prop:=l.Pairwise (· < ·)
theorem mem_insS {n x:Int}: ∀ {l:List Int},x∈insS n l↔x=n∨x∈l
 | []=>by simp [insS]
 | y::l=>by
  unfold insS
  split
  ·rw [List.mem_cons,mem_insS,List.mem_cons]
   constructor
   ·rintro (h|h|h)
    ·exact .inr (.inl h)
    ·exact .inl h
    ·exact .inr (.inr h)
   ·rintro (h|h|h)
    ·exact .inr (.inl h)
    ·exact .inl h
    ·exact .inr (.inr h)
  ·split
   ·rename_i h; subst h; simp
   ·simp
theorem Inc.insS {n:Int}: ∀ {l:List Int},Inc l→Inc (insS n l)
 | [],_=>List.pairwise_singleton _ _
 | y::l,h=>by
  have h':=List.pairwise_cons.1 h
  unfold Ord.insS
  split
  ·refine List.pairwise_cons.2 ⟨fun x hx=> ?_,Inc.insS h'.2⟩
   rcases mem_insS.1 hx with rfl|hx
   ·assumption
   ·exact h'.1 x hx
  ·split
   ·exact h
   ·refine List.pairwise_cons.2 ⟨fun x hx=> ?_,h⟩
    rcases List.mem_cons.1 hx with rfl|hx
    ·omega
    ·have:=h'.1 x hx; omega
def insAll (a:List Int) (l:List Int):List Int:=l.foldl (fun acc n=>insS n acc) a
theorem mem_insAll {x:Int}: ∀ {l a:List Int},x∈insAll a l↔x∈a∨x∈l
 | [],a=>by simp [insAll]
 | n::l,a=>by
  have:insAll a (n::l)=insAll (insS n a) l:=rfl
  rw [this,mem_insAll,mem_insS,List.mem_cons]
  constructor
  ·rintro ((h|h)|h)
   ·exact .inr (.inl h)
   ·exact .inl h
   ·exact .inr (.inr h)
  ·rintro (h|h|h)
   ·exact .inl (.inr h)
   ·exact .inl (.inl h)
   ·exact .inr h
theorem Inc.insAll: ∀ {l a:List Int},Inc a→Inc (insAll a l)
 | [],_,h=>h
 | n::l,a,h=>Inc.insAll (l:=l) (Inc.insS h)
def needsOf (l:List Ev):List Int:=l.flatMap (·.needs)
def recsS (l:List Ev):List Int:=insAll [] (needsOf l)
theorem mem_recsS {l:List Ev} {x:Int}:x∈recsS l↔ ∃e∈l,x∈e.needs:=by
 unfold recsS needsOf
 rw [mem_insAll,List.mem_flatMap]
 simp
theorem recsS_inc (l:List Ev):Inc (recsS l):=Inc.insAll List.Pairwise.nil
theorem Inc.nodup {l:List Int} (h:Inc l):l.Nodup:=h.imp fun h e=>by omega
theorem inc_ext: ∀ {a b:List Int},Inc a→Inc b→(∀x,x∈a↔x∈b)→a=b
 | [],[],_,_,_=>rfl
 | [],y::b,_,_,h=>by have:=(h y).2 (by simp); cases this
 | x::a,[],_,_,h=>by have:=(h x).1 (by simp); cases this
 | x::a,y::b,ha,hb,h=>by
  have ha':=List.pairwise_cons.1 ha
  have hb':=List.pairwise_cons.1 hb
  have hxy:x=y:=by
   rcases List.mem_cons.1 ((h x).1 (by simp)) with e|hx
   ·exact e
   ·rcases List.mem_cons.1 ((h y).2 (by simp)) with e|hy
    ·exact e.symm
    ·have:=ha'.1 y hy
     have:=hb'.1 x hx
     omega
  subst hxy
  rw [inc_ext ha'.2 hb'.2 (fun z=> ?_)]
  constructor
  ·intro hz
   rcases List.mem_cons.1 ((h z).1 (by simp [hz])) with e|hz'
   ·subst e; have:=ha'.1 z hz; omega
   ·exact hz'
  ·intro hz
   rcases List.mem_cons.1 ((h z).2 (by simp [hz])) with e|hz'
   ·subst e; have:=hb'.1 z hz; omega
   ·exact hz'
theorem nodup_len {α:Type} [DecidableEq α]: ∀ {l k:List α},l.Nodup→(∀x∈l,x∈k)→l.length≤k.length
 | [],_,_,_=>Nat.zero_le _
 | x::l,k,hn,hs=>by
  have hn':=List.nodup_cons.1 hn
  have hx:=hs x (by simp)
  have:=nodup_len (l:=l) (k:=k.erase x) hn'.2 (fun y hy=>(List.mem_erase_of_ne (fun e=>hn'.1 (by rw [←e]; exact hy))).2 (hs y (by simp [hy])))
  rw [List.length_erase_of_mem hx] at this
  have:=List.length_pos_of_mem hx
  simp only [List.length_cons]
  omega
theorem inc_sorted {xs:List Int} (hn:xs.Nodup):Inc (xs.mergeSort fun x y=>decide (x≤y)):=by
 have h1:(xs.mergeSort fun x y=>decide (x≤y)).Pairwise (fun x y=>decide (x≤y)=true):=List.pairwise_mergeSort (fun a b c h1 h2=>by simp at *; omega) (fun a b=>by simp; omega) xs
 have h2:(xs.mergeSort fun x y=>decide (x≤y)).Nodup:=(List.mergeSort_perm xs _).nodup_iff.2 hn
 refine List.Pairwise.imp₂ (fun a b h3 h4=> ?_) h1 h2
 have:a≤b:=by simpa using h3
 omega
def setsS:List Int→Nat→List (List Int)
 | _,0=> [[]]
 | [],_+1=> []
 | x::l,k+1=>(setsS l k).map (x:: ·)++setsS l (k+1)
theorem mem_setsS: ∀ {l:List Int} {k:Nat} {s:List Int},s∈setsS l k↔s.Sublist l∧s.length=k
 | l,0,s=>by
  have:setsS l 0= [[]]:=by cases l<;>rfl
  rw [this,List.mem_singleton]
  constructor
  ·rintro rfl; exact ⟨List.nil_sublist _,rfl⟩
  ·intro h; exact List.eq_nil_of_length_eq_zero h.2
 | [],k+1,s=>by
  simp [setsS]
  rintro rfl
  simp
 | x::l,k+1,s=>by
  simp only [setsS,List.mem_append,List.mem_map]
  constructor
  ·rintro (⟨t,ht,rfl⟩|hs)
   ·obtain ⟨h1,h2⟩:=mem_setsS.1 ht
    exact ⟨h1.cons_cons x,by simp [h2]⟩
   ·obtain ⟨h1,h2⟩:=mem_setsS.1 hs
    exact ⟨h1.cons x,h2⟩
  ·rintro ⟨h1,h2⟩
   cases h1 with
   | cons _ h=>exact .inr (mem_setsS.2 ⟨h,h2⟩)
   | cons_cons _ h=>exact .inl ⟨_,mem_setsS.2 ⟨h,by simpa using h2⟩,rfl⟩
theorem setsS_short: ∀(l:List Int) (k:Nat),l.length<k→setsS l k= []
 | l,0,h=>by omega
 | [],k+1,_=>rfl
 | x::l,k+1,h=>by
  simp only [setsS]
  rw [setsS_short l k (by simp at h; omega),setsS_short l (k+1) (by simp at h; omega)]
  rfl
theorem setsS_len: ∀(l:List Int) (k:Nat),(setsS l k).length≤(l.length+1) ^ k
 | l,0=>by cases l<;>simp [setsS]
 | [],k+1=>by simp [setsS]
 | x::l,k+1=>by
  have h1:=setsS_len l k
  have h2:=setsS_len l (k+1)
  have h3:(l.length+1) ^ k≤(l.length+2) ^ k:=Nat.pow_le_pow_left (by omega) k
  simp only [setsS,List.length_append,List.length_map,List.length_cons]
  rw [Nat.pow_succ] at h2 ⊢
  have h4:(l.length+1) ^ k*(l.length+1)≤(l.length+2) ^ k*(l.length+1):=Nat.mul_le_mul_right _ h3
  have h5:(l.length+1+1) ^ k*(l.length+1+1)=(l.length+2) ^ k*(l.length+1)+(l.length+2) ^ k:=by rw [show l.length+1+1=l.length+2 from rfl,show l.length+2=(l.length+1)+1 from rfl,Nat.mul_add,Nat.mul_one]
  omega
def setsAt (l:List Int) (k i:Nat):List (List Int):=match l[i]? with
 | some x=>(setsS (l.drop (i+1)) k).map (x:: ·)
 | none=> []
def setsTo (l:List Int) (k n:Nat):List (List Int):=(List.range n).flatMap (setsAt l k)
theorem setsTo_succ (l:List Int) (k n:Nat):setsTo l k (n+1)=setsTo l k n++setsAt l k n:=by
 simp [setsTo,List.range_succ,List.flatMap_append]
theorem setsTo_cons (x:Int) (l:List Int) (k:Nat): ∀n,setsTo (x::l) k (n+1)=(setsS l k).map (x:: ·)++setsTo l k n
 | 0=>by simp [setsTo,setsAt]
 | n+1=>by
  rw [setsTo_succ,setsTo_cons x l k n,setsTo_succ l k n,List.append_assoc]
  rfl
theorem setsS_eq: ∀(l:List Int) (k:Nat),setsS l (k+1)=setsTo l k l.length
 | [],k=>rfl
 | x::l,k=>by
  show (setsS l k).map (x:: ·)++setsS l (k+1)=setsTo (x::l) k (l.length+1)
  rw [setsTo_cons,setsS_eq l k]
theorem setsTo_enough {l:List Int} {k:Nat}: ∀(n m:Nat),l.length≤n+k→setsTo l k (n+m)=setsTo l k n
 | n,0,_=>rfl
 | n,m+1,h=>by
  rw [←Nat.add_assoc,setsTo_succ,setsTo_enough n m h]
  have:setsAt l k (n+m)= []:=by
   unfold setsAt
   split
   ·rw [setsS_short _ _ (by rw [List.length_drop]; rename_i hx; have:=(List.getElem?_eq_some_iff.1 hx).1; omega)]
    rfl
   ·rfl
  rw [this,List.append_nil]
end Go.Ord
namespace Go.Proofs.YtffjgpoadfkjlaaGreatDoor
open Go.PF Go.RowKit Go.Ord
attribute [local irreducible] TW CW KW DW
variable {w:World} {l:List Ev} {v:Value} {d:Dist}
def PredE (w:World) (k:FuncId) (caps:List Value) (p:Ev→Bool):Prop:= ∀(e:Ev) (nv:Value) (F:Nat→Prop) (w':World),Below w.heap.size w w'→SL intT F w' nv e.needs →
 Gives Tryz.prog k (.agg #[.int .i64 e.office,.int .i64 e.low,.int .i64 e.high,nv]::caps).toArray w' fun u w''=>Below w'.heap.size w' w''∧u= .bool (p e)
theorem indexE_c {k:FuncId} {caps:List Value} {p:Ev→Bool} (hl:SE w v l) (hk:enters Tryz.prog k=true) (hp:PredE w k caps p) :
  Gives Tryz.prog 99 #[v,.func (.func k) #[] caps.toArray] w fun x w'=>Below w.heap.size w w'∧((x= .int .i64 (-1)∧l.any p=false)∨ ∃i:Nat,x= .int .i64 (i:Int)∧l.any p=true):=by
 obtain ⟨A,cap,rfl,_⟩:=hl.form
 have hmax:l.length≤9223372036854775807:=hl.len.2.2
 refine gv (f:=99) ?_
 refine rnT ?_
 refine CW.lp [0,1,7] (fun i:Nat=> [(8,none,.int .i64 (i:Int))])
  (fun i W=>i≤l.length∧Below w.heap.size w W∧(l.take i).any p=false) (fun i=>l.length-i) 0 ⟨Nat.zero_le _,Below.refl _ _,rfl⟩ ?_
 rintro i W ⟨hi,hB,hno⟩
 refine rnT ?_
 refine CW.condP rfl (fun hlt=> ?_) (fun hge=> ?_)
 ·have hil:i<l.length:=by omega
  have hlW:=se_step hl hB
  obtain ⟨ad,rfl⟩:=hlW.addr (by omega)
  obtain ⟨e,he⟩: ∃e,l[i]?=some e:=⟨l[i],List.getElem?_eq_getElem hil⟩
  obtain ⟨nv,hcells,i1,i2,i3,hneeds⟩:=SE.get hlW he
  refine rnT ?_
  refine TW.ldS rfl (hcells) ?_
  refine TW.call0 rfl rfl hk rfl (Args.cons rfl ct Args.nil) (hp e nv _ _ hB hneeds) ?_
  rintro y1 w1 ⟨hb1,rfl⟩
  refine rnT ?_
  refine CW.cond rfl (fun hyes=> ?_) (fun hnot=> ?_)
  ·refine rnT ?_
   refine rt1 rfl ⟨hB.step hb1,.inr ⟨i,rfl,?_⟩⟩
   rw [List.any_eq_true]
   exact ⟨e,List.mem_of_getElem? he,hyes⟩
  ·refine rnT ?_
   refine KW.rd (i+1) ⟨by omega,hB.step hb1,?_⟩
   rw [List.take_add_one,List.any_append,hno,he]
   simp [hnot]
 ·refine rnT ?_
  refine rt1 rfl ⟨hB,.inl ⟨rfl,?_⟩⟩
  rw [show i=l.length by omega,List.take_length] at hno
  exact hno
theorem containsE_c {k:FuncId} {caps:List Value} {p:Ev→Bool} (hl:SE w v l) (hk:enters Tryz.prog k=true) (hp:PredE w k caps p) :
  Gives Tryz.prog 84 #[v,.func (.func k) #[] caps.toArray] w fun x w'=>Below w.heap.size w w'∧x= .bool (l.any p):=by
 refine gv (f:=84) ?_
 refine rnT ?_
 refine TW.cl rfl (indexE_c hl hk hp) ?_
 rintro y1 w1 ⟨hb1,h1⟩
 rcases h1 with ⟨rfl,h1⟩|⟨i,rfl,h1⟩
 ·skip
  refine rnT ?_
  refine rt1 rfl ⟨hb1,by rw [h1]; rfl⟩
 ·skip
  refine rnT ?_
  refine rt1 rfl ⟨hb1,by rw [h1]; simp⟩
structure WfP (d:Dist) (l:List Ev):Prop where
 wd:WfD d
 few:l.length≤14
 each: ∀e∈l,EOK d e
 pos: ∀e∈l,∀r∈e.needs,0≤r
theorem WfP.wfe (h:WfP d l):WfE d l:=⟨h.wd,by have:=h.few; omega,h.each⟩
theorem poss_nil (d:Dist):Poss d []:=⟨[],rfl,by simp,List.Pairwise.nil⟩
theorem wf11_c:PredI Tryz.prog w 86 [] fun x=>decide (x<0):=by
 intro x w1 hb1
 refine gv (f:=86) ?_
 refine rnT ?_
 refine rt1 rfl ⟨Below.refl _ _,rfl⟩
def badE (d:Dist) (e:Ev):Bool:=(e.needs.any fun x=>decide (x<0))||decide (e.office<0)||decide (e.office ≥ (d.length:Int))
theorem wf1_c {g:Nat} {A:Option Addr} {cap:Nat} (hg:Blk w g 30 [.slice A d.length cap]):PredE w 85 [.pointer (some ⟨g,0,none⟩)] (badE d):=by
 intro e nv F w1 hb1 hn
 obtain ⟨C,ccap,rfl,_⟩:=hn.form
 have hg1:=hg.next hb1
 refine gv (f:=85) ?_
 refine rnT ?_
 refine TW.box rfl rfl rfl rfl ?_
 rintro g2 w2 f2
 refine rnT ?_
 refine TW.ld rfl (f2.blk.fld rfl) ?_
 refine TW.cl rfl (containsI_c (hn.below f2.below) en86 wf11_c) ?_
 rintro y3 w3 ⟨hb3,rfl⟩
 have hB3:=f2.blk.next hb3
 have hg3:=(hg1.next f2.below).next hb3
 refine rnT ?_
 refine TW.ld rfl (hB3.fld rfl) ?_
 refine rnT ?_
 refine TW.ld rfl (hB3.fld rfl) ?_
 refine TW.ld rfl (hg3.cell 0) ?_
 refine rnT ?_
 refine rt1 rfl ⟨f2.below.step hb3,rfl⟩
theorem pwell_c {u:Value} (hd:SD w v d) (hl:SE w u l):Gives Tryz.prog 38 #[v,u] w fun x w'=>Below w.heap.size w w'∧x= .bool (dec (WfP d l)):=by
 obtain ⟨A,cap,rfl,hcap⟩:=hd.form
 obtain ⟨B,lcap,rfl,hlcap⟩:=hl.form
 have hlmax:l.length≤9223372036854775807:=hl.len.2.2
 refine gv (f:=38) ?_
 refine rnT ?_
 refine TW.box rfl rfl rfl rfl ?_
 rintro g w1 f1
 refine rnT ?_
 refine TW.ld rfl (f1.blk.cell 0) ?_
 refine TW.cl rfl (fit_c (sd_step hd f1.below) (SL.nil evT (fun k=>k<w1.heap.size) w1)) ?_
 rintro y2 w2 ⟨hb2,tv,rfl⟩
 have hB2:=f1.below.step hb2
 have hfd:dec (Fitted d [])=dec (WfD d):=dec_congr ⟨fun h=>h.1.wd,fun h=>⟨⟨h,by simp,by simp⟩,poss_nil d⟩⟩
 rw [hfd]
 refine rnT ?_
 refine CW.pk [0,1,2,4,6,18] rfl ?_
 refine CW.cond rfl (fun hbad=> ?_) (fun hgood=> ?_)
 ·refine rnT ?_
  refine rt1 rfl ⟨hB2,?_⟩
  rw [dec_neg]
  intro h
  rw [dec_pos h.wd] at hbad
  simp at hbad
  have:=h.few
  omega
 have hwd:WfD d:=dec_iff.1 (by cases hq:dec (WfD d)<;>simp_all)
 have hfew:l.length≤14:=by
  simp [dec_pos hwd] at hgood
  omega
 refine rnT ?_
 refine TW.makeFunc rfl rfl (Args.cons rfl ct Args.nil) ?_
 refine TW.cl rfl (containsE_c (se_step hl hB2) en85 (wf1_c (f1.blk.next hb2))) ?_
 rintro y3 w3 ⟨hb3,rfl⟩
 refine rnT ?_
 refine rt1 rfl ⟨hB2.step hb3,?_⟩
 cases ha:l.any (badE d) with
 | true =>
  rw [dec_neg]
  ·rfl
  ·intro h
   rw [List.any_eq_true] at ha
   obtain ⟨e,he,hb⟩:=ha
   have h1:=h.each e he
   have:=h1.o1
   have:=h1.o2
   unfold badE at hb
   simp at hb
   rcases hb with (⟨x,hx,hx0⟩|hb)|hb
   ·have:=h.pos e he x hx; omega
   ·omega
   ·omega
 | false =>
  rw [dec_pos]
  ·rfl
  ·rw [List.any_eq_false] at ha
   refine ⟨hwd,hfew,fun e he=> ?_,fun e he r hr=> ?_⟩
   ·have:=ha e he
    unfold badE at this
    simp at this
    exact ⟨this.1.2,this.2⟩
   ·have:=ha e he
    unfold badE at this
    simp at this
    exact this.1.1 r hr
end Go.Proofs.YtffjgpoadfkjlaaGreatDoor
namespace Go.Ord
variable {d:Dist}
theorem ets_of: ∀(evs:List Ev) (l:List UB),(l.map (·.1)).Perm (evs.map uOf)→l.Pairwise (fun a b=>Bef d a b∨Bef d b a)→ ∃m:List ET,m.map (·.1)=evs∧(m.map fun x=>(uOf x.1,x.2)).Perm l:=by
 intro evs
 induction evs with
 | nil =>
  intro l hl _
  have:l= []:=by
   have:=hl.length_eq
   simp at this
   exact this
  subst this
  exact ⟨[],rfl,List.Perm.refl _⟩
 | cons e evs ih =>
  intro l hl hpw
  have hm:uOf e∈l.map (·.1):=hl.mem_iff.2 (by simp)
  rw [List.mem_map] at hm
  obtain ⟨x,hx,hxe⟩:=hm
  obtain ⟨pre,post,rfl⟩:=List.append_of_mem hx
  have h4:((pre++post).map (·.1)).Perm (evs.map uOf):=by
   have q:((pre++x::post).map (·.1)).Perm (uOf e::(pre++post).map (·.1)):=by
    rw [←hxe]
    exact (List.perm_middle (a:=x) (l₁:=pre) (l₂:=post)).map (fun y:UB=>y.1)
   have q2:(uOf e::(pre++post).map (·.1)).Perm (uOf e::evs.map uOf):=q.symm.trans (by simpa using hl)
   exact List.Perm.cons_inv q2
  have hpw':(x::(pre++post)).Pairwise (fun a b=>Bef d a b∨Bef d b a):=pairwise_or List.perm_middle hpw
  obtain ⟨m,hm1,hm2⟩:=ih (pre++post) h4 (List.pairwise_cons.1 hpw').2
  refine ⟨(e,x.2)::m,by simp [hm1],?_⟩
  refine List.Perm.trans ?_ List.perm_middle.symm
  have:(uOf e,x.2)=x:=by rw [←hxe]
  rw [List.map_cons]
  show ((uOf e,x.2)::_).Perm _
  rw [this]
  exact hm2.cons x
def jU (a b:Ev) (g:Int):U:=⟨max (lowC a) (lowC b-g),min (highC a) (highC b-g),g,a.office.toNat,b.office.toNat⟩
def OKt (e:Ev) (t:Int):Prop:=0≤t∧t≤1000000∧e.low≤t∧t≤e.high
theorem okt_iff {e:Ev} {t:Int}:OKt e t↔lowC e≤t∧t≤highC e:=by
 unfold OKt lowC highC
 omega
def LegOK (d:Dist) (a b:Ev) (g:Int):Prop:=at2 d a.office.toNat b.office.toNat≠ -1∧at2 d a.office.toNat b.office.toNat≤g
def TimesJ (d:Dist) (l:List ET) (a b:Ev) (g t:Int):Prop:=HoldsN d l∧OKt a t∧OKt b (t+g)∧ ∀x∈l,Aft d x (a,t)∨Aft d (b,t+g) x
def PossJ (d:Dist) (rest:List Ev) (a b:Ev) (g:Int):Prop:=LegOK d a b g∧ ∃(l:List ET) (t:Int),l.map (·.1)=rest∧TimesJ d l a b g t
theorem jU_ok {a b:Ev} {g:Int} (ha:EOK d a) (hb:EOK d b) (hl:LegOK d a b g):UOK d (jU a b g):=by
 have h1:=ha.o1
 have h2:=ha.o2
 have h3:=hb.o1
 have h4:=hb.o2
 exact ⟨by show a.office.toNat<_; omega,by show b.office.toNat<_; omega,hl.1,hl.2⟩
theorem jU_win {a b:Ev} {g t:Int}:(jU a b g).low≤t∧t≤(jU a b g).high↔OKt a t∧OKt b (t+g):=by
 rw [okt_iff,okt_iff]
 show max (lowC a) (lowC b-g)≤t∧t≤min (highC a) (highC b-g)↔_
 omega
theorem feasJ_iff (hd:WfD d) {rest:List Ev} (he: ∀e∈rest,EOK d e) {a b:Ev} {g:Int} (ha:EOK d a) (hb:EOK d b) (hg:0≤g) (hl:LegOK d a b g) {us:List U} (hp:us.Perm (jU a b g::rest.map uOf)):PossJ d rest a b g↔(∀u∈us,u.low≤u.high)∧Feas d (none,0) us:=by
 have huok: ∀u∈us,UOK d u:=fun u hu=>by
  rcases List.mem_cons.1 (hp.mem_iff.1 hu) with rfl|h
  ·exact jU_ok ha hb hl
  ·obtain ⟨e,hx,rfl⟩:=List.mem_map.1 h
   exact uok_of hd (he e hx)
 constructor
 ·rintro ⟨_,l,t,rfl,h,h1,h2,h3⟩
  have hwin: ∀x∈l,(uOf x.1).low≤x.2∧x.2≤(uOf x.1).high:=fun x hx=>okt_iff.1 (h.each x hx)
  have hj:=jU_win.2 ⟨h1,h2⟩
  refine ⟨fun u hu=> ?_,?_⟩
  ·rcases List.mem_cons.1 (hp.mem_iff.1 hu) with rfl|hm
   ·omega
   ·rw [List.map_map,List.mem_map] at hm
    obtain ⟨x,hx,rfl⟩:=hm
    have:=hwin x hx
    show (uOf x.1).low≤(uOf x.1).high
    omega
  ·have hf:=feas_of_times hd (l:=(jU a b g,t)::l.map fun x=>(uOf x.1,x.2)) ?_ ?_ ?_
   ·obtain ⟨o,k1,k2⟩:=hf
    refine ⟨o,k1.trans (List.Perm.trans ?_ hp.symm),k2⟩
    rw [List.map_cons,List.map_map,List.map_map]
    exact List.Perm.refl _
   ·intro x hx
    rcases List.mem_cons.1 hx with rfl|hx
    ·exact jU_ok ha hb hl
    ·obtain ⟨y,hy,rfl⟩:=List.mem_map.1 hx
     exact uok_of hd (he _ (List.mem_map.2 ⟨y,hy,rfl⟩))
   ·intro x hx
    rcases List.mem_cons.1 hx with rfl|hx
    ·exact ⟨h1.1,hj⟩
    ·obtain ⟨y,hy,rfl⟩:=List.mem_map.1 hx
     exact ⟨(h.each y hy).1,hwin y hy⟩
   ·refine List.pairwise_cons.2 ⟨fun x hx=> ?_,?_⟩
    ·obtain ⟨y,hy,rfl⟩:=List.mem_map.1 hx
     rcases h3 y hy with q|q
     ·exact .inr ⟨q.1,by show y.2+0+at2 d y.1.office.toNat a.office.toNat≤t; have:=q.2; dsimp only at this; omega⟩
     ·exact .inl ⟨q.1,by show t+g+at2 d b.office.toNat y.1.office.toNat≤y.2; have:=q.2; dsimp only at this; omega⟩
    ·rw [List.pairwise_map]
     refine h.two.imp fun {a b} hab=> ?_
     rcases hab with q|q
     ·exact .inl ⟨q.1,by show a.2+0+at2 d a.1.office.toNat b.1.office.toNat≤b.2; have:=q.2; omega⟩
     ·exact .inr ⟨q.1,by show b.2+0+at2 d b.1.office.toNat a.1.office.toNat≤a.2; have:=q.2; omega⟩
 ·rintro ⟨hw,hf⟩
  obtain ⟨l,h1,h2,h3⟩:=times_of_feas hd huok hw hf
  have hor:l.Pairwise (fun a b=>Bef d a b∨Bef d b a):=h3.imp fun h=> .inl h
  have hm:jU a b g∈l.map (·.1):=(h1.trans hp).mem_iff.2 (by simp)
  obtain ⟨x,hx,hxe⟩:=List.mem_map.1 hm
  obtain ⟨pre,post,rfl⟩:=List.append_of_mem hx
  have h4:((pre++post).map (·.1)).Perm (rest.map uOf):=by
   have q:((pre++x::post).map (·.1)).Perm (jU a b g::(pre++post).map (·.1)):=by
    rw [←hxe]
    exact (List.perm_middle (a:=x) (l₁:=pre) (l₂:=post)).map (fun y:UB=>y.1)
   exact List.Perm.cons_inv (q.symm.trans (h1.trans hp))
  have hpw':(x::(pre++post)).Pairwise (fun a b=>Bef d a b∨Bef d b a):=pairwise_or List.perm_middle hor
  obtain ⟨hx1,hx2⟩:=List.pairwise_cons.1 hpw'
  obtain ⟨m,hm1,hm2⟩:=ets_of rest (pre++post) h4 hx2
  have hmem: ∀y∈m,(uOf y.1,y.2)∈pre++post:=fun y hy=>hm2.mem_iff.1 (List.mem_map.2 ⟨y,hy,rfl⟩)
  have hin: ∀y∈pre++post,y∈pre++x::post:=fun y hy=>by
   rcases List.mem_append.1 hy with h|h
   ·simp [h]
   ·simp [h]
  refine ⟨hl,m,x.2,hm1,⟨fun y hy=> ?_,?_⟩,?_⟩
  ·exact okt_iff.2 (h2 _ (hin _ (hmem y hy))).2
  ·have hpm:=pairwise_or hm2.symm hx2
   rw [List.pairwise_map] at hpm
   refine hpm.imp fun {a b} hab=> ?_
   rcases hab with q|q
   ·refine .inl ⟨q.1,?_⟩
    have:a.2+0+at2 d a.1.office.toNat b.1.office.toNat≤b.2:=q.2
    omega
   ·refine .inr ⟨q.1,?_⟩
    have:b.2+0+at2 d b.1.office.toNat a.1.office.toNat≤a.2:=q.2
    omega
  ·have hj:=(h2 x (by simp)).2
   rw [hxe] at hj
   obtain ⟨j1,j2⟩:=jU_win.1 hj
   refine ⟨j1,j2,fun y hy=> ?_⟩
   rcases hx1 _ (hmem y hy) with q|q
   ·right
    have e1:at2 d x.1.exit (uOf y.1).entry=at2 d b.office.toNat y.1.office.toNat:=by rw [hxe]; rfl
    have e2:x.1.span=g:=by rw [hxe]; rfl
    have q1:=q.1
    have q2:x.2+x.1.span+at2 d x.1.exit (uOf y.1).entry≤y.2:=q.2
    rw [e1] at q1 q2
    rw [e2] at q2
    exact ⟨q1,by show at2 d b.office.toNat y.1.office.toNat≤y.2-(x.2+g); omega⟩
   ·left
    have e1:at2 d (uOf y.1).exit x.1.entry=at2 d y.1.office.toNat a.office.toNat:=by rw [hxe]; rfl
    have q1:=q.1
    have q2:y.2+0+at2 d (uOf y.1).exit x.1.entry≤x.2:=q.2
    rw [e1] at q1 q2
    exact ⟨q1,by show at2 d y.1.office.toNat a.office.toNat≤x.2-y.2; omega⟩
end Go.Ord
namespace Go.PF
open Go.RowKit Go.ChangeMaps
variable {P:Program} {κ:Type} {kt:TypeId}
def WalkM (K:GKey P kt κ) (w:World) (r bm:Nat) (m:List (κ×Value)) (pre:List κ) (last:Option (κ×Value)):Prop :=
 ∃ es clock since seen c0,w.heap[bm]?=some (.map es clock)∧es.toList.map (fun e=>(e.key,e.val))=m.map (fun p=>(K.enc p.1,p.2))∧(es.toList.map (·.born)).Nodup∧w.heap[r]?=some (.mapIter (some bm) since seen c0) ∧
  (∀e∈es.toList,e.born<since)∧since≤c0∧(∀e∈es.toList,∀k,e.key=K.enc k→(seen.contains e.born=true↔k∈pre)) ∧
  since≤clock∧m.Pairwise (fun p q=>p.1≠q.1)∧ ∀k v,last=some (k,v)→c0=clock∧ ∃(e:MapEntry) (seen0:Array Nat),e∈es.toList∧e.key=K.enc k∧e.val=v∧seen=seen0.push e.born
theorem WalkM.kept {K:GKey P kt κ} {w w':World} {r bm:Nat} {m:List (κ×Value)} {pre:List κ} {last:Option (κ×Value)} (h:WalkM K w r bm m pre last) (hr:w'.heap[r]?=w.heap[r]?) (hb:w'.heap[bm]?=w.heap[bm]?):WalkM K w' r bm m pre last:=by
 obtain ⟨es,clock,since,seen,c0,h1,h2,h3,h4,h5⟩:=h
 exact ⟨es,clock,since,seen,c0,hb.trans h1,h2,h3,hr.trans h4,h5⟩
theorem WalkM.iter {K:GKey P kt κ} {w:World} {r bm:Nat} {m:List (κ×Value)} {pre:List κ} {last:Option (κ×Value)} (h:WalkM K w r bm m pre last): ∃o,w.heap[r]?=some o∧ctl o=true:=by
 obtain ⟨es,clock,since,seen,c0,h1,h2,h3,h4,h5⟩:=h
 exact ⟨_,h4,rfl⟩
theorem WalkM.ne {K:GKey P kt κ} {w:World} {r bm:Nat} {m:List (κ×Value)} {pre:List κ} {last:Option (κ×Value)} (h:WalkM K w r bm m pre last):r≠bm:=by
 obtain ⟨es,clock,since,seen,c0,h1,h2,h3,h4,h5⟩:=h
 intro e
 rw [e,h1] at h4
 cases h4
theorem mem_of_cells {K:GKey P kt κ} {es:List MapEntry} {m:List (κ×Value)} (h:es.map (fun e=>(e.key,e.val))=m.map (fun p=>(K.enc p.1,p.2))) {e:MapEntry} (he:e∈es): ∃k v,(k,v)∈m∧e.key=K.enc k∧e.val=v:=by
 have:(e.key,e.val)∈m.map (fun p=>(K.enc p.1,p.2)):=by rw [←h]; exact List.mem_map.2 ⟨e,he,rfl⟩
 rw [List.mem_map] at this
 obtain ⟨p,hp,hpe⟩:=this
 simp only [Prod.mk.injEq] at hpe
 exact ⟨p.1,p.2,hp,hpe.1.symm,hpe.2.symm⟩
theorem cells_of_mem {K:GKey P kt κ} {es:List MapEntry} {m:List (κ×Value)} (h:es.map (fun e=>(e.key,e.val))=m.map (fun p=>(K.enc p.1,p.2))) {k:κ} {v:Value} (hp:(k,v)∈m): ∃e∈es,e.key=K.enc k∧e.val=v:=by
 have:(K.enc k,v)∈es.map (fun e=>(e.key,e.val)):=by rw [h]; exact List.mem_map.2 ⟨(k,v),hp,rfl⟩
 rw [List.mem_map] at this
 obtain ⟨e,he,hee⟩:=this
 simp only [Prod.mk.injEq] at hee
 exact ⟨e,he,hee.1,hee.2⟩
section
variable {r:Option Nat} {Q:Exit→Act→World→Prop} {N:Nat} {ds:List Deferred} {ops rest:List Oper} {E:Env} {w:World}
variable {d:Option Tmp} {ty:TypeId} {pos:String} {af:Array Edge} {gu:Option (Nat×Bool)} {x:Operand}
theorem TW.rangeM (K:GKey P kt κ) {t et:TypeId} {bm:Nat} {m:List (κ×Value)} (hg:gu=none) (hd:okDst N d=true) (ht:P.underlying t=some (.map kt et)) (hx:ev E x=some (none,.map (some bm))) (hm:MapL K w bm m)
  (next: ∀it w',it=w.heap.size→w'.heap.size=it+1→Below w.heap.size w w'→WalkM K w' it bm m [] none→TW P r Q N ds ops rest (ins E d none (.pointer (some ⟨it,0,none⟩))) w'):TW P r Q N ds ops (⟨d,.range t x,ty,pos,af,gu⟩::rest) E w:=by
 obtain ⟨⟨es,cl,hh,he,hbn,hbc⟩,hon⟩:=hm
 have hobj:(getObj bm).run P w= .ok (.map es cl) w:=by simp [getObj,Sem.run,hh]
 refine TW.eff (v:= .pointer (some ⟨w.heap.size,0,none⟩)) (w':=w.alloc (.mapIter (some bm) cl #[] cl)) hg hd rfl (fun a ha=> ?_) (next _ _ rfl (by simp) ((Below.refl _ _).alloc (Nat.le_refl _) _) ?_)
 ·simp only [execOp]
  rw [ha.eval hx trivial]
  simp [Instr.range,run_underlying ht,hobj,newObj,Sem.run]
 ·have hlt:=(Array.getElem?_eq_some_iff.1 hh).1
  refine ⟨es,cl,cl,#[],cl,?_,he,hbn,heap_alloc_new w _,hbc,Nat.le_refl _,(fun e _ k _=>by simp),Nat.le_refl _,hon,fun k v h=>by cases h⟩
  have:=(below_alloc w (.mapIter (some bm) cl #[] cl)).block bm hlt
  exact this.trans hh
theorem TW.nextM (K:GKey P kt κ) {it bm:Nat} {m:List (κ×Value)} {pre:List κ} {last:Option (κ×Value)} (hg:gu=none) (hd:okDst N d=true) (hx:ev E x=some (none,.pointer (some ⟨it,0,none⟩))) (hw:WalkM K w it bm m pre last)
  (n1:(∀p∈m,p.1∈pre)→TW P r Q N ds ops rest (ins E d none (.tuple #[.bool false])) w)
  (n2: ∀k v w',(k,v)∈m→k ∉ pre→w'.heap.size=w.heap.size→But it w w'→ExtF it w w'→WalkM K w' it bm m (pre++ [k]) (some (k,v))→TW P r Q N ds ops rest (ins E d none (.tuple #[.bool true,K.enc k,v])) w'):TW P r Q N ds ops (⟨d,.next x false,ty,pos,af,gu⟩::rest) E w:=by
 have hne:=hw.ne
 obtain ⟨es,clock,since,seen,c0,h1,h2,h3,h4,h5,h6,h7,hsc,hon,h8⟩:=hw
 rcases run_next_at (P:=P) w ty it bm since c0 seen es clock h4 h1 h5 h6 with ⟨h0,hrun⟩|⟨e,he,w1,hw1,hrun⟩
 ·refine TW.eff (v:= .tuple #[.bool false]) (w':=w) hg hd rfl (fun a ha=> ?_) (n1 fun p hp=> ?_)
  ·simp only [execOp]
   rw [ha.eval hx trivial]
   simp [hrun]
  ·obtain ⟨e,he,hk,_⟩:=cells_of_mem h2 (k:=p.1) (v:=p.2) hp
   refine (h7 e he p.1 hk).1 ?_
   cases hs:seen.contains e.born with
   | true=>rfl
   | false =>
    exfalso
    have hm:e∈(leftOf es seen).toList:=by unfold leftOf; simp only [Array.toList_filter,List.mem_filter]; exact ⟨he,by rw [hs]; rfl⟩
    have:(leftOf es seen).toList= []:=by rw [Array.toList_eq_nil_iff]; exact Array.eq_empty_of_size_eq_zero h0
    rw [this] at hm; cases hm
 ·have hee:e∈es.toList∧seen.contains e.born=false:=by
   unfold leftOf at he
   simp only [Array.toList_filter,List.mem_filter] at he
   exact ⟨he.1,by simpa using he.2⟩
  obtain ⟨k,v,hkv,hk,hv⟩:=mem_of_cells h2 hee.1
  have hnp:k ∉ pre:=fun h=>by
   have:=(h7 e hee.1 k hk).2 h
   rw [hee.2] at this; cases this
  have hit:it<w.heap.size:=(Array.getElem?_eq_some_iff.1 h4).1
  have hheap:w1.heap=w.heap:=by rcases hw1 with rfl|rfl<;>rfl
  have hos:w1.os=w.os∧w1.tape=w.tape∧w1.output=w.output:=by rcases hw1 with rfl|rfl<;>exact ⟨rfl,rfl,rfl⟩
  have hext:ExtF it w (setBlock w1 it (.mapIter (some bm) since (seen.push e.born) clock)):=by
   refine ⟨hos.1,hos.2.1,hos.2.2,by simp [setBlock,hheap],fun q o ho hc=> ?_⟩
   by_cases hq:it=q
   ·subst hq
    rw [h4] at ho
    cases ho
    rcases hc with h|h
    ·omega
    ·cases h
   ·simp [setBlock,hheap,Array.getElem?_setIfInBounds_ne hq]; exact ho
  refine TW.eff (v:= .tuple #[.bool true,K.enc k,v]) (w':=setBlock w1 it (.mapIter (some bm) since (seen.push e.born) clock)) hg hd rfl (fun a ha=> ?_) (n2 k v _ hkv hnp (by simp [setBlock,hheap]) ⟨hos.1,hos.2.1,hos.2.2,by simp [setBlock,hheap],fun q hq hn=> ?_⟩ hext ?_)
  ·simp only [execOp]
   rw [ha.eval hx trivial]
   simp [hrun,hk,hv]
  ·have:it≠q:=fun e=>hn (by rw [e])
   simp [setBlock,hheap,Array.getElem?_setIfInBounds_ne this]
  ·refine ⟨es,clock,since,seen.push e.born,clock,?_,h2,h3,by simp [setBlock,hheap,hit],h5,hsc,fun e' he' k' hk'=> ?_,hsc,hon,fun k' v' hkv'=> ?_⟩
   ·simp [setBlock,hheap,Array.getElem?_setIfInBounds_ne hne]; exact h1
   ·rw [List.mem_append,List.mem_singleton,←h7 e' he' k' hk']
    simp only [Array.contains_iff_mem,Array.mem_push]
    constructor
    ·rintro (h|h)
     ·exact .inl h
     ·right
      have hinj:e'=e:=by
       obtain ⟨i,hi,hie⟩:=List.getElem_of_mem he'
       obtain ⟨j,hj,hje⟩:=List.getElem_of_mem hee.1
       have:i=j:=by
        have hn:=List.pairwise_iff_getElem.1 h3
        rcases Nat.lt_trichotomy i j with q|q|q
        ·have:=hn i j (by simpa using hi) (by simpa using hj) q
         simp only [List.getElem_map,hie,hje] at this
         exact absurd h this
        ·exact q
        ·have:=hn j i (by simpa using hj) (by simpa using hi) q
         simp only [List.getElem_map,hie,hje] at this
         exact absurd h.symm this
       subst this
       rw [←hie,←hje]
      rw [hinj,hk] at hk'
      exact (K.inj _ _ hk').symm
    ·rintro (h|rfl)
     ·exact .inl h
     ·right
      have hlen:es.toList.length=m.length:=by have:=congrArg List.length h2; simpa using this
      obtain ⟨i,hi,hie⟩:=List.getElem_of_mem he'
      obtain ⟨j,hj,hje⟩:=List.getElem_of_mem hee.1
      have key: ∀(i:Nat) (hi:i<es.toList.length),es.toList[i].key=K.enc (m[i]'(by omega)).1:=fun i hi=>by
       have:=congrArg (fun l=>l[i]?) h2
       simp only [List.getElem?_map,List.getElem?_eq_getElem hi,List.getElem?_eq_getElem (show i<m.length by omega),Option.map_some,Option.some.injEq,Prod.mk.injEq] at this
       exact this.1
      have e1:(m[i]'(by omega)).1=k':=K.inj _ _ (by rw [←key i hi,hie,hk'])
      have e2:(m[j]'(by omega)).1=k':=K.inj _ _ (by rw [←key j hj,hje,hk])
      have hn:=List.pairwise_iff_getElem.1 hon
      have hij:i=j:=by
       rcases Nat.lt_trichotomy i j with q|q|q
       ·exact absurd (e1.trans e2.symm) (hn i j (by omega) (by omega) q)
       ·exact q
       ·exact absurd (e2.trans e1.symm) (hn j i (by omega) (by omega) q)
      subst hij
      rw [←hie,←hje]
   ·cases hkv'
    exact ⟨rfl,e,seen,hee.1,hk,hv,rfl⟩
theorem TW.entryM (K:GKey P kt κ) {it bm:Nat} {m:List (κ×Value)} {pre:List κ} {k:κ} {v:Value} (hg:gu=none) (hd:okDst N d=true) (hx:ev E x=some (none,.pointer (some ⟨it,0,none⟩))) (hw:WalkM K w it bm m pre (some (k,v)))
  (next:TW P r Q N ds ops rest (ins E d none (.tuple #[K.enc k,v])) w):TW P r Q N ds ops (⟨d,.entry x,ty,pos,af,gu⟩::rest) E w:=by
 obtain ⟨es,clock,since,seen,c0,h1,h2,h3,h4,h5,h6,h7,hsc,hon,h8⟩:=hw
 obtain ⟨rfl,e,seen0,he,hk,hv,rfl⟩:=h8 k v rfl
 refine TW.eff (v:= .tuple #[K.enc k,v]) (w':=w) hg hd rfl (fun a ha=> ?_) next
 simp only [execOp]
 rw [ha.eval hx trivial]
 have:=run_entry_at (P:=P) w it bm since seen0 es c0 e h4 h1 he h3
 simp [this,hk,hv]
theorem MapL.keys {K:GKey P kt κ} {b:Nat} {m:List (κ×Value)} (h:MapL K w b m):(m.map (·.1)).Nodup:=by
 unfold List.Nodup
 rw [List.pairwise_map]
 exact h.once
end
def IterW {α:Type} (P:Program) (gf:FuncId) (cap:List Value) (enc:α→List Value) (Pos:List α→α→(Nat→Prop)→World→Prop) (Done:List α→Prop) (own:Nat→Prop) (w0:World):Prop :=
 ∀ (l:Nat) (J Jx:List α→(Nat→Prop)→World→Prop) (W:World) (M:Nat→Prop),
  (∀k,own k→k<w0.heap.size→W.heap[k]?=w0.heap[k]?)→w0.heap.size≤W.heap.size→l<W.heap.size→(∀k,own k→ ¬M k∧k≠l)→(∀k,M k→k<W.heap.size) →
  (∀pre M W1 W2,J pre M W1→ExtF W.heap.size W1 W2→J pre M W2)→(∀pre M W1 W2,Jx pre M W1→ExtF W.heap.size W1 W2→Jx pre M W2) →
  (∀pre x M W1,J pre M W1→Pos pre x M W1→(∀k,M k→k<W1.heap.size)→l<W1.heap.size→Yields P l (enc x).toArray W1 (Rnd l J Jx (pre++ [x]) M W1)) →
  J [] M W →
  Gives P gf (.func (.yield l) #[] #[]::cap).toArray W fun _ W'=>(∃xs M',Done xs∧J xs M' W')∨(∃pre M',Jx pre M' W')
section
variable {r:Option Nat} {Q:Exit→Act→World→Prop} {N:Nat} {ds:List Deferred} {ops rest:List Oper} {E:Env} {w:World} {G:Option Bool}
theorem CW.rangeW {α:Type} {g:Operand} {ps:List Tmp} {assign body:Code} {gf:FuncId} {cap:List Value} {enc:α→List Value} {Pos:List α→α→(Nat→Prop)→World→Prop} {Done:List α→Prop} {own:Nat→Prop}
  (hg:ev E g=some (none,.func (.func gf) #[] cap.toArray)) (he:enters P gf=true) (hit:IterW P gf cap enc Pos Done own w) (hps:ps.all (fun t=>Nat.blt t N)=true) (hlen: ∀x,(enc x).length=ps.length)
  (J:List α→(Nat→Prop)→World→Prop) (Jx:Code→List α→(Nat→Prop)→World→Prop) (M:Nat→Prop) (hM: ∀k,M k→k<w.heap.size∧ ¬own k) (hown: ∀k,own k→k<w.heap.size)
  (hJ: ∀pre M W1 W2,J pre M W1→ExtF w.heap.size W1 W2→J pre M W2) (hJx: ∀c pre M W1 W2,Jx c pre M W1→ExtF w.heap.size W1 W2→Jx c pre M W2) (h0:J [] M w)
  (round: ∀D L pre x M W,w.heap.size≤D→D<L→J pre M W→Pos pre x M W→(∀k,M k→k<W.heap.size)→ ¬M L→ ¬M D→RecIs N E ps assign body D W L .ready none →
   CW P (some L) (Exit.then (fun a1 W1=> ∃W2,(Instr.beginRound L).run P W1= .ok () W2 ∧
    body.wpIn (FR (some L)) 0 P (rndPost P L (Rnd L (fun pre M' W'=>J pre M' W'∧ ¬M' L∧ ¬M' D∧RecIs N E ps assign body D W' L .ready none) (fun pre M' W'=> ∃c,Jx c pre M' W'∧RecIs N E ps assign body D W' L .done (some c)) (pre++ [x]) M W)) a1 W2) (fun _ _ _=>False)) N [] assign (insP E ps (enc x)) W)
  (done: ∀D xs M W,w.heap.size≤D→Done xs→J xs M W→ ¬M D→W.heap[D]?=some (.deferred (some []))→KW N ({target:= .collected D,args:= #[]}::ds) (Q .normal) E W)
  (stop: ∀D c pre M W,w.heap.size≤D→Jx c pre M W→W.heap[D]?=some (.deferred (some []))→CW P none Q N ({target:= .collected D,args:= #[]}::ds) c E W) :
  CW P none Q N ds (.rangeFunc g ps.toArray assign body) E w:=by
 intro a ha
 refine wpIn_rangeFunc fun fn _=> ?_
 obtain ⟨W1,hW1⟩: ∃W1,(w.alloc (.deferred (some []))).alloc (.loop {state:= .ready,pending:=none,fn:=fn,tmps:=a.tmps,params:=ps.toArray,assign:=assign,body:=body,defers:=w.heap.size})=W1:=⟨_,rfl⟩
 have hsz:W1.heap.size=w.heap.size+2:=by rw [←hW1]; simp
 have hL1:W1.heap[w.heap.size+1]?=some (.loop {state:= .ready,pending:=none,fn:=fn,tmps:=a.tmps,params:=ps.toArray,assign:=assign,body:=body,defers:=w.heap.size}):=by
  rw [←hW1]; have:=World.alloc_heap_new (w.alloc (.deferred (some []))) (.loop {state:= .ready,pending:=none,fn:=fn,tmps:=a.tmps,params:=ps.toArray,assign:=assign,body:=body,defers:=w.heap.size}); rwa [World.size_alloc] at this
 have hD1:W1.heap[w.heap.size]?=some (.deferred (some [])):=by
  rw [←hW1]; exact (Below.heap_alloc _ _ _ (by simp)).trans (World.alloc_heap_new w _)
 have hb1:Below w.heap.size w W1:=by
  rw [←hW1]; exact ((Below.refl _ w).alloc (Nat.le_refl _) _).alloc (by simp) _
 have hrec:RecIs N E ps assign body w.heap.size W1 (w.heap.size+1) .ready none:=⟨fn,a.tmps,⟨ha.size,rfl,ha.slots⟩,hL1⟩
 let J':List α→(Nat→Prop)→World→Prop:=fun pre M W=>(J pre M W∧ ¬M (w.heap.size+1)∧ ¬M w.heap.size∧RecIs N E ps assign body w.heap.size W (w.heap.size+1) .ready none)∧W.heap[w.heap.size]?=some (.deferred (some []))
 let Jx':List α→(Nat→Prop)→World→Prop:=fun pre M W=>(∃c,Jx c pre M W∧RecIs N E ps assign body w.heap.size W (w.heap.size+1) .done (some c))∧W.heap[w.heap.size]?=some (.deferred (some []))
 have hM': ∀k,M k→k<w.heap.size:=fun k hk=>(hM k hk).1
 have hgives:=hit (w.heap.size+1) J' Jx' W1 M (fun k hk hlt=>hb1.block k hlt) (by omega) (by omega)
  (fun k hk=>⟨fun hm=>(hM k hm).2 hk,by have:=hown k hk; omega⟩) (fun k hk=>by have:=hM' k hk; omega)
  (fun pre M Wa Wb ⟨⟨h1,h2,h3,h4⟩,h5⟩ hx=>⟨⟨hJ _ _ _ _ h1 (hx.less (by omega)),h2,h3,h4.ext hx (by omega)⟩,hx.block _ _ h5 (.inl (by omega))⟩)
  (fun pre M Wa Wb ⟨⟨c,h1,h2⟩,h5⟩ hx=>⟨⟨c,hJx _ _ _ _ _ h1 (hx.less (by omega)),h2.ext hx (by omega)⟩,hx.block _ _ h5 (.inl (by omega))⟩)
  (fun pre x M2 Wa ⟨⟨h1,h2,h3,h4⟩,h5⟩ hpos hMlt hlt=>by
   have hy:=Yields.of_round (P:=P) (R:=Rnd (w.heap.size+1) (fun pre M' W'=>J pre M' W'∧ ¬M' (w.heap.size+1)∧ ¬M' w.heap.size∧RecIs N E ps assign body w.heap.size W' (w.heap.size+1) .ready none) (fun pre M' W'=> ∃c,Jx c pre M' W'∧RecIs N E ps assign body w.heap.size W' (w.heap.size+1) .done (some c)) (pre++ [x]) M2 Wa) (vs:=enc x) h4 (hlen x) hps
    (round w.heap.size (w.heap.size+1) pre x M2 Wa (Nat.le_refl _) (by omega) h1 hpos hMlt h2 h3 h4)
   refine hy.mono fun b W' hR=>⟨hR.size,hR.kept,fun hb=> ?_,fun hb=> ?_⟩
   ·obtain ⟨M',hj,hm⟩:=hR.yes hb
    exact ⟨M',⟨hj,(hR.kept _ (by omega) h3 (by omega)).trans h5⟩,hm⟩
   ·obtain ⟨M',hj⟩:=hR.no hb
    exact ⟨M',hj,(hR.kept _ (by omega) h3 (by omega)).trans h5⟩)
  ⟨⟨hJ _ _ _ _ h0 (.of_below hb1),fun hm=>by have:=hM' _ hm; omega,fun hm=>by have:=hM' _ hm; omega,hrec⟩,hD1⟩
 refine ⟨w.heap.size+1,[{target:= .collected w.heap.size,args:= #[]}],W1,{target:= .fn (.func gf) cap.toArray,args:= #[.func (.yield (w.heap.size+1)) #[] #[]]},W1,gf,
  (.func (.yield (w.heap.size+1)) #[] #[]::cap).toArray,W1,?_,?_,fun _ _=>trivial,?_,fun h=>by simp [Fence.wide] at h,?_⟩
 ·rw [←hW1]; exact run_enterLoop_outer _ _ _ _ _
 ·simp only [resolve,ha.eval hg trivial]
  simp [Deferred.ofValue,Act.eval]
 ·simp [invoke,run_enters he]
 ·refine CallsIn.mono (callsIn_of hgives) ?_
  rintro e W2 ⟨v,rfl,hR⟩
  rcases hR with ⟨xs,M',hdone,⟨h1,h2,h3,fn',tmps',hf',hh'⟩,h5⟩|⟨pre,M',⟨c,h1,fn',tmps',hf',hh'⟩,h5⟩
  ·have hlt:w.heap.size+1<W2.heap.size:=(Array.getElem?_eq_some_iff.1 hh').1
   refine ⟨_,_,run_endLoop hh' (by simp),?_⟩
   refine done w.heap.size xs M' _ (Nat.le_refl _) hdone (hJ _ _ _ _ h1 (ExtF.putObj hh' rfl (by omega))) h3 ((World.putObj_heap_other (by omega)).trans h5) _ ⟨ha.size,by simp [ha.defers],ha.slots⟩
  ·have hlt:w.heap.size+1<W2.heap.size:=(Array.getElem?_eq_some_iff.1 hh').1
   refine ⟨_,_,run_endLoop hh' (by simp),?_⟩
   exact stop w.heap.size c pre M' _ (Nat.le_refl _) (hJx _ _ _ _ _ h1 (ExtF.putObj hh' rfl (by omega))) ((World.putObj_heap_other (by omega)).trans h5) _ ⟨ha.size,by simp [ha.defers],ha.slots⟩
end
end Go.PF
namespace Go.PF
open Go.RowKit
variable {α:Type}
theorem len_flat {β:Type} (f:β→List Value) (n:Nat): ∀(ps:List β),(∀p∈ps,(f p).length=n)→(ps.flatMap f).length=ps.length*n
 | [],_=>by simp
 | p::ps,h=>by
  rw [List.flatMap_cons,List.length_append,len_flat f n ps (fun q hq=>h q (List.mem_cons_of_mem _ hq)),h p (List.mem_cons_self ..),List.length_cons,Nat.add_mul]
  omega
theorem SL.flat {T:Ty α} (h0:0<T.n) {F:Nat→Prop} {w:World} {A:Option Addr} {n cap:Nat} {l:List α} (h:SL T F w (.slice A n cap) l) :
  ∃ ps:List (List Value×α),ps.map (·.2)=l∧(∀p∈ps,T.rep F w p.1 p.2)∧(ps.flatMap (·.1)).length=n*T.n∧ ∀j u,(ps.flatMap (·.1))[j]?=some u→ ∃ad,A=some ad∧w.cell? (ad.add j)=some u:=by
 obtain ⟨A',cap',hv,h1,h2,h3⟩:=h
 simp only [Value.slice.injEq] at hv
 obtain ⟨rfl,rfl,rfl⟩:=hv
 have key: ∀(k:Nat),k≤l.length→ ∃ps:List (List Value×α),ps.map (·.2)=l.take k∧(∀p∈ps,T.rep F w p.1 p.2)∧ ∀i p,ps[i]?=some p→ ∃ad,A=some ad∧ ∀j u,p.1[j]?=some u→w.cell? ((ad.add (i*T.n)).add j)=some u:=by
  intro k
  induction k with
  | zero=>exact fun _=>⟨[],by simp,(fun p hp=>by cases hp),(fun i p hp=>by simp at hp)⟩
  | succ k ih =>
   intro hk
   obtain ⟨ps,q1,q2,q3⟩:=ih (by omega)
   have hx:l[k]?=some l[k]:=List.getElem?_eq_getElem (by omega)
   obtain ⟨ad,cs,ha,_,hc,hr⟩:=h3 k _ hx
   have hpl:ps.length=k:=by have:=congrArg List.length q1; simp at this; omega
   refine ⟨ps++ [(cs,l[k])],by rw [List.map_append,q1,List.take_add_one,hx]; rfl,fun p hp=> ?_,fun i p hp=> ?_⟩
   ·rcases List.mem_append.1 hp with hp|hp
    ·exact q2 p hp
    ·rw [List.mem_singleton] at hp; subst hp; exact hr
   ·rcases Nat.lt_trichotomy i k with hi|hi|hi
    ·rw [List.getElem?_append_left (by omega)] at hp
     exact q3 i p hp
    ·rw [List.getElem?_append_right (by omega),hpl,hi] at hp
     simp at hp
     subst hp
     subst hi
     exact ⟨ad,ha,hc⟩
    ·rw [List.getElem?_eq_none (by simp; omega)] at hp
     cases hp
 obtain ⟨ps,q1,q2,q3⟩:=key l.length (Nat.le_refl _)
 rw [List.take_length] at q1
 have hlen: ∀p∈ps,p.1.length=T.n:=fun p hp=>T.len _ _ _ _ (q2 p hp)
 have hpl:ps.length=l.length:=by rw [←q1]; simp
 have hfl:(ps.flatMap (·.1)).length=ps.length*T.n:=by
  exact len_flat (fun p:List Value×α=>p.1) T.n ps hlen
 refine ⟨ps,q1,q2,by rw [hfl,hpl],fun j u hj=> ?_⟩
 have hjl:j<ps.length*T.n:=by rw [←hfl]; exact (List.getElem?_eq_some_iff.1 hj).1
 have hd:=Nat.div_add_mod' j T.n
 have hm:=Nat.mod_lt j h0
 have hi:j / T.n<ps.length:=(Nat.div_lt_iff_lt_mul h0).2 hjl
 have hp:ps[j / T.n]?=some ps[j / T.n]:=List.getElem?_eq_getElem hi
 have hf:=flatP_at T.n ps hlen (j / T.n) (j%T.n) _ hp hm
 rw [hd,hj] at hf
 obtain ⟨ad,ha,hc⟩:=q3 _ _ hp
 refine ⟨ad,ha,?_⟩
 have:=hc (j%T.n) u hf.symm
 rwa [add_add,hd] at this
def Ty.One (T:Ty α):Prop:= ∀F w cs x,T.rep F w cs x→ ∀u∈cs,Value.oneCell' u=true
theorem one_flat {T:Ty α} (hT:T.One) {F:Nat→Prop} {w:World} {ps:List (List Value×α)} (h: ∀p∈ps,T.rep F w p.1 p.2): ∀u∈ps.flatMap (·.1),Value.oneCell' u=true:=fun u hu=>by
 obtain ⟨p,hp,hup⟩:=List.mem_flatMap.1 hu
 exact hT _ _ _ _ (h p hp) u hup
theorem OwnS.toSLn {T:Ty α} (h0:0<T.n) {w0 w:World} {e:TypeId} {v:Value} {n:Nat} {F:Nat→Prop} (hb:Below w0.heap.size w0 w) {ps:List (List Value×α)} (hr: ∀p∈ps,T.rep F w0 p.1 p.2) (h:OwnS w e T.n v n (ps.flatMap (·.1))) (hn:n=ps.length) (hbig:ps.length≤9223372036854775807) :
  SL T (fun k=>F k∨v.ownBlock=some k) w v (ps.map (·.2)) :=
 OwnS.toSLp ps (fun p hp=>T.wider _ _ _ _ _ (fun _ hk=> .inl hk) (T.mono _ _ _ _ _ (Kept.of_below hb) (hr p hp))) h0 h hn (fun _ hg=> .inr hg) hbig
theorem look_app: ∀ {E E':Env} {i:Nat} {c:Option Bool} {v:Value},look (E++E') i=some (c,v)→look E i=some (c,v)∨look E' i=some (c,v)
 | [],_,_,_,_,h=> .inr h
 | (j,c0,v0)::E,E',i,c,v,h=>by
  simp only [List.cons_append,look] at h ⊢
  by_cases hi:j=i
  ·subst hi
   rw [beq_self] at h ⊢
   exact .inl h
  ·rw [beq_ne hi] at h ⊢
   exact look_app h
theorem DW.finX {N:Nat} {ds:List Deferred} {D:DE} {w:World} {K:Act→World→Prop} (ks:List Nat) (E:Env) (hE:dpick D ks=some E) (is:List Nat) {es:List Ent} (hp:dsel D is=some es) (h: ∀vs w',Below w.heap.size w w'→Sats es vs w'→KW N ds K (E++zipE is vs) w') :
  ∀ a w',Below w.heap.size w w'→FitD N ds D a w'→K a w' :=
 fun a w' hb ha=>h _ w' hb (ha.sel hp) a ⟨ha.size,ha.defers,fun i c v hl=>(look_app hl).elim ((ha.pick hE).slots i c v) ((ha.zip is).slots i c v)⟩
def sureC:Option Bool→Option Bool
 | some true=>none
 | c=>c
def sure:Env→Env
 | []=> []
 | (i,c,v)::E=>(i,sureC c,v)::sure E
theorem sureC_iff (c:Option Bool):Cnd (sureC c)↔Cnd c:=by
 rcases c with _|_|_<;>simp [sureC,Cnd]
theorem look_sure: ∀ {E:Env} {i:Nat} {c:Option Bool} {v:Value},look (sure E) i=some (c,v)→ ∃c',look E i=some (c',v)∧sureC c'=c
 | [],_,_,_,h=>by cases h
 | (j,c0,v0)::E,i,c,v,h=>by
  simp only [sure,look] at h ⊢
  by_cases hi:j=i
  ·subst hi
   rw [beq_self] at h ⊢
   simp only [Option.some.injEq,Prod.mk.injEq] at h ⊢
   obtain ⟨h1,h2⟩:=h
   exact ⟨c0,⟨rfl,h2⟩,h1⟩
  ·rw [beq_ne hi] at h ⊢
   exact look_sure h
theorem Fit.sure {N:Nat} {ds:List Deferred} {E:Env} {a:Act} (h:Fit N ds E a):Fit N ds (PF.sure E) a :=
 ⟨h.size,h.defers,fun i c v hl=>by
  obtain ⟨c',h1,rfl⟩:=look_sure hl
  rw [sureC_iff]
  exact h.slots i c' v h1⟩
theorem TW.sure {P:Program} {r:Option Nat} {Q:Exit→Act→World→Prop} {N:Nat} {ds:List Deferred} {ops rest:List Oper} {E:Env} {w:World} (h:TW P r Q N ds ops rest (PF.sure E) w):TW P r Q N ds ops rest E w:=fun a ha=>h a ha.sure
end Go.PF
namespace Go.PF
open Go.RowKit
theorem GB.refl {o:Option Nat} (w:World):w.grownBy w o:=⟨rfl,rfl,rfl,Nat.le_refl _,fun _ _ _=>rfl⟩
theorem GB.trans {o:Option Nat} {a b c:World} (h:a.grownBy b o) (k:b.grownBy c o):a.grownBy c o :=
 ⟨k.os.trans h.os,k.tape.trans h.tape,k.output.trans h.output,Nat.le_trans h.size k.size,fun i hi hn=>(k.block i (Nat.lt_of_lt_of_le hi h.size) hn).trans (h.block i hi hn)⟩
theorem GB.of_below {o:Option Nat} {w w':World} (h:Below w.heap.size w w'):w.grownBy w' o:=⟨h.os,h.tape,h.output,h.size,fun k hk _=>h.block k hk⟩
theorem GB.cell {o:Option Nat} {w w':World} {ad:Addr} {v:Value} (h:w.grownBy w' o) (hc:w.cell? ad=some v) (hne:o≠some ad.block):w'.cell? ad=some v :=
 (World.cell?_of_block (h.block _ (block_lt_of_cell hc) (fun e=>hne e.symm))).trans hc
theorem GB.blk {o:Option Nat} {k:Nat} {w w':World} {t:TypeId} {cs:List Value} (h:w.grownBy w' o) (hB:Blk w k t cs) (hne:o≠some k):Blk w' k t cs:=(h.block k hB.lt (fun e=>hne e.symm)).trans hB
theorem once_one {κ:Type} {M:List (κ×Value)} (h:M.Pairwise fun p q=>p.1≠q.1) {r:κ} {v v':Value} (h1:(r,v)∈M) (h2:(r,v')∈M):v=v':=by
 obtain ⟨i,hi,e1⟩:=List.getElem_of_mem h1
 obtain ⟨j,hj,e2⟩:=List.getElem_of_mem h2
 have hp:=List.pairwise_iff_getElem.1 h
 rcases Nat.lt_trichotomy i j with q|q|q
 ·have:=hp i j hi hj q
  rw [e1,e2] at this
  exact absurd rfl this
 ·subst q
  rw [e1] at e2
  simp only [Prod.mk.injEq] at e2
  exact e2.2
 ·have:=hp j i hj hi q
  rw [e1,e2] at this
  exact absurd rfl this
def tokAt (d:Nat) (p:Oper):Bool:=match p.dst with
 | some x=>Nat.beq x d
 | none=>false
def rowD (w0:World) (o:Option Nat) (d:Nat):Disc w0 where
 rel:=fun w=>w0.grownBy w o
 tok:=tokAt d
 lock:=fun w=> ∀k,o=some k→k<w0.heap.size→w.heap[k]?=w0.heap[k]?
 still:=fun w w'=>Below w.heap.size w w'
 lock_still:=fun w w' hs hl k hk hlt=>by
  have h:=hl k hk hlt
  have hk':k<w.heap.size:=by
   rw [Array.getElem?_eq_getElem hlt] at h
   exact (Array.getElem?_eq_some_iff.1 h).1
  exact (hs.block k hk').trans h
 still_refl:=fun w=>Below.refl _ w
 fin:=fun _=>True
 fin_still:=fun _ _ _ h=>h
 good:=fun b e=> ∀v w w',w0.grownBy w o→w.grownBy w' o→(b=true→Below w.heap.size w w')→e.sat v w→e.sat v w'
 foot:=fun _ _ _=>False
 step:=fun w w' _=>w.grownBy w' o
 foot_ex:=fun _ _ _ h=>h
 step_refl:=fun w _=>GB.refl w
 rel_step:=fun w w' _ hr h=>hr.trans h
 keep:=fun _ e hg v w w' _ hr hs hb _ h=>hg v w w' hr hs hb h
 bound:=fun _ _ _ _ _ _ _ h=>h.elim
 inv:=fun _=>True
 inv_step:=fun _ _ _ _ _=>trivial
section
variable {P:Program} {r:Option Nat} {Q:Exit→Act→World→Prop} {N:Nat} {ds:List Deferred} {ops rest:List Oper} {D:DE} {w:World} {o:Option Nat} {tk:Nat} {G:Option Bool} {Fin:DE→Prop}
def DR (P:Program) (N:Nat) (ds:List Deferred) (ops:List Oper) (w0:World) (o:Option Nat) (tk:Nat) (Fin:DE→Prop):List Oper→DE→Prop
 | [],D=>Fin D
 | p::rest,D=> ∃G e,DOneA P N ds ops (rowD w0 o tk) p D G e []∧DR P N ds ops w0 o tk Fin rest (dins D p.dst G e)
theorem DR.entries: ∀ {rest:List Oper} {D:DE},DR P N ds ops w o tk Fin rest D →
  ∃ ges:List Lay,ges.length=rest.length∧Fin (laidO D rest ges) ∧
   ∀ i p G e s,rest[i]?=some p→ges[i]?=some (G,e,s)→DOneA P N ds ops (rowD w o tk) p (laidO D (rest.take i) (ges.take i)) G e s
 | [],D,h=>⟨[],rfl,h,fun i p G e s h1 _=>by simp at h1⟩
 | p::rest,D,h=>by
  obtain ⟨G,e,h1,h2⟩:=h
  rw [←ddrop_nil D] at h2
  obtain ⟨ges,hl,hF,hi⟩:=DR.entries h2
  refine ⟨(G,e,[])::ges,by simp [hl],hF,?_⟩
  intro i p' G' e' s' ho he
  cases i with
  | zero =>
   simp at ho he
   obtain ⟨rfl,rfl,rfl⟩:=he
   subst ho
   simpa [laidO] using h1
  | succ i =>
   simp at ho he
   simpa [laidO] using hi i p' G' e' s' ho he
theorem DR.nil (h:Fin D):DR P N ds ops w o tk Fin [] D:=h
theorem DR.val {p:Oper} {v:Value} (hg:dgd ops D p.guard=some G) (hd:okDst N p.dst=true) (hn:noDefer p.op=true)
  (hrun:Cnd G→ ∀a w',w.grownBy w' o→FitL N ds (p.looksAt ops.toArray) D a w'→(execOp a.eval p).run P w'= .ok (.value v) w') (next:DR P N ds ops w o tk Fin rest (dins D p.dst G (.ex v))):DR P N ds ops w o tk Fin (p::rest) D :=
 ⟨G,.ex v,⟨hg,hd,hn,fun _ _ _ _ _ _ h=>h,rfl,fun s hs=>by simp at hs,fun hG a w' hr _ ha=> .inl ⟨v,w',.inl (hrun hG a w' hr ha),GB.refl _,⟨fun _=>Below.refl _ _,fun _=>trivial⟩,rfl,fun _ h=>h.elim⟩⟩,next⟩
variable {d:Option Tmp} {ty:TypeId} {pos:String} {af:Array Edge} {gu:Option (Nat×Bool)} {x y z:Operand} {cx cy cz:Option Bool}
theorem DR.move {vx:Value} (hg:dgd ops D gu=some G) (hd:okDst N d=true) (hx:dev D x=some (cx,.ex vx)) (ix:Cnd G→Cnd cx)
  (next:DR P N ds ops w o tk Fin rest (dins D d G (.ex vx))):DR P N ds ops w o tk Fin (⟨d,.move x,ty,pos,af,gu⟩::rest) D :=
 DR.val hg hd rfl (fun hG _ _ _ ha=>X.move (ha.eval (o:=⟨d,.move x,ty,pos,af,gu⟩) hx (by simp [Op.operands,Call.operands]) (ix hG))) next
theorem DR.nilCheck {ad:Addr} (hg:dgd ops D gu=some G) (hd:okDst N d=true) (hx:dev D x=some (cx,.ex (.pointer (some ad)))) (ix:Cnd G→Cnd cx)
  (next:DR P N ds ops w o tk Fin rest (dins D d G (.ex (.pointer (some ad))))):DR P N ds ops w o tk Fin (⟨d,.nilCheck x,ty,pos,af,gu⟩::rest) D :=
 DR.val hg hd rfl (fun hG _ _ _ ha=>X.nilCheck (ha.eval (o:=⟨d,.nilCheck x,ty,pos,af,gu⟩) hx (by simp [Op.operands,Call.operands]) (ix hG))) next
theorem DR.fieldAddr {ad:Addr} {off fi:Nat} {t:TypeId} (hg:dgd ops D gu=some G) (hd:okDst N d=true) (hf:fieldOff P t fi=some off) (hx:dev D x=some (cx,.ex (.pointer (some ad)))) (ix:Cnd G→Cnd cx)
  (next:DR P N ds ops w o tk Fin rest (dins D d G (.ex (.pointer (some (ad.add off)))))):DR P N ds ops w o tk Fin (⟨d,.fieldAddr t x fi,ty,pos,af,gu⟩::rest) D :=
 DR.val hg hd rfl (fun hG _ _ _ ha=>X.fieldAddr hf (ha.eval (o:=⟨d,.fieldAddr t x fi,ty,pos,af,gu⟩) hx (by simp [Op.operands,Call.operands]) (ix hG))) next
theorem DR.load {t:TypeId} {ad:Addr} {v:Value} (hg:dgd ops D gu=some G) (hd:okDst N d=true) (h1:one P t=true) (hx:dev D x=some (cx,.ex (.pointer (some ad)))) (ix:Cnd G→Cnd cx) (hc:Cnd G→w.cell? ad=some v∧o≠some ad.block)
  (next:DR P N ds ops w o tk Fin rest (dins D d G (.ex v))):DR P N ds ops w o tk Fin (⟨d,.load t x,ty,pos,af,gu⟩::rest) D :=
 DR.val hg hd rfl (fun hG _ _ hr ha=>X.load h1 (ha.eval (o:=⟨d,.load t x,ty,pos,af,gu⟩) hx (by simp [Op.operands]) (ix hG)) (GB.cell hr (hc hG).1 (hc hG).2)) next
theorem DR.lookup1 {κ:Type} {kt:TypeId} (K:GKey P kt κ) {t et:TypeId} {zv v:Value} {b:Nat} {m:List (κ×Value)} (k:κ) (hg:dgd ops D gu=some none) (hd:okDst N d=true) (ht:P.underlying t=some (.map kt et)) (hz:(P.info? et).bind (·.zero)=some zv)
  (hx:dev D x=some (none,.ex (.map (some b)))) (hy:dev D y=some (none,.ex (K.enc k))) (hm:MapL K w b m) (hne:o≠some b) (hv:(k,v)∈m∨((∀p∈m,p.1≠k)∧v=zv))
  (next:DR P N ds ops w o tk Fin rest (dins D d none (.ex v))):DR P N ds ops w o tk Fin (⟨d,.lookup t x y false,ty,pos,af,gu⟩::rest) D:=by
 refine DR.val hg hd rfl (fun _ a w' hr ha=> ?_) next
 obtain ⟨u,hu,hrun⟩:=run_lookupL K ht hz (hm.kept (hr.block b hm.lt (fun e=>hne e.symm))) k false
 simp only [execOp]
 rw [ha.eval (o:=⟨d,.lookup t x y false,ty,pos,af,gu⟩) hx (by simp [Op.operands]) trivial,ha.eval (o:=⟨d,.lookup t x y false,ty,pos,af,gu⟩) hy (by simp [Op.operands]) trivial]
 have hv':u.getD zv=v:=by
  cases u with
  | none =>
   rcases hv with h|⟨_,h⟩
   ·exact absurd rfl (hu _ h)
   ·exact h.symm
  | some u' =>
   rcases hv with h|⟨h,_⟩
   ·exact once_one hm.once hu h
   ·exact absurd rfl (h _ hu)
 simp [hrun,hv']
def LiesN (w0:World) (e:TypeId) (len:Nat) (cs:List Value) (v:Value) (w:World):Prop:= ∃g,v= .slice (some ⟨g,0,none⟩) len len∧Blk w g e cs∧w0.heap.size≤g
theorem DR.buildSlice {t:TypeId} (e:TypeId) {sz len:Nat} {parts:Array (Nat×Operand)} (xs:List Operand) {vs cs:List Value} (ho: ∀k,o=some k→k<w.heap.size) (hg:dgd ops D gu=some none) (hd:okDst N d=true) (hp:parts.toList=number xs) (he:elemOK P t e sz=true)
  (hx:DArgs (Oper.looksAt ops.toArray ⟨d,.buildSlice t len parts,ty,pos,af,gu⟩) N ds D none xs vs) (hl:len=vs.length)
  (hv:vs.all (fun v=>Nat.beq v.cells.size sz)=true) (hsm:Nat.ble (vs.length*sz) 16777216=true) (hpos:Nat.blt 0 vs.length=true) (hcs:vs.flatMap (fun v=>v.cells.toList)=cs)
  (next:DR P N ds ops w o tk Fin rest (dins D d none (.pr (LiesN w e len cs)))):DR P N ds ops w o tk Fin (⟨d,.buildSlice t len parts,ty,pos,af,gu⟩::rest) D:=by
 subst hl
 have hv': ∀v∈vs,v.cells.size=sz:=fun v hm=>Nat.eq_of_beq_eq_true (List.all_eq_true.1 hv v hm)
 refine ⟨none,.pr (LiesN w e vs.length cs),⟨hg,hd,rfl,fun v w1 w2 hr hs _ ⟨g,h1,h2,h3⟩=>⟨g,h1,GB.blk hs h2 (fun e=>by have:=ho _ e; omega),h3⟩,rfl,fun s hs=>by simp at hs,fun hG a w' hr _ ha=> .inl ?_⟩,next⟩
 refine ⟨_,_,.inl (X.buildSlice hp rfl he (hx (fun t ht=>mem_looks ?_) a w' ha hG) hv' (Nat.le_of_ble_eq_true hsm) (blt_iff.1 hpos)),GB.of_below ((Below.refl _ _).alloc (Nat.le_refl _) _),⟨fun _=>(Below.refl _ _).alloc (Nat.le_refl _) _,fun _=>trivial⟩,⟨w'.heap.size,rfl,?_,hr.size⟩,fun _ h=>h.elim⟩
 ·simp only [Op.operands]
  rw [hp]
  simp only [number,List.map_map]
  rw [List.mem_map]
  obtain ⟨j,hj,he⟩:=List.getElem_of_mem ht
  exact ⟨(Operand.tmp t,j),by rw [List.mem_zipIdx_iff_getElem?]; simp [he.symm],rfl⟩
 ·rw [hcs]; exact Blk.new w' e cs
def AppE (w0:World) (o:Option Nat) (e:TypeId) (sz n:Nat) (xs:List Value) (v:Value) (w:World):Prop:=OwnS w e sz v n xs∧(v.ownBlock=o∨ ∃g,v.ownBlock=some g∧w0.heap.size≤g)
theorem DR.append {t e:TypeId} {sz bytes n m:Nat} {s:Operand} {v:Value} {xs:List Value} (news:List Value) (hdt:d=some tk) (hg:dgd ops D gu=some none) (hd:okDst N d=true) (hog:growOK P t e sz bytes=true)
  (hs:dev D s=some (none,.ex v)) (hown:OwnS w e sz v n xs) (hvo:v.ownBlock=o) (hx:dev D x=some (none,.pr (LiesN w e m news))) (hl:news.length=m*sz) (h1: ∀u∈news,u.oneCell'=true)
  (hb:(n+m)*bytes≤140737488355328) (hb0:1≤bytes)
  (next:DR P N ds ops w o tk Fin rest (dins D d none (.pr (AppE w o e sz (n+m) (xs++news))))) :
  DR P N ds ops w o tk Fin (⟨d,.call ⟨.builtin .append,#[s,x],#[t,t]⟩,ty,pos,af,gu⟩::rest) D:=by
 have htok:tokAt tk ⟨d,.call ⟨.builtin .append,#[s,x],#[t,t]⟩,ty,pos,af,gu⟩=true:=by subst hdt; simp [tokAt]
 refine ⟨none,.pr (AppE w o e sz (n+m) (xs++news)),⟨hg,hd,rfl,fun u w1 w2 hr hs hbt ⟨h1,h2⟩=> ?_,rfl,fun s hs=>by simp at hs,fun hG a w' hr hlk ha=> .inl ?_⟩,next⟩
 ·have hbt:=hbt htok
  exact ⟨h1.below hbt,h2⟩
 ·have hlk:=hlk htok
  have hown':OwnS w' e sz v n xs:=hown.kept fun g hg=>hlk g (hvo ▸ hg) (hown.lt hg)
  obtain ⟨g,hgv,hgB,hgl⟩:=ha.evalP (o:=⟨d,.call ⟨.builtin .append,#[s,x],#[t,t]⟩,ty,pos,af,gu⟩) hx (by simp [Op.operands,Call.operands]) trivial
  obtain ⟨v',w'',a1,a2,a3,a5⟩:=append_run (P:=P) (ty:=ty) (c:=m) (A:=some ⟨g,0,none⟩) hog hown' hl (fun j u hj=>⟨_,rfl,hgB.fld hj⟩) h1 hb hb0
  refine ⟨v',w'',.inl ?_,hvo ▸ a3,⟨fun h=> ?_,fun _=>trivial⟩,⟨a2,?_⟩,fun _ h=>h.elim⟩
  ·simp only [execOp,resolve,invoke,builtin,Sem.run_bind,Sem.run_pure,Result.andThen_ok,List.map_toArray,List.map_cons,List.map_nil]
   rw [ha.eval (o:=⟨d,.call ⟨.builtin .append,#[s,x],#[t,t]⟩,ty,pos,af,gu⟩) hs (by simp [Op.operands,Call.operands]) trivial,hgv]
   rw [a1]
   rfl
  ·rw [show (rowD w o tk).tok=tokAt tk from rfl,htok] at h
   cases h
  ·rcases a5 with h|h
   ·exact .inl (h.trans hvo)
   ·exact .inr ⟨_,h,hr.size⟩
theorem DR.finX {K:Act→World→Prop} (ks:List Nat) (E:Env) (hE:dpick D ks=some E) (is:List Nat) {es:List Ent} (hp:dsel D is=some es) (h: ∀vs w',w.grownBy w' o→Sats es vs w'→KW N ds K (E++zipE is vs) w') :
  ∀ a w',w.grownBy w' o→FitD N ds D a w'→K a w' :=
 fun a w' hb ha=>h _ w' hb (ha.sel hp) a ⟨ha.size,ha.defers,fun i c v hl=>(look_app hl).elim ((ha.pick hE).slots i c v) ((ha.zip is).slots i c v)⟩
end
end Go.PF
namespace Go.PF
open Go.RowKit
section
variable {P:Program} {N:Nat} {ds:List Deferred} {ops rest:List Oper} {D:DE} {w:World} {G:Option Bool} {Fin:DE→Prop} {d:Option Tmp} {ty:TypeId} {pos:String} {af:Array Edge} {gu:Option (Nat×Bool)} {x y z:Operand} {cx cy cz:Option Bool}
variable {o:Option Nat} {tk:Nat}
theorem DR.add {m n:Int} {t t':TypeId} (hg:dgd ops D gu=some G) (hd:okDst N d=true) (hx:dev D x=some (cx,.ex (.int .i64 m))) (ix:Cnd G→Cnd cx) (hy:dev D y=some (cy,.ex (.int .i64 n))) (iy:Cnd G→Cnd cy) (hb:Cnd G→ -9223372036854775808≤m+n∧m+n≤9223372036854775807)
  (next:DR P N ds ops w o tk Fin rest (dins D d G (.ex (.int .i64 (m+n))))):DR P N ds ops w o tk Fin (⟨d,.binOp .add t x y t',ty,pos,af,gu⟩::rest) D :=
 DR.val hg hd rfl (fun hG _ _ _ ha=>X.add (ha.eval (o:=⟨d,.binOp .add t x y t',ty,pos,af,gu⟩) hx (by simp [Op.operands,Call.operands]) (ix hG)) (ha.eval (o:=⟨d,.binOp .add t x y t',ty,pos,af,gu⟩) hy (by simp [Op.operands,Call.operands]) (iy hG)) (hb hG)) next
theorem DR.sub {m n:Int} {t t':TypeId} (hg:dgd ops D gu=some G) (hd:okDst N d=true) (hx:dev D x=some (cx,.ex (.int .i64 m))) (ix:Cnd G→Cnd cx) (hy:dev D y=some (cy,.ex (.int .i64 n))) (iy:Cnd G→Cnd cy) (hb:Cnd G→ -9223372036854775808≤m-n∧m-n≤9223372036854775807)
  (next:DR P N ds ops w o tk Fin rest (dins D d G (.ex (.int .i64 (m-n))))):DR P N ds ops w o tk Fin (⟨d,.binOp .sub t x y t',ty,pos,af,gu⟩::rest) D :=
 DR.val hg hd rfl (fun hG _ _ _ ha=>X.sub (ha.eval (o:=⟨d,.binOp .sub t x y t',ty,pos,af,gu⟩) hx (by simp [Op.operands,Call.operands]) (ix hG)) (ha.eval (o:=⟨d,.binOp .sub t x y t',ty,pos,af,gu⟩) hy (by simp [Op.operands,Call.operands]) (iy hG)) (hb hG)) next
theorem DR.indexAddr {ad:Addr} {l c sz:Nat} {t e:TypeId} {k:IntKind} {i:Int} (hg:dgd ops D gu=some G) (hd:okDst N d=true) (ht:P.underlying t=some (.slice e)) (hs:(P.info? e).map (·.size)=some sz) (hx:dev D x=some (cx,.ex (.slice (some ad) l c))) (ix:Cnd G→Cnd cx) (hy:dev D y=some (cy,.ex (.int k i))) (iy:Cnd G→Cnd cy) (hi:Cnd G→0≤i∧i<(l:Int))
  (next:DR P N ds ops w o tk Fin rest (dins D d G (.ex (.pointer (some (ad.add (i.toNat*sz))))))):DR P N ds ops w o tk Fin (⟨d,.indexAddr t x y,ty,pos,af,gu⟩::rest) D :=
 DR.val hg hd rfl (fun hG _ _ _ ha=>X.indexAddr ht hs (ha.eval (o:=⟨d,.indexAddr t x y,ty,pos,af,gu⟩) hx (by simp [Op.operands,Call.operands]) (ix hG)) (ha.eval (o:=⟨d,.indexAddr t x y,ty,pos,af,gu⟩) hy (by simp [Op.operands,Call.operands]) (iy hG)) (hi hG)) next
theorem CW.joinP {α:Type} {r:Option Nat} {Q:Exit→Act→World→Prop} {c y:Code} {E:Env} (E':α→Env) (J:α→World→Prop) (hx:(∀x W,J x W→CW P r Q N ds y (E' x) W)→CW P r (Exit.then (y.wpIn (FR r) 0 P Q) Q) N ds c E w) (hy: ∀x W,J x W→CW P r Q N ds y (E' x) W):CW P r (Exit.then (y.wpIn (FR r) 0 P Q) Q) N ds c E w:=hx hy
end
end Go.PF
namespace Go.PF
open Go.RowKit
def isSt (p:Oper):Bool:=match p.op with
 | .store .. =>true
 | _=>false
def oneSt (l:List Oper):Bool:=Nat.ble (l.filter isSt).length 1&&l.any fun p=>isSt p&&p.guard.isNone
def storeD (w0:World) (g:Nat) (t:TypeId) (cs:List Value):Disc w0 where
 rel:=fun w=>w0.grownBy w (some g)
 tok:=isSt
 lock:=fun w=>g<w0.heap.size→w.heap[g]?=w0.heap[g]?
 still:=fun w w'=>Below w.heap.size w w'
 lock_still:=fun w w' hs hl hlt=>by
  have h:=hl hlt
  have hk':g<w.heap.size:=by
   rw [Array.getElem?_eq_getElem hlt] at h
   exact (Array.getElem?_eq_some_iff.1 h).1
  exact (hs.block g hk').trans h
 still_refl:=fun w=>Below.refl _ w
 fin:=fun w=>Blk w g t cs
 fin_still:=fun w w' hb h=>h.next hb
 good:=fun _ e=> ∀v w w',w0.grownBy w (some g)→w.grownBy w' (some g)→e.sat v w→e.sat v w'
 foot:=fun _ _ _=>False
 step:=fun w w' _=>w.grownBy w' (some g)
 foot_ex:=fun _ _ _ h=>h
 step_refl:=fun w _=>GB.refl w
 rel_step:=fun w w' _ hr h=>hr.trans h
 keep:=fun _ e hg v w w' _ hr hs _ _ h=>hg v w w' hr hs h
 bound:=fun _ _ _ _ _ _ _ h=>h.elim
 inv:=fun _=>True
 inv_step:=fun _ _ _ _ _=>trivial
section
variable {P:Program} {r:Option Nat} {Q:Exit→Act→World→Prop} {N:Nat} {ds:List Deferred} {ops rest:List Oper} {D:DE} {w:World} {g:Nat} {bt:TypeId} {cs:List Value} {G:Option Bool} {Fin:DE→Prop}
def DS (P:Program) (N:Nat) (ds:List Deferred) (ops:List Oper) (w0:World) (g:Nat) (bt:TypeId) (cs:List Value) (Fin:DE→Prop):List Oper→DE→Prop
 | [],D=>Fin D
 | p::rest,D=> ∃G e,DOneA P N ds ops (storeD w0 g bt cs) p D G e []∧DS P N ds ops w0 g bt cs Fin rest (dins D p.dst G e)
theorem DS.entries: ∀ {rest:List Oper} {D:DE},DS P N ds ops w g bt cs Fin rest D →
  ∃ ges:List Lay,ges.length=rest.length∧Fin (laidO D rest ges) ∧
   ∀ i p G e s,rest[i]?=some p→ges[i]?=some (G,e,s)→DOneA P N ds ops (storeD w g bt cs) p (laidO D (rest.take i) (ges.take i)) G e s
 | [],D,h=>⟨[],rfl,h,fun i p G e s h1 _=>by simp at h1⟩
 | p::rest,D,h=>by
  obtain ⟨G,e,h1,h2⟩:=h
  rw [←ddrop_nil D] at h2
  obtain ⟨ges,hl,hF,hi⟩:=DS.entries h2
  refine ⟨(G,e,[])::ges,by simp [hl],hF,?_⟩
  intro i p' G' e' s' ho he
  cases i with
  | zero =>
   simp at ho he
   obtain ⟨rfl,rfl,rfl⟩:=he
   subst ho
   simpa [laidO] using h1
  | succ i =>
   simp at ho he
   simpa [laidO] using hi i p' G' e' s' ho he
theorem RW.drawStore {E:Env} {W:World} {s:Nat} (g:Nat) (bt:TypeId) (cs:List Value) (t:Nat) (hlex:lexOK ops=true) (hcut:cutOK ops s t=true) (hone:oneSt (stretch ops s t)=true) (hst:Nat.ble s t=true) (htl:Nat.ble t ops.length=true) (hb:Below w.heap.size w W)
  (h:DS P N ds ops w g bt cs (fun D=> ∀a w',w.grownBy w' (some g)→Blk w' g bt cs→FitD N ds D a w'→RK P r Q ops t a w') (stretch ops s t) (lift E)):RW P r Q N ds ops s E W:=by
 have hst:=Nat.le_of_ble_eq_true hst
 have htl:=Nat.le_of_ble_eq_true htl
 intro a ha listed fuel hsz hls hfu
 obtain ⟨ges,hl,hF,hstep⟩:=DS.entries h
 have hl':ges.length=t-s:=by rw [hl]; unfold stretch; simp; omega
 unfold oneSt at hone
 rw [Bool.and_eq_true] at hone
 obtain ⟨hone1,hone2⟩:=hone
 have hone1:=Nat.le_of_ble_eq_true hone1
 have hgl: ∀ {j:Nat} {L:Lay},ges[j]?=some L→j<t-s:=fun hg=>by rw [←hl']; exact (List.getElem?_eq_some_iff.1 hg).1
 refine draw_sound (N:=N) (ds:=ds) (w0:=w) (a0:=a) (D0:=lift E) (ges:=ges) (storeD w g bt cs) hlex hcut hst htl hl' ?_ (fun i j p p' hil hjl hi hj h1 h2=> ?_) ?_ ?_ fuel listed a W hsz ?_ ?_
 ·intro i p G e E hi hg
  have hil:i<t-s:=hgl hg
  exact hstep i p G e E (by rw [stretch_get,if_pos hil]; exact hi) hg
 ·exact one_of_filter (p:=isSt) hone1 (by rw [stretch_get,if_pos hil]; exact hi) h1 (by rw [stretch_get,if_pos hjl]; exact hj) h2
 ·intro i c e he
  rw [dlook_lift] at he
  cases hlk:look E i with
  | none=>rw [hlk] at he; cases he
  | some p =>
   rw [hlk] at he
   simp only [Option.map_some,Option.some.injEq,Prod.mk.injEq] at he
   obtain ⟨rfl,rfl⟩:=he
   exact ⟨_,rfl,ha.slots i p.1 p.2 hlk⟩
 ·intro fuel listed a w' hsz hls hfu hb' _ hfin hfit
  refine hF a w' hb' ?_ hfit listed fuel hsz hls hfu
  obtain ⟨p,hp,hpt⟩:=List.any_eq_true.1 hone2
  rw [Bool.and_eq_true] at hpt
  obtain ⟨i,hi⟩:=List.mem_iff_getElem?.1 hp
  have hit:i<t-s:=by
   rw [stretch_get] at hi
   split at hi
   ·assumption
   ·cases hi
  have hi':=hi
  rw [stretch_get,if_pos hit] at hi'
  obtain ⟨G,e,E,hge⟩: ∃G e E,ges[i]?=some (G,e,E):=⟨_,_,_,List.getElem?_eq_getElem (by omega)⟩
  refine hfin i p G e E hi' hge hpt.1 ?_
  have hgd:=(hstep i p G e E hi hge).1
  have hn:p.guard=none:=by simpa using hpt.2
  rw [hn] at hgd
  cases hgd
  trivial
 ·refine Nat.le_trans ?_ hfu
  have:(List.range ops.length).filter (fun k=> !listed.getD k false)=(List.range ops.length).filter (fun k=>decide (s≤k)):=by
   refine List.filter_congr fun k hk=> ?_
   rw [hls k (by simpa using hk)]
   by_cases h1:k<s<;>simp [h1]<;>omega
  rw [this,show ops.length=s+(ops.length-s) by omega,List.range_add,List.filter_append]
  simp
  rw [List.filter_eq_nil_iff.2 (by intro x hx; simp at hx; simp; omega)]
  refine Nat.le_trans (Nat.add_le_add_left (List.length_filter_le _ _) _) ?_
  simp
 ·have hnl: ∀k,s≤k→listed.getD k false=false:=by
   intro k hk
   rcases Nat.lt_or_ge k ops.length with h|h
   ·rw [hls k h]; simp; omega
   ·simp [Array.getElem?_eq_none (show listed.size≤k by omega)]
  refine ⟨GB.of_below hb,fun k p _ _ _ _ hj=>hb.block _ hj,trivial,fun k p G e E _ _ _ hlk _=>(by rw [hnl _ (by omega)] at hlk; cases hlk),ha.size,ha.defers,fun k hk=>by rw [hls k (by omega)]; simp [hk],fun k hk=>hnl k (by omega),?_,?_,fun _ _ _ _ _ _ _=>rfl,fun _ _=>rfl,?_⟩
  ·intro k o d G e E hk _ _ hlk
   rw [hnl _ (by omega)] at hlk; cases hlk
  ·intro k o d G e E k' o' d' G' e' E' hk _ _ hlk
   rw [hnl _ (by omega)] at hlk; cases hlk
  ·intro k o hk hlk e he hbi
   have hks:k<s:=by
    rcases Nat.lt_or_ge k s with h|h
    ·exact h
    ·rw [hnl k h] at hlk; cases hlk
   have hon:=(lexOK_spec hlex hk hk).1 e he hbi
   rw [hls e.on (by omega)]
   simp; omega
theorem DS.nil (h:Fin D):DS P N ds ops w g bt cs Fin [] D:=h
theorem DS.val {p:Oper} {v:Value} (hns:isSt p=false) (hg:dgd ops D p.guard=some G) (hd:okDst N p.dst=true) (hn:noDefer p.op=true)
  (hrun:Cnd G→ ∀a w',w.grownBy w' (some g)→FitL N ds (p.looksAt ops.toArray) D a w'→(execOp a.eval p).run P w'= .ok (.value v) w') (next:DS P N ds ops w g bt cs Fin rest (dins D p.dst G (.ex v))):DS P N ds ops w g bt cs Fin (p::rest) D :=
 ⟨G,.ex v,⟨hg,hd,hn,fun _ _ _ _ _ h=>h,rfl,fun s hs=>by simp at hs,fun hG a w' hr _ ha=> .inl ⟨v,w',.inl (hrun hG a w' hr ha),GB.refl _,⟨fun _=>Below.refl _ _,fun h=>by rw [show (storeD w g bt cs).tok p=isSt p from rfl,hns] at h; cases h⟩,rfl,fun _ h=>h.elim⟩⟩,next⟩
variable {d:Option Tmp} {ty:TypeId} {pos:String} {af:Array Edge} {gu:Option (Nat×Bool)} {x y z:Operand} {cx cy cz:Option Bool}
theorem DS.move {vx:Value} (hg:dgd ops D gu=some G) (hd:okDst N d=true) (hx:dev D x=some (cx,.ex vx)) (ix:Cnd G→Cnd cx)
  (next:DS P N ds ops w g bt cs Fin rest (dins D d G (.ex vx))):DS P N ds ops w g bt cs Fin (⟨d,.move x,ty,pos,af,gu⟩::rest) D :=
 DS.val rfl hg hd rfl (fun hG _ _ _ ha=>X.move (ha.eval (o:=⟨d,.move x,ty,pos,af,gu⟩) hx (by simp [Op.operands,Call.operands]) (ix hG))) next
theorem DS.fieldAddr {ad:Addr} {off fi:Nat} {t:TypeId} (hg:dgd ops D gu=some G) (hd:okDst N d=true) (hf:fieldOff P t fi=some off) (hx:dev D x=some (cx,.ex (.pointer (some ad)))) (ix:Cnd G→Cnd cx)
  (next:DS P N ds ops w g bt cs Fin rest (dins D d G (.ex (.pointer (some (ad.add off)))))):DS P N ds ops w g bt cs Fin (⟨d,.fieldAddr t x fi,ty,pos,af,gu⟩::rest) D :=
 DS.val rfl hg hd rfl (fun hG _ _ _ ha=>X.fieldAddr hf (ha.eval (o:=⟨d,.fieldAddr t x fi,ty,pos,af,gu⟩) hx (by simp [Op.operands,Call.operands]) (ix hG))) next
theorem DS.load {t:TypeId} {ad:Addr} {v:Value} (hg:dgd ops D gu=some G) (hd:okDst N d=true) (h1:one P t=true) (hx:dev D x=some (cx,.ex (.pointer (some ad)))) (ix:Cnd G→Cnd cx) (hc:Cnd G→w.cell? ad=some v∧ad.block≠g)
  (next:DS P N ds ops w g bt cs Fin rest (dins D d G (.ex v))):DS P N ds ops w g bt cs Fin (⟨d,.load t x,ty,pos,af,gu⟩::rest) D :=
 DS.val rfl hg hd rfl (fun hG _ _ hr ha=>X.load h1 (ha.eval (o:=⟨d,.load t x,ty,pos,af,gu⟩) hx (by simp [Op.operands]) (ix hG)) (GB.cell hr (hc hG).1 (fun e=>(hc hG).2 (by cases e; rfl)))) next
theorem DS.add {m n:Int} {t t':TypeId} (hg:dgd ops D gu=some G) (hd:okDst N d=true) (hx:dev D x=some (cx,.ex (.int .i64 m))) (ix:Cnd G→Cnd cx) (hy:dev D y=some (cy,.ex (.int .i64 n))) (iy:Cnd G→Cnd cy) (hb:Cnd G→ -9223372036854775808≤m+n∧m+n≤9223372036854775807)
  (next:DS P N ds ops w g bt cs Fin rest (dins D d G (.ex (.int .i64 (m+n))))):DS P N ds ops w g bt cs Fin (⟨d,.binOp .add t x y t',ty,pos,af,gu⟩::rest) D :=
 DS.val rfl hg hd rfl (fun hG _ _ _ ha=>X.add (ha.eval (o:=⟨d,.binOp .add t x y t',ty,pos,af,gu⟩) hx (by simp [Op.operands,Call.operands]) (ix hG)) (ha.eval (o:=⟨d,.binOp .add t x y t',ty,pos,af,gu⟩) hy (by simp [Op.operands,Call.operands]) (iy hG)) (hb hG)) next
theorem DS.indexAddr {ad:Addr} {l c sz:Nat} {t e:TypeId} {k:IntKind} {i:Int} (hg:dgd ops D gu=some G) (hd:okDst N d=true) (ht:P.underlying t=some (.slice e)) (hs:(P.info? e).map (·.size)=some sz) (hx:dev D x=some (cx,.ex (.slice (some ad) l c))) (ix:Cnd G→Cnd cx) (hy:dev D y=some (cy,.ex (.int k i))) (iy:Cnd G→Cnd cy) (hi:Cnd G→0≤i∧i<(l:Int))
  (next:DS P N ds ops w g bt cs Fin rest (dins D d G (.ex (.pointer (some (ad.add (i.toNat*sz))))))):DS P N ds ops w g bt cs Fin (⟨d,.indexAddr t x y,ty,pos,af,gu⟩::rest) D :=
 DS.val rfl hg hd rfl (fun hG _ _ _ ha=>X.indexAddr ht hs (ha.eval (o:=⟨d,.indexAddr t x y,ty,pos,af,gu⟩) hx (by simp [Op.operands,Call.operands]) (ix hG)) (ha.eval (o:=⟨d,.indexAddr t x y,ty,pos,af,gu⟩) hy (by simp [Op.operands,Call.operands]) (iy hG)) (hi hG)) next
theorem DS.store {t:TypeId} {j:Nat} {cs0:List Value} {u:Value} (hgu:gu=none) (hs:(P.info? t).map (·.size)=some 1) (hx:dev D x=some (none,.ex (.pointer (some (Addr.add ⟨g,0,none⟩ j))))) (hy:dev D y=some (none,.ex u)) (hB:Blk w g bt cs0) (hj:j<cs0.length) (h1:u.oneCell'=true) (hcs:cs0.set j u=cs)
  (next:DS P N ds ops w g bt cs Fin rest D):DS P N ds ops w g bt cs Fin (⟨none,.store t x y,ty,pos,af,gu⟩::rest) D:=by
 subst hgu
 refine ⟨none,.pr fun _ _=>True,⟨rfl,rfl,rfl,fun _ _ _ _ _ _=>trivial,rfl,fun s hs=>by simp at hs,fun hG a w' hr hlk ha=> .inl ?_⟩,next⟩
 have hB':Blk w' g bt cs0:=(hlk rfl hB.lt).trans hB
 refine ⟨undef,w'.setCell ⟨g,j,none⟩ u,.inr ⟨rfl,?_⟩,But.setCell,⟨fun h=>(by cases h),fun _=> ?_⟩,trivial,fun _ h=>h.elim⟩
 ·simp only [execOp]
  have hxe:=ha.eval (o:=⟨none,.store t x y,ty,pos,af,none⟩) hx (by simp [Op.operands]) trivial
  have e:u.cells= #[u]:=by cases u<;>first|rfl|simp [Value.oneCell'] at h1
  have hc:w'.cell? (Addr.add ⟨g,0,none⟩ j)=_:=hB'.fld (List.getElem?_eq_getElem hj)
  rw [addr0] at hxe hc
  have hf:w'.frozen? ⟨g,j,none⟩=false:=hB'.frozen _
  obtain ⟨ad,had⟩: ∃ad:Addr,ad=⟨g,j,none⟩:=⟨_,rfl⟩
  rw [←had] at hxe hc hf ⊢
  rw [hxe,ha.eval (o:=⟨none,.store t x y,ty,pos,af,none⟩) hy (by simp [Op.operands]) trivial]
  simp [Instr.storeAt,Instr.sureAddr,storeVar,run_sizeOf hs,e,storeCells,run_store P w' ad u .plain h1,hc,hf,Addr.add]
 ·show Blk _ g bt cs
  rw [←hcs]
  exact hB'.set j u
theorem DS.fin {K:Act→World→Prop} (is:List Nat) (E:Env) (hp:dpick D is=some E) (h: ∀w',w.grownBy w' (some g)→Blk w' g bt cs→KW N ds K E w'): ∀a w',w.grownBy w' (some g)→Blk w' g bt cs→FitD N ds D a w'→K a w' :=
 fun a w' hb hB ha=>h w' hb hB a (ha.pick hp)
end
end Go.PF
namespace Go.Proofs.YtffjgpoadfkjlaaGreatDoor
open Go.PF Go.RowKit Go.Ord
attribute [local irreducible] TW CW KW DW
variable {w:World} {n p q r s:Nat} {g:Int} {a b:Ev} {A B:Option Addr}
theorem mj_window:Meth Tryz.prog "postilion/order.window" 114 185:=fun _ _ _=>by kernel_rfl
theorem mj_ends:Meth Tryz.prog "postilion/order.ends" 114 183:=fun _ _ _=>by kernel_rfl
theorem mj_span:Meth Tryz.prog "postilion/order.span" 114 184:=fun _ _ _=>by kernel_rfl
theorem mj_write:Meth Tryz.prog "postilion/order.write" 114 186:=fun _ _ _=>by kernel_rfl
theorem Blk.part {g:Nat} {t:TypeId} {cs:List Value} (h:Blk w g t cs) (k:Nat) (ds:List Value) (hk:(cs.drop k).take ds.length=ds): ∀j v,ds[j]?=some v→w.cell? ((Addr.add ⟨g,0,none⟩ k).add j)=some v:=fun j v hj=>by
 have hjl:=(List.getElem?_eq_some_iff.1 hj).1
 have e:((cs.drop k).take ds.length)[j]?=some v:=by rw [hk]; exact hj
 rw [List.getElem?_take_of_lt hjl,List.getElem?_drop] at e
 rw [Addr.add_add]
 exact h.fld e
def jV (n:Nat) (g:Int) (a b:Ev) (va vb:Value):List Value:= [.int .i64 (n:Int),.int .i64 ((n:Int)+1),.int .i64 g,.int .i64 a.office,.int .i64 a.low,.int .i64 a.high,va,.int .i64 b.office,.int .i64 b.low,.int .i64 b.high,vb]
theorem jwindow_c (hg:0≤g∧g≤1000000):Gives Tryz.prog 185 #[.agg (jV n g a b (.slice A p q) (.slice B r s)).toArray] w fun x w'=>Below w.heap.size w w'∧x= .tuple #[.int .i64 (jU a b g).low,.int .i64 (jU a b g).high]:=by
 refine gv (f:=185) ?_
 refine rnT ?_
 refine TW.box rfl rfl rfl rfl ?_
 rintro g1 w1 f1
 refine rnT ?_
 refine TW.ldS rfl (Blk.part f1.blk 3 [.int .i64 a.office,.int .i64 a.low,.int .i64 a.high,.slice A p q] rfl) ?_
 refine TW.cl rfl (clamp_c) ?_
 rintro v2 w2 ⟨hb2,rfl⟩
 have hB2:=f1.blk.next hb2
 refine rnT ?_
 refine TW.ldS rfl (Blk.part hB2 7 [.int .i64 b.office,.int .i64 b.low,.int .i64 b.high,.slice B r s] rfl) ?_
 refine TW.cl rfl (clamp_c) ?_
 rintro v3 w3 ⟨hb3,rfl⟩
 have hB3:=hB2.next hb3
 have hl:0≤lowC b∧lowC b≤1000001:=by unfold lowC; omega
 have hh: -1≤highC b∧highC b≤1000000:=by unfold highC; omega
 have hgc:w3.cell? ((Addr.add ⟨g1,0,none⟩ 0).add 2)=some (.int .i64 g):=by rw [Addr.add_add]; exact hB3.fld rfl
 refine rnT ?_
 refine CW.draw mixed (by kernel_rfl) ?_
 refine rnD ?_
 refine DW.ld rfl hgc ?_
 refine rnD ?_
 refine DW.v V.maxI rfl ⟨ct,ct,trivial⟩ (fun _=>trivial) ?_
 refine rnD ?_
 refine DW.ld rfl hgc ?_
 refine rnD ?_
 refine DW.v V.minI rfl ⟨ct,ct,trivial⟩ (fun _=>trivial) ?_
 refine rnD ?_
 refine DW.fi [0,1,2,3,4,5,6,7] rfl fun w4 b4=> ?_
 refine rnT ?_
 refine rt2 rfl ⟨((f1.below.step hb2).step hb3).step b4,rfl⟩
theorem jends_c:Gives Tryz.prog 183 #[.agg (jV n g a b (.slice A p q) (.slice B r s)).toArray] w fun x w'=>Below w.heap.size w w'∧x= .tuple #[.int .i64 a.office,.int .i64 b.office]:=by
 refine gv (f:=183) ?_
 refine rnT ?_
 refine TW.box rfl rfl rfl rfl ?_
 rintro g1 w1 f1
 refine rnT ?_
 refine CW.pk [0,1,2,3] rfl ?_
 refine CW.draw mixed (by kernel_rfl) ?_
 refine rnD ?_
 have hc1:w1.cell? ((Addr.add ⟨g1,0,none⟩ 3).add 0)=some (.int .i64 a.office):=by rw [Addr.add_add]; exact f1.blk.fld rfl
 have hc2:w1.cell? ((Addr.add ⟨g1,0,none⟩ 7).add 0)=some (.int .i64 b.office):=by rw [Addr.add_add]; exact f1.blk.fld rfl
 refine DW.ld rfl hc1 ?_
 refine rnD ?_
 refine DW.ld rfl hc2 ?_
 refine rnD ?_
 refine DW.fi [0,1,2,3] rfl fun w4 b4=> ?_
 refine rnT ?_
 refine rt2 rfl ⟨f1.below.step b4,rfl⟩
theorem jspan_c:Gives Tryz.prog 184 #[.agg (jV n g a b (.slice A p q) (.slice B r s)).toArray] w fun x w'=>Below w.heap.size w w'∧x= .int .i64 g:=by
 refine gv (f:=184) ?_
 refine rnT ?_
 refine TW.box rfl rfl rfl rfl ?_
 rintro g1 w1 f1
 refine rnT ?_
 have hc1:w1.cell? ((Addr.add ⟨g1,0,none⟩ 0).add 2)=some (.int .i64 g):=by rw [Addr.add_add]; exact f1.blk.fld rfl
 refine TW.ld rfl hc1 ?_
 refine rnT ?_
 refine rt1 rfl ⟨f1.below,rfl⟩
theorem jwrite_c {m gt:Nat} {t x:Int} (hn:n+1<m%32) (hm:m%32≤16) (hx:m / 32=0∨m / 32=n+1∧0<g) (hg:0≤g∧g≤1000000) (ht0: -1≤t) (ht1:t≤3000000) (ht:TimesX w gt m x):Gives Tryz.prog 186 #[.agg (jV n g a b (.slice A p q) (.slice B r s)).toArray,.slice (some ⟨gt,0,none⟩) (m%32) (m%32),.int .i64 t] w fun _ w'=>But gt w w'∧TimesX w' gt m (if 0<g then t else x):=by
 obtain ⟨xs,hxl,hB,_⟩:=ht
 generalize hq:m%32=qq at hn hm hxl ⊢
 refine gv (f:=186) ?_
 refine rnT ?_
 refine TW.box rfl rfl rfl rfl ?_
 rintro g1 w1 f1
 refine rnT ?_
 refine CW.drawR mixed fun W1 hW1=> ?_
 refine RW.drawStore (gt) 3 ((xs.map (Value.int .i64)).set ((n:Int).toNat*1) (.int .i64 t)) 16 (by kernel_rfl) (by kernel_rfl) rfl rfl rfl hW1 ?_
 refine DS.move rfl rfl rfl ct ?_
 refine DS.fieldAddr rfl rfl fo114_0 rfl ct ?_
 refine DS.fieldAddr rfl rfl fo43_0 rfl ct ?_
 have hne:g1≠gt:=by
  have:=f1.at_
  have:=hB.lt
  omega
 have hc0:w1.cell? ((Addr.add ⟨g1,0,none⟩ 0).add 0)=some (.int .i64 (n:Int)):=by rw [Addr.add_add]; exact f1.blk.fld rfl
 have hc1:w1.cell? ((Addr.add ⟨g1,0,none⟩ 0).add 1)=some (.int .i64 ((n:Int)+1)):=by rw [Addr.add_add]; exact f1.blk.fld rfl
 have hc2:w1.cell? ((Addr.add ⟨g1,0,none⟩ 0).add 2)=some (.int .i64 g):=by rw [Addr.add_add]; exact f1.blk.fld rfl
 have hB1:=hB.next f1.below
 refine DS.load rfl rfl one3 rfl ct (fun _=>⟨hc0,hne⟩) ?_
 refine DS.move rfl rfl rfl ct ?_
 refine DS.fieldAddr rfl rfl fo114_0 rfl ct ?_
 refine DS.fieldAddr rfl rfl fo43_1 rfl ct ?_
 refine DS.load rfl rfl one3 rfl ct (fun _=>⟨hc1,hne⟩) ?_
 refine DS.move rfl rfl rfl ct ?_
 refine DS.move rfl rfl rfl ct ?_
 refine DS.fieldAddr rfl rfl fo114_0 rfl ct ?_
 refine DS.fieldAddr rfl rfl fo43_2 rfl ct ?_
 refine DS.load rfl rfl one3 rfl ct (fun _=>⟨hc2,hne⟩) ?_
 refine DS.add rfl rfl rfl ct rfl ct (fun _=>by (try dsimp only); omega) ?_
 refine DS.indexAddr rfl rfl Tryz.underlying37 sz3 rfl ct rfl ct (fun _=>by (try dsimp only); omega) ?_
 refine DS.store rfl sz3 rfl rfl hB1 (by simp; omega) rfl rfl ?_
 refine DS.nil (DS.fin [0,1,2,3,10,13,19] [(0,_,_),(1,_,_),(2,_,_),(3,_,_),(10,_,_),(13,_,_),(19,_,_)] rfl (fun w2 b2 hB2=>KW.rk' ?_))
 refine RW.one (by kernel_rfl) (by kernel_rfl) rfl ?_
 refine TW.v V.indexAddr rfl ⟨ct,ct,trivial⟩ (fun _=>by (try dsimp only); omega) ?_
 refine TW.nil (KW.pick [0,1,2,3,19,21] [(0,_,_),(1,_,_),(2,_,_),(3,_,_),(19,_,_),(21,_,_)] rfl (KW.rk ?_))
 refine RW.one (by kernel_rfl) (by kernel_rfl) rfl ?_
 refine TW.storeFld rfl sz3 rfl rfl hB2 (by simp; omega) rfl ?_
 rintro w4 hB4 hbut4 hsz4
 refine TW.nil (KW.pick [0,1,2,3] [(0,_,_),(1,_,_),(2,_,_),(3,_,_)] rfl (KW.rk ?_))
 refine RW.end rfl (KW.pick [0,1,2,3] [(0,_,_),(1,_,_),(2,_,_),(3,_,_)] rfl ?_)
 refine end0 Tryz.results186 ⟨(But.of_below f1.below).trans (But.trans b2 hbut4),(xs.set n t).set (n+1) (t+g),by simp [hxl,hq],?_,fun k hk=> ?_⟩
 rotate_left 1
 ·rcases hx with h|⟨h,hp⟩
  ·omega
  ·obtain rfl:k=n:=by omega
   rw [if_pos hp,List.getElem?_set_ne (by omega),List.getElem?_set_self (by omega)]
 have e1:(n:Int).toNat*1=n:=by omega
 have e2:((n:Int)+1).toNat*1=n+1:=by omega
 rw [e1,e2] at hB4
 rw [List.map_set,List.map_set]
 exact hB4
theorem uv_journey {m:Nat} (hn:n+1<m%32) (hm:m%32≤16) (hx:m / 32=0∨m / 32=n+1∧0<g) (hg:0≤g∧g≤1000000) (ha:0≤a.office) (hb:0≤b.office):UV m (.iface 114 (.agg (jV n g a b (.slice A p q) (.slice B r s)).toArray)) (jU a b g):=by
 refine ⟨_,_,_,_,_,_,rfl,mj_window,mj_ends,mj_span,mj_write,fun w=>jwindow_c hg,fun w=> ?_,fun w=>jspan_c,fun w gt t x' h0 h1 ht=>jwrite_c hn hm hx hg h0 h1 ht⟩
 have h1:((a.office.toNat:Nat):Int)=a.office:=by omega
 have h2:((b.office.toNat:Nat):Int)=b.office:=by omega
 have:=jends_c (w:=w) (n:=n) (g:=g) (a:=a) (b:=b) (A:=A) (B:=B) (p:=p) (q:=q) (r:=r) (s:=s)
 show Gives _ _ _ _ fun y w'=>_∧y= .tuple #[.int .i64 ((a.office.toNat:Nat):Int),.int .i64 ((b.office.toNat:Nat):Int)]
 rw [h1,h2]
 exact this
end Go.Proofs.YtffjgpoadfkjlaaGreatDoor
