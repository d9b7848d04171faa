/- Texts of this claim,joined. -/
import Derived.Test.YtobaafdejnimkaaGreatDoorQS
set_option linter.unusedSimpArgs false
set_option linter.unusedVariables false
set_option maxRecDepth 100000
set_option maxHeartbeats 4000000
namespace Go.Proofs.YtobaafdejnimkaaGreatDoor
open Go.PF Go.RowKit Go.Ord
attribute [local irreducible] TW CW KW DW
variable {ks:List Int} {a:List Pp} {lab:ByteArray} {op t:Int} {w:World} {d:Dist} {l:List Ev}
theorem werr_wok {m:Int} (h1:worldsE d l m≠1) (h2:worldsE d l m≠2):WOK d l m:=by
 unfold worldsE at h1 h2
 split at h1
 ·rename_i q
  rw [if_pos q] at h2
  split at h1
  ·rename_i q2
   exact ⟨dec_iff.1 q.1,q.2.1,q.2.2,q2⟩
  ·rename_i q2
   rw [if_neg q2] at h2
   exact absurd rfl h2
 ·exact absurd rfl h1
def thereB (c:Cl) (x:ET):Bool:=decide (x.1.office=c.to)&&(decide (c.acc≤x.2)&&decide (x.2≤c.due))
def byB (c:Cl) (x:ET):Bool:=decide (x.1.office=c.to)&&decide (x.2≤c.due)
theorem any_next {α:Type} {l:List α} {i:Nat} {x:α} (h:l[i]?=some x) (p:α→Bool):(l.take (i+1)).any p=((l.take i).any p||p x):=by
 rw [List.take_add_one,h,List.any_append]
 simp
theorem truth_end {N:Net} {S ts:List Int} {c:Cl} (hf:FitW d l 0) (hn:(worldsS d l S.length).length≤400) (hW:WOK d l S.length) (hH:HoldsI d (restS l S) ts) :
  ((rulS N d l (worldsS d l S.length) [] [] c).1=1→((restS l S).zip ts).any (thereB c)=false)∧((rulS N d l (worldsS d l S.length) [] [] c).1=2→((restS l S).zip ts).any (byB c)=true):=by
 refine ⟨fun h=> ?_,fun h=> ?_⟩
 ·rcases rul_st.1 h with ⟨_,hr⟩|⟨hx,_⟩|⟨hx,_⟩
  ·refine Bool.eq_false_iff.2 fun hy=> ?_
   obtain ⟨x,hx,hb⟩:=List.any_eq_true.1 hy
   simp only [thereB,Bool.and_eq_true,decide_eq_true_eq] at hb
   have:=truth_reach hf hn hW (m:=(restS l S).zip ts) (by rw [List.map_fst_zip]; exact Nat.le_of_eq hH.len.symm) hH.n hx hb.2.1 hb.2.2
   rw [hb.1,hr] at this
   cases this
  ·exact absurd hx (by decide)
  ·exact absurd hx (by decide)
 ·rcases rul_st.1 h with ⟨hx,_⟩|⟨_,_,hs⟩|⟨hx,_⟩
  ·exact absurd hx (by decide)
  ·obtain ⟨e,he,ho,hh⟩:=truth_seen hW hH.poss hs
   obtain ⟨i,hi⟩:=List.mem_iff_getElem?.1 he
   have hil:i<(restS l S).length:=(List.getElem?_eq_some_iff.1 hi).1
   obtain ⟨t,ht,_⟩:=getx (l:=ts) (k:=i) (by rw [hH.len]; exact hil)
   have hw:=hH.win i e t hi ht
   refine List.any_eq_true.2 ⟨(e,t),List.mem_of_getElem? (List.getElem?_zip_eq_some.2 ⟨hi,ht⟩),?_⟩
   have h4:=hw.2.2.2
   simp only [byB,Bool.and_eq_true,decide_eq_true_eq]
   exact ⟨ho,by omega⟩
  ·exact absurd hx (by decide)
theorem truth_law {v:NV} {N:Net} {dv lv sv tv:Value} {S ts:List Int} {c:Cl} {F G:Nat→Prop} (hN:NetAt w v N) (hd:SD w dv d) (hl:SE w lv l) (hS:SL intT F w sv S) (hT:SL intT G w tv ts) (hcI:ClI c) (ht:Tabs w) :
  Gives Tryz.prog 9 #[.agg v.cells.toArray,dv,lv,sv,tv,.agg (clV c).toArray] w fun u w'=>Below w.heap.size w w'∧u= .bool true:=by
 obtain ⟨X,xcap,rfl,_⟩:=hS.form
 obtain ⟨C,ccap,rfl,_⟩:=hT.form
 refine gv (f:=9) ?_
 refine rnT ?_
 refine TW.box rfl rfl rfl rfl ?_
 rintro g6 w1 f1
 refine TW.box rfl rfl rfl rfl ?_
 rintro g11 w1' f1'
 refine rnT ?_
 have b1:=f1.below.step f1'.below
 have hB1:=f1.blk.next f1'.below
 have hC1:=f1'.blk
 refine TW.cl rfl (head_c (ht.below b1)) ?_
 rintro y w2 ⟨c2,rfl⟩
 have b2:=b1.step c2
 have hB2:=hB1.next c2
 have hC2:=hC1.next c2
 refine rnT ?_
 refine TW.ldS rfl (fun _ _ hv=>hB2.fld hv) ?_
 refine rnT ?_
 refine TW.ldS rfl (fun _ _ hv=>hC2.fld hv) ?_
 refine TW.cl rfl (right_c (c:=c) (ws:= []) (net_step hN b2) (sd_step hd b2) (se_step hl b2) (SL.nil _ _ _)) ?_
 rintro y w3 ⟨c3,rfl⟩
 have b3:=b2.step c3
 have hB3:=hB2.next c3
 have hC3:=hC2.next c3
 refine rnT ?_
 refine CW.cond rfl (fun hbad=> ?_) (fun hgood=> ?_)
 ·refine rnT ?_
  refine rt1 rfl ⟨b3,rfl⟩
 have hR:RightP N d l [] c:=dec_iff.1 (by cases hq:dec (RightP N d l [] c)<;>simp_all)
 have hS3:S.length≤3:=by
  rw [dec_pos hR] at hgood
  simp at hgood
  omega
 have hne:=hR.light.needs
 have hne': ∀e∈l,e.needs.length≤1000:=fun e he=>by have:=hR.light.few.nd e he; omega
 have hln:=hR.light.len
 refine rnT ?_
 refine TW.cl rfl (rest_c (se_step hl b3) (hS.below b3) (by omega) hne) ?_
 rintro rv w4 ⟨c4,hr4⟩
 have b4:=b3.step c4
 obtain ⟨R,rcap,rfl,_⟩:=hr4.form
 have hrl:=(restS_sub l S).length_le
 refine rnT ?_
 refine TW.cl rfl (worlds_c (sd_step hd b4) (se_step hl b4) hne') ?_
 rintro y w5 ⟨c5,wv,rfl,hw5⟩
 have b5:=b4.step c5
 obtain ⟨Y,ycap,rfl,_⟩:=hw5.form
 have hr5:=se_step hr4 c5
 refine rnT ?_
 refine TW.cl rfl (oholds_c (sd_step hd b5) hr5 (hT.below b5)) ?_
 rintro y w6 ⟨c6,rfl⟩
 have b6:=b5.step c6
 have hr6:=se_step hr5 c6
 have hw6:=sd_step hw5 c6
 have c36:=c4.step (c5.step c6)
 have hB6:=hB3.next c36
 have hC6:=hC3.next c36
 refine rnT ?_
 refine CW.pk [0,1,2,3,4,5,6,11,12,13,14,15,16,63] rfl ?_
 refine CW.cond rfl (fun hno=> ?_) (fun hyes=> ?_)
 ·refine rnT ?_
  refine rt1 rfl ⟨b6,rfl⟩
 have hall:HoldsI d (restS l S) ts∧worldsE d l S.length≠2∧worldsE d l S.length≠1∧(worldsS d l S.length).length≤60:=by
  cases hq:dec (HoldsI d (restS l S) ts) with
  | false=>rw [hq] at hyes; simp at hyes
  | true =>
   rw [hq] at hyes
   simp at hyes
   exact ⟨dec_iff.1 hq,hyes.1.1,hyes.1.2,by omega⟩
 obtain ⟨hH,he2,he1,hfew⟩:=hall
 have hwok:=werr_wok he1 he2
 obtain ⟨x0,hx0,_⟩:=hwok.has (Int.le_refl _) hH.poss
 have hwne:worldsS d l S.length≠ []:=List.ne_nil_of_mem hx0
 have hdec:DecOK N d l (worldsS d l S.length).length c:=⟨hR.sound,hR.fit.less (by omega),hR.same,hR.claim⟩
 rw [hwok.ok hx0]
 have hlen:=hH.len
 refine rnT ?_
 refine TW.ldS rfl (fun _ _ hv=>hB6.fld hv) ?_
 refine rnT ?_
 refine TW.ldS rfl (fun _ _ hv=>hC6.fld hv) ?_
 refine TW.cl rfl (decide_c (ks:= []) (ps:= []) (F:=fun _=>True) (ht.below b6) (net_step hN b6) (sd_step hd b6) (se_step hl b6) hw6 (SL.nil _ _ _) (SL.nil _ _ _) hne hcI) ?_
 rintro y w7 ⟨c7,rfl⟩
 rw [dec_of hdec (by simp) hwne]
 have b7:=b6.step c7
 refine rnT ?_
 refine TW.newVar rfl zc42 rfl sz42 rfl rfl ?_
 rintro g17 w8 f8
 refine rnT ?_
 refine CW.pk [0,1,2,3,4,5,6,11,12,13,14,15,16,17,18,86] rfl ?_
 have c68:=c7.step f8.below
 have b8:=b6.step c68
 have hr8:=se_step hr6 c68
 have hC8:=hC6.next c68
 have hZ8:=f8.blk
 have hT8:=hT.below b8
 refine CW.condP rfl (fun herr=> ?_) (fun hok=> ?_)
 ·exfalso
  revert herr
  simp
  omega
 refine rnT ?_
 refine CW.lp [4,11,13,14,17] (fun i:Nat=> [(19,none,.bool ((((restS l S).zip ts).take i).any (thereB c))),(20,none,.bool ((((restS l S).zip ts).take i).any (byB c))),(21,none,.int .i64 (i:Int))])
  (fun i W=>i≤(restS l S).length∧Below w8.heap.size w8 W) (fun i=>(restS l S).length-i) 0 ⟨Nat.zero_le _,Below.refl _ _⟩ ?_
 rintro i W ⟨hi,hB⟩
 have bW:=b8.step hB
 have hCW:=hC8.next hB
 have hrW:=se_step hr8 hB
 have hTW:=hT8.below hB
 refine rnT ?_
 refine CW.pk [4,11,13,14,17,19,20,21,90] rfl ?_
 refine CW.condP rfl (fun hlt=> ?_) (fun hge=> ?_)
 ·obtain ⟨e,he,hem⟩:=getx (l:=restS l S) (k:=i) (by omega)
  obtain ⟨t,htt,htm⟩:=getx (l:=ts) (k:=i) (by omega)
  have hzip:((restS l S).zip ts)[i]?=some (e,t):=List.getElem?_zip_eq_some.2 ⟨he,htt⟩
  obtain ⟨td,rfl⟩:=hTW.addr (by omega)
  obtain ⟨ra,rfl⟩:=hrW.addr (by omega)
  have hget:=hTW.getI htt
  obtain ⟨nv,hcells,i1,i2,i3,hnd⟩:=SE.get hrW he
  have hI:=hT.allI t htm
  have n1:=any_next hzip (thereB c)
  have n2:=any_next hzip (byB c)
  refine rnT ?_
  refine CW.draw mixed (by kernel_rfl) ?_
  refine rnD ?_
  refine DW.ld rfl (hcells 0 _ rfl) ?_
  refine rnD ?_
  refine DW.ld rfl (hCW.fld (j:=2) rfl) ?_
  refine rnD ?_
  refine DW.fi [4,11,13,14,17,19,20,21,101] rfl fun w9 d9=> ?_
  refine KW.then_ ?_
  have bW9:=hB.step d9
  refine CW.condP rfl (fun hoff=> ?_) (fun hnot=> ?_)
  ·have hget9:=(hTW.below d9).getI htt
   have hC9:=hCW.next d9
   refine CW.seq ?_
   refine CW.draw mixed (by kernel_rfl) ?_
   refine rnD ?_
   refine DW.ld rfl hget9 ?_
   refine rnD ?_
   refine DW.ld rfl (hC9.fld (j:=4) rfl) ?_
   refine rnD ?_
   refine DW.ld rfl hget9 ?_
   refine rnD ?_
   refine DW.ld rfl (hC9.fld (j:=5) rfl) ?_
   refine rnD ?_
   refine DW.fi [4,11,13,14,17,19,20,21] rfl fun w10 d10=> ?_
   refine KW.then_ ?_
   refine CW.draw mixed (by kernel_rfl) ?_
   refine rnD ?_
   have hget10:=((hTW.below d9).below d10).getI htt
   have hC10:=hC9.next d10
   refine DW.ld rfl hget10 ?_
   refine rnD ?_
   refine DW.ld rfl (hC10.fld (j:=5) rfl) ?_
   refine rnD ?_
   refine DW.fi [4,11,13,14,17,19,20,21] rfl fun w11 d11=> ?_
   refine rnT ?_
   refine KW.rd (i+1) ⟨by omega,bW9.step (d10.step d11)⟩ (hp:= ?_)
   rw [n1,n2,show thereB c (e,t)=(decide (c.acc≤t)&&decide (t≤c.due)) by simp [thereB,hoff],show byB c (e,t)=decide (t≤c.due) by simp [byB,hoff]]
   rfl
  ·refine rnT ?_
   refine KW.rd (i+1) ⟨by omega,bW9⟩ (hp:= ?_)
   rw [n1,n2,show thereB c (e,t)=false by simp [thereB,hnot],show byB c (e,t)=false by simp [byB,hnot],Bool.or_false,Bool.or_false]
   rfl
 ·have hie:i=(restS l S).length:=by omega
  subst hie
  rw [List.take_of_length_le (by rw [List.length_zip]; omega)]
  have hZW:=hZ8.next hB
  refine rnT ?_
  refine TW.ld rfl (hZW.fld (j:=0) rfl) ?_
  refine rnT ?_
  refine TW.ld rfl (hZW.fld (j:=0) rfl) ?_
  refine rnT ?_
  refine rt1 rfl ⟨bW,?_⟩
  obtain ⟨m1,m2⟩:=truth_end (N:=N) (c:=c) (hR.fit.less (by omega)) (by omega) hwok hH
  cases hsa:decide ((rulS N d l (worldsS d l S.length) [] [] c).1=1)<;>cases hsb:decide ((rulS N d l (worldsS d l S.length) [] [] c).1=2)<;>simp_all
theorem exc_app {b:List Pp} (h:a.length+b.length≤100):dec (Exc ks (a++b) lab op t)=(dec (Exc ks a lab op t)||dec (Exc ks b lab op t)):=by
 have e:Exc ks (a++b) lab op t↔Exc ks a lab op t∨Exc ks b lab op t:=by
  constructor
  ·rintro ⟨_,p,hp,hf⟩
   rcases List.mem_append.1 hp with hp|hp
   ·exact .inl ⟨by omega,p,hp,hf⟩
   ·exact .inr ⟨by omega,p,hp,hf⟩
  ·rintro (⟨_,p,hp,hf⟩|⟨_,p,hp,hf⟩)
   ·exact ⟨by rw [List.length_append]; exact h,p,List.mem_append_left _ hp,hf⟩
   ·exact ⟨by rw [List.length_append]; exact h,p,List.mem_append_right _ hp,hf⟩
 by_cases h1:Exc ks a lab op t
 ·rw [dec_pos h1,dec_pos (e.2 (.inl h1))]
  rfl
 ·by_cases h2:Exc ks b lab op t
  ·rw [dec_neg h1,dec_pos h2,dec_pos (e.2 (.inr h2))]
   rfl
  ·rw [dec_neg h1,dec_neg h2,dec_neg fun h=>(e.1 h).elim h1 h2]
   rfl
noncomputable def vainS (ks:List Int) (a:List Pp) (lab:ByteArray) (op t:Int):List Pp:=a.filter fun p=> !dec (Frees ks lab op t p)
theorem vain_le:(vainS ks a lab op t).length≤a.length:=List.length_filter_le ..
theorem vain_exc:dec (Exc ks (vainS ks a lab op t) lab op t)=false:=dec_neg fun ⟨_,p,hp,hf⟩=>by
 have:=(List.mem_filter.1 hp).2
 rw [dec_pos hf] at this
 cases this
theorem exc_vain (h:a.length≤100):dec (Exc ks a lab op t)=decide ((vainS ks a lab op t).length<a.length):=by
 have h1: ∀p∈a,Frees ks lab op t p→(vainS ks a lab op t).length<a.length:=fun p hp hf=>by
  rcases Nat.lt_or_ge (vainS ks a lab op t).length a.length with hl|hl
  ·exact hl
  ·have:=List.filter_eq_self.1 ((List.filter_sublist (p:=fun p=> !dec (Frees ks lab op t p)) (l:=a)).eq_of_length (Nat.le_antisymm vain_le hl)) p hp
   rw [dec_pos hf] at this
   cases this
 by_cases he:Exc ks a lab op t
 ·obtain ⟨_,p,hp,hf⟩:=id he
  rw [dec_pos he,decide_eq_true (h1 p hp hf)]
 ·have:vainS ks a lab op t=a:=List.filter_eq_self.2 fun p hp=>by
   rw [dec_neg fun hf=>he ⟨h,p,hp,hf⟩]
   rfl
  rw [dec_neg he,this,decide_eq_false (Nat.lt_irrefl _)]
theorem ppT_one:Ty.One ppT:=fun _ _ _ _ ⟨v,h,_,_,A,cap,hv,_⟩ u hu=>by
 rw [h] at hu
 simp [ppV,dcV] at hu
 rcases hu with rfl|rfl|rfl|rfl|rfl|rfl|rfl|rfl|rfl|rfl|rfl<;>first|rfl|(rw [hv]; rfl)
theorem flat_step {w':World} {A:Option Addr} {vs:List Value} (hb:Below w.heap.size w w') (h: ∀j u,vs[j]?=some u→ ∃ad,A=some ad∧w.cell? (ad.add j)=some u): ∀j u,vs[j]?=some u→ ∃ad,A=some ad∧w'.cell? (ad.add j)=some u:=fun j u hj=>by
 obtain ⟨ad,h1,h2⟩:=h j u hj
 exact ⟨ad,h1,(hb.cell (block_lt_of_cell h2)).trans h2⟩
theorem pps_join {w0:World} {v:Value} {l qs:List Pp} {ps1 ps2:List (List Value×Pp)} {n m:Nat} (hb:Below w0.heap.size w0 w) (r1: ∀p∈ps1,ppT.rep (fun k=>k<w0.heap.size) w0 p.1 p.2) (p1:ps1.map (·.2)=l) (r2: ∀p∈ps2,ppT.rep (fun k=>k<w0.heap.size) w0 p.1 p.2) (p2:ps2.map (·.2)=qs) (hn:n=l.length) (hm:m=qs.length)
 (h:OwnS w 67 11 v (0+n+m) ([]++ps1.flatMap (·.1)++ps2.flatMap (·.1))) (hs:n+m≤9223372036854775807):SPp w v (l++qs):=by
 have e1:ps1.length=n:=by rw [hn,←p1]; simp
 have e2:ps2.length=m:=by rw [hm,←p2]; simp
 have h1:=OwnS.toSLn (T:=ppT) (by decide) (n:=0+n+m) (ps:=ps1++ps2) hb (fun p hp=>(List.mem_append.1 hp).elim (r1 p) (r2 p)) (by rw [List.flatMap_append]; exact h) (by simp; omega) (by simp; omega)
 rw [List.map_append,p1,p2] at h1
 exact h1.now ppT_now
theorem papers_law {kv av bv:Value} {b:List Pp} {F:Nat→Prop} (hk:SL intT F w kv ks) (ha:SPp w av a) (hb:SPp w bv b) (ht:Tabs w) :
  Gives Tryz.prog 7 #[kv,av,bv,.string lab,.int .i64 op,.int .i64 t] w fun u w'=>Below w.heap.size w w'∧u= .bool true:=by
 obtain ⟨K,kcap,rfl,_⟩:=hk.form
 obtain ⟨A,acap,rfl,_⟩:=ha.form
 obtain ⟨B,bcap,rfl,_⟩:=hb.form
 refine gv (f:=7) ?_
 refine rnT ?_
 refine TW.cl rfl (head_c ht) ?_
 rintro y w1 ⟨b1,rfl⟩
 refine rnT ?_
 refine TW.cl rfl (rfew35_c (hk.below b1) (spp_step ha b1)) ?_
 rintro y w2 ⟨c2,rfl⟩
 have b2:=b1.step c2
 refine rnT ?_
 refine TW.callF (cap:= []) rfl rfl en12 rfl ct (Args.cons rfl id (Args.cons rfl id Args.nil)) (fun _=>rfew35_c (hk.below b2) (spp_step hb b2)) ?_
 rintro w3 c3
 refine rnT ?_
 have b3:=b2.step c3
 refine CW.cond rfl (fun hbad=> ?_) (fun hgood=> ?_)
 ·refine rnT ?_
  refine rt1 rfl ⟨b3,rfl⟩
 have hg:FewK ks a∧FewK ks b:=by
  cases h1:dec (FewK ks a) with
  | false=>rw [h1] at hgood; simp at hgood
  | true =>
   cases h2:dec (FewK ks b) with
   | false=>rw [h1,h2] at hgood; simp at hgood
   | true=>exact ⟨dec_iff.1 h1,dec_iff.1 h2⟩
 obtain ⟨hFa,hFb⟩:=hg
 have na:=hFa.p
 have nb:=hFb.p
 refine rnT ?_
 refine TW.cl rfl (excused_c (lab:=lab) (op:=op) (t:=t) (hk.below b3) (spp_step ha b3)) ?_
 rintro y w4 ⟨c4,rfl⟩
 have b4:=b3.step c4
 refine rnT ?_
 refine TW.cl rfl (excused_c (lab:=lab) (op:=op) (t:=t) (hk.below b4) (spp_step hb b4)) ?_
 rintro y w5 ⟨c5,rfl⟩
 have b5:=b4.step c5
 have ha5:=spp_step ha b5
 have hb5:=spp_step hb b5
 have hk5:=hk.below b5
 refine rnT ?_
 refine CW.pk [0,1,2,3,4,5,12,13,14,15,16,17] rfl ?_
 refine CW.lp [0,1,2,3,4,5,13,14,15] (fun x:Nat×Value×List (List Value×Pp)=> [(16,none,x.2.1),(17,none,.int .i64 (x.1:Int))])
  (fun x W=>x.1≤a.length∧Below w5.heap.size w5 W∧RowL ppT W 67 w5.heap.size x.2.1 x.2.2∧x.2.2.map (·.2)=vainS ks (a.take x.1) lab op t) (fun x=>a.length-x.1) (0,.slice none 0 0,[]) ⟨Nat.zero_le _,Below.refl _ _,RowL.nil _ _ _ _,rfl⟩ ?_
 rintro ⟨i,rv,ps⟩ W ⟨hi,hB,hRw,hmap⟩
 dsimp only at hi hB hRw hmap
 have hpl:ps.length≤i:=by
  have:=congrArg List.length hmap
  have h2:=vain_le (ks:=ks) (a:=a.take i) (lab:=lab) (op:=op) (t:=t)
  simp at this h2
  omega
 refine rnT ?_
 refine CW.condP rfl (fun hgo=> ?_) (fun hend=> ?_)
 ·dsimp only at hgo
  obtain ⟨p,hp,hpm⟩:=getx (l:=a) (k:=i) (by omega)
  obtain ⟨ad,rfl⟩:=ha5.addr (by omega)
  obtain ⟨pv,hcells0,hd,hix,hpath0⟩:=SPp.get ha5 hp
  obtain ⟨C,ncap,rfl,_⟩:=hpath0.form
  have hc: ∀W',Below W.heap.size W W'→ ∀j u,(ppV p (.slice C p.path.length ncap))[j]?=some u→W'.cell? ((ad.add ((i:Int).toNat*11)).add j)=some u:=fun W' hW j u hj=>((hB.step hW).cell (block_lt_of_cell (hcells0 j u hj))).trans (hcells0 j u hj)
  have hcW:=hc W (Below.refl _ _)
  have hnext:vainS ks (a.take (i+1)) lab op t=vainS ks (a.take i) lab op t++if dec (Frees ks lab op t p) then [] else [p]:=by
   unfold vainS
   rw [List.take_add_one,hp,List.filter_append]
   cases hq:dec (Frees ks lab op t p)<;>simp [List.filter,hq]
  refine rnT ?_
  refine TW.ld rfl (hcW 8 _ rfl) ?_
  refine rnT ?_
  refine TW.ld rfl (hcW 1 _ rfl) ?_
  refine rnT ?_
  refine TW.ld rfl (hcW 2 _ rfl) ?_
  refine rnT ?_
  refine TW.ld rfl (hcW 3 _ rfl) ?_
  refine rnT ?_
  refine TW.ldS rfl (fun j u hj=>hcW j u hj) ?_
  refine TW.callF (cap:= []) rfl rfl en25 rfl ct (Args.cons rfl id (Args.cons rfl id Args.nil)) (fun _=>verify_c (hk5.below hB) (hpath0.below hB) hd hix) ?_
  rintro w6 c6
  refine rnT ?_
  refine CW.pk [0,1,2,3,4,5,13,14,15,16,17,95] rfl ?_
  have hB6:=hB.step c6
  have hR6:=hRw.step c6
  rw [beqL]
  refine CW.cond rfl (fun hbad2=> ?_) (fun hfree=> ?_)
  ·have hnf: ¬Frees ks lab op t p:=fun hf=>by
    obtain ⟨f1,f2,f3,f4,f5⟩:=hf
    simp [f1,f2,f3,Int.not_lt.2 f4,f5] at hbad2
   refine rnT ?_
   refine TW.ldS rfl (fun j u hj=>hc w6 c6 j u hj) ?_
   refine TW.buildSlice 67 _ rfl rfl rfl eo33 (Args.cons rfl ct Args.nil) rfl rfl rfl rfl rfl ?_
   rintro g7 w7 f7
   have hR7:=hR6.step f7.below
   have hB7:=hB6.step f7.below
   refine TW.append (ppV p (.slice C p.path.length ncap)) rfl rfl go33 rfl hR7.1 rfl rfl (fun j v hj=>⟨⟨g7,0,none⟩,rfl,f7.blk.fld hj⟩) (fun v hv=>by simp [ppV,dcV] at hv; rcases hv with rfl|rfl|rfl|rfl|rfl|rfl|rfl|rfl|rfl|rfl|rfl<;>rfl) (by omega) (by omega) ?_
   rintro rv' w8 hO8 hg8 hn8
   refine rnT ?_
   have hpath:SL intT (RowF w7 rv) w7 (.slice C p.path.length ncap) p.path:=(hpath0.below hB7).wider fun q hq=>⟨by have:=hB7.size; omega,fun e=>by have:=hRw.2.2 q e; omega⟩
   have hR8:RowL ppT w8 67 w5.heap.size rv' (ps++ [(ppV p (.slice C p.path.length ncap),p)]):=hR7.app hO8 hg8 hn8 ⟨_,rfl,hd,hix,hpath⟩ hB7.size
   refine KW.rd (i+1,rv',ps++ [(ppV p (.slice C p.path.length ncap),p)]) ⟨by show i+1≤a.length; omega,hB7.grown hg8 hB7.size hRw.2.2,hR8,?_⟩
   show List.map Prod.snd (ps++ [_])=vainS ks (a.take (i+1)) lab op t
   rw [hnext,List.map_append,hmap,dec_neg hnf]
   rfl
  ·have hf:Frees ks lab op t p:=by
    simp at hfree
    obtain ⟨⟨⟨⟨q1,q2⟩,q3⟩,q4⟩,q5⟩:=hfree
    exact ⟨q1,q2,q3,by omega,q5⟩
   refine rnT ?_
   refine KW.rd (i+1,rv,ps) ⟨by show i+1≤a.length; omega,hB6,hR6,?_⟩
   show List.map Prod.snd ps=vainS ks (a.take (i+1)) lab op t
   rw [hnext,hmap,dec_pos hf]
   simp
 have hie:i=a.length:=by
  dsimp only at hend
  omega
 subst hie
 have hvain:=hRw.sl (by decide)
 rw [hmap,List.take_length] at hvain
 have hvl:ps.length=(vainS ks a lab op t).length:=by
  have:=congrArg List.length hmap
  rw [List.take_length] at this
  simpa using this
 obtain ⟨RA,rcap,hrv⟩:=hRw.form
 subst hrv
 have bW:=b5.step hB
 have haW:=spp_step ha bW
 have hbW:=spp_step hb bW
 obtain ⟨ps1,p1,r1,n1,a1⟩:=haW.flat (T:=ppT) (by decide)
 obtain ⟨ps2,p2,r2,n2,a2⟩:=hbW.flat (T:=ppT) (by decide)
 refine rnT ?_
 refine TW.buildSlice0 67 rfl rfl eo33 ?_
 rintro g6 w6 f6
 refine rnT ?_
 refine TW.append (ps1.flatMap (·.1)) rfl rfl go33 rfl (OwnS.of_blk (sz:=11) (n:=0) f6.blk rfl (by omega)) rfl n1 (flat_step f6.below a1) (one_flat ppT_one r1) (by omega) (by omega) ?_
 rintro o7 w7 hO7 hg7 hn7
 have h6:=f6.at_
 have d7:Below W.heap.size W w7:=f6.below.grown hg7 f6.below.size (fun k hk=>by simp [Value.ownBlock] at hk; omega)
 have q7:=new_own hn7 (n0:=W.heap.size) (fun k hk=>by simp [Value.ownBlock] at hk; omega) f6.below.size
 refine rnT ?_
 refine TW.append (ps2.flatMap (·.1)) rfl rfl go33 rfl hO7 rfl n2 (flat_step d7 a2) (one_flat ppT_one r2) (by omega) (by omega) ?_
 rintro o8 w8 hO8 hg8 hn8
 have d8:Below W.heap.size W w8:=d7.grown hg8 d7.size q7
 have hboth:SPp w8 o8 (a++b):=pps_join d8 r1 p1 r2 p2 rfl rfl hO8 (by omega)
 refine rnT ?_
 refine TW.buildSlice0 67 rfl rfl eo33 ?_
 rintro g9 w9 f9
 have d9:=d8.step f9.below
 refine rnT ?_
 refine TW.append (ps2.flatMap (·.1)) rfl rfl go33 rfl (OwnS.of_blk (sz:=11) (n:=0) f9.blk rfl (by omega)) rfl n2 (flat_step d9 a2) (one_flat ppT_one r2) (by omega) (by omega) ?_
 rintro o10 w10 hO10 hg10 hn10
 have h9:=f9.at_
 have e10:Below w8.heap.size w8 w10:=f9.below.grown hg10 f9.below.size (fun k hk=>by simp [Value.ownBlock] at hk; omega)
 have q10:=new_own hn10 (n0:=w8.heap.size) (fun k hk=>by simp [Value.ownBlock] at hk; omega) f9.below.size
 have d10:=d8.step e10
 refine rnT ?_
 refine TW.append (ps1.flatMap (·.1)) rfl rfl go33 rfl hO10 rfl n1 (flat_step d10 a1) (one_flat ppT_one r1) (by omega) (by omega) ?_
 rintro o11 w11 hO11 hg11 hn11
 have e11:Below w8.heap.size w8 w11:=e10.grown hg11 e10.size q10
 have d11:=d8.step e11
 have hback:SPp w11 o11 (b++a):=pps_join d11 r2 p2 r1 p1 rfl rfl hO11 (by omega)
 refine rnT ?_
 have bX:=bW.step d11
 refine TW.callF (cap:= []) rfl rfl en18 rfl ct (Args.cons rfl id (Args.cons rfl id (Args.cons rfl id (Args.cons rfl id (Args.cons rfl id Args.nil))))) (fun _=>excused_c (lab:=lab) (op:=op) (t:=t) (hk.below bX) (spp_step hboth e11)) ?_
 rintro w12 c12
 refine rnT ?_
 have b12:=bX.step c12
 rw [exc_app (by omega)]
 refine TW.callF (cap:= []) rfl rfl en18 rfl ct (Args.cons rfl id (Args.cons rfl id (Args.cons rfl id (Args.cons rfl id (Args.cons rfl id Args.nil))))) (fun _=>excused_c (lab:=lab) (op:=op) (t:=t) (hk.below b12) (spp_step hback c12)) ?_
 rintro w13 c13
 refine rnT ?_
 have b13:=b12.step c13
 rw [exc_app (by omega)]
 refine TW.callF (cap:= []) rfl rfl en18 rfl ct (Args.cons rfl id (Args.cons rfl id (Args.cons rfl id (Args.cons rfl id (Args.cons rfl id Args.nil))))) (fun _=>excused_c (lab:=lab) (op:=op) (t:=t) (hk.below b13) (spp_step hvain (d11.step (c12.step c13)))) ?_
 rintro w14 c14
 refine rnT ?_
 have b14:=b13.step c14
 rw [vain_exc,exc_vain (a:=a) (by omega)]
 refine rt1 rfl ⟨b14,?_⟩
 rw [hvl]
 by_cases hy:(vainS ks a lab op t).length<a.length
 ·cases dec (Exc ks b lab op t)<;>simp [hy]
 ·cases dec (Exc ks b lab op t)<;>simp [hy]<;>omega
end Go.Proofs.YtobaafdejnimkaaGreatDoor
