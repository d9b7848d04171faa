/- Texts of this claim,joined. -/
import Derived.Test.YtobaafdejnimkaaGreatDoorQS
set_option linter.unusedSimpArgs false
set_option linter.unusedVariables false
set_option maxRecDepth 100000
set_option maxHeartbeats 4000000
namespace Go.Proofs.YtobaafdejnimkaaGreatDoor
open Go.PF Go.RowKit Go.Ord
attribute [local irreducible] TW CW KW DW
variable {d:Dist} {l:List Ev}
theorem werr_wok {m:Int} (h1:worldsE d l m≠1) (h2:worldsE d l m≠2):WOK d l m:=by
 unfold worldsE at h1 h2
 split at h1
 ·rename_i q
  rw [if_pos q] at h2
  split at h1
  ·rename_i q2
   exact ⟨dec_iff.1 q.1,q.2.1,q.2.2,q2⟩
  ·rename_i q2
   rw [if_neg q2] at h2
   exact absurd rfl h2
 ·exact absurd rfl h1
def thereB (c:Cl) (x:ET):Bool:=decide (x.1.office=c.to)&&(decide (c.acc≤x.2)&&decide (x.2≤c.due))
def byB (c:Cl) (x:ET):Bool:=decide (x.1.office=c.to)&&decide (x.2≤c.due)
theorem any_next {α:Type} {l:List α} {i:Nat} {x:α} (h:l[i]?=some x) (p:α→Bool):(l.take (i+1)).any p=((l.take i).any p||p x):=by
 rw [List.take_add_one,h,List.any_append]
 simp
theorem truth_end {N:Net} {S ts:List Int} {c:Cl} (hf:FitW d l 0) (hn:(worldsS d l S.length).length≤400) (hW:WOK d l S.length) (hH:HoldsI d (restS l S) ts) :
  ((rulS N d l (worldsS d l S.length) [] [] c).1=1→((restS l S).zip ts).any (thereB c)=false)∧((rulS N d l (worldsS d l S.length) [] [] c).1=2→((restS l S).zip ts).any (byB c)=true):=by
 refine ⟨fun h=> ?_,fun h=> ?_⟩
 ·rcases rul_st.1 h with ⟨_,hr⟩|⟨hx,_⟩|⟨hx,_⟩
  ·refine Bool.eq_false_iff.2 fun hy=> ?_
   obtain ⟨x,hx,hb⟩:=List.any_eq_true.1 hy
   simp only [thereB,Bool.and_eq_true,decide_eq_true_eq] at hb
   have:=truth_reach hf hn hW (m:=(restS l S).zip ts) (by rw [List.map_fst_zip]; exact Nat.le_of_eq hH.len.symm) hH.n hx hb.2.1 hb.2.2
   rw [hb.1,hr] at this
   cases this
  ·exact absurd hx (by decide)
  ·exact absurd hx (by decide)
 ·rcases rul_st.1 h with ⟨hx,_⟩|⟨_,_,hs⟩|⟨hx,_⟩
  ·exact absurd hx (by decide)
  ·obtain ⟨e,he,ho,hh⟩:=truth_seen hW hH.poss hs
   obtain ⟨i,hi⟩:=List.mem_iff_getElem?.1 he
   have hil:i<(restS l S).length:=(List.getElem?_eq_some_iff.1 hi).1
   obtain ⟨t,ht,_⟩:=getx (l:=ts) (k:=i) (by rw [hH.len]; exact hil)
   have hw:=hH.win i e t hi ht
   refine List.any_eq_true.2 ⟨(e,t),List.mem_of_getElem? (List.getElem?_zip_eq_some.2 ⟨hi,ht⟩),?_⟩
   have h4:=hw.2.2.2
   simp only [byB,Bool.and_eq_true,decide_eq_true_eq]
   exact ⟨ho,by omega⟩
  ·exact absurd hx (by decide)
theorem truth_law {w:World} {v:NV} {N:Net} {dv lv sv tv:Value} {S ts:List Int} {c:Cl} {F G:Nat→Prop} (hN:NetAt w v N) (hd:SD w dv d) (hl:SE w lv l) (hS:SL intT F w sv S) (hT:SL intT G w tv ts) (hcI:ClI c) (ht:Tabs w) :
  Gives Tryz.prog 9 #[.agg v.cells.toArray,dv,lv,sv,tv,.agg (clV c).toArray] w fun u w'=>Below w.heap.size w w'∧u= .bool true:=by
 obtain ⟨X,xcap,rfl,_⟩:=hS.form
 obtain ⟨C,ccap,rfl,_⟩:=hT.form
 refine gv (f:=9) ?_
 refine rnT ?_
 refine TW.box rfl rfl rfl rfl ?_
 rintro g6 w1 f1
 refine TW.box rfl rfl rfl rfl ?_
 rintro g11 w1' f1'
 refine rnT ?_
 have b1:=f1.below.step f1'.below
 have hB1:=f1.blk.next f1'.below
 have hC1:=f1'.blk
 refine TW.cl rfl (head_c (ht.below b1)) ?_
 rintro y w2 ⟨c2,rfl⟩
 have b2:=b1.step c2
 have hB2:=hB1.next c2
 have hC2:=hC1.next c2
 refine rnT ?_
 refine TW.ldS rfl (fun _ _ hv=>hB2.fld hv) ?_
 refine rnT ?_
 refine TW.ldS rfl (fun _ _ hv=>hC2.fld hv) ?_
 refine TW.cl rfl (right_c (c:=c) (ws:= []) (net_step hN b2) (sd_step hd b2) (se_step hl b2) (SL.nil _ _ _)) ?_
 rintro y w3 ⟨c3,rfl⟩
 have b3:=b2.step c3
 have hB3:=hB2.next c3
 have hC3:=hC2.next c3
 refine rnT ?_
 refine CW.cond rfl (fun hbad=> ?_) (fun hgood=> ?_)
 ·refine rnT ?_
  refine rt1 rfl ⟨b3,rfl⟩
 have hR:RightP N d l [] c:=dec_iff.1 (by cases hq:dec (RightP N d l [] c)<;>simp_all)
 have hS3:S.length≤3:=by
  rw [dec_pos hR] at hgood
  simp at hgood
  omega
 have hne:=hR.light.needs
 have hne': ∀e∈l,e.needs.length≤1000:=fun e he=>by have:=hR.light.few.nd e he; omega
 have hln:=hR.light.len
 refine rnT ?_
 refine TW.cl rfl (rest_c (se_step hl b3) (hS.below b3) (by omega) hne) ?_
 rintro rv w4 ⟨c4,hr4⟩
 have b4:=b3.step c4
 obtain ⟨R,rcap,rfl,_⟩:=hr4.form
 have hrl:=(restS_sub l S).length_le
 refine rnT ?_
 refine TW.cl rfl (worlds_c (sd_step hd b4) (se_step hl b4) hne') ?_
 rintro y w5 ⟨c5,wv,rfl,hw5⟩
 have b5:=b4.step c5
 obtain ⟨Y,ycap,rfl,_⟩:=hw5.form
 have hr5:=se_step hr4 c5
 refine rnT ?_
 refine TW.cl rfl (oholds_c (sd_step hd b5) hr5 (hT.below b5)) ?_
 rintro y w6 ⟨c6,rfl⟩
 have b6:=b5.step c6
 have hr6:=se_step hr5 c6
 have hw6:=sd_step hw5 c6
 have c36:=c4.step (c5.step c6)
 have hB6:=hB3.next c36
 have hC6:=hC3.next c36
 refine rnT ?_
 refine CW.pk [0,1,2,3,4,5,6,11,12,13,14,15,16,63] rfl ?_
 refine CW.cond rfl (fun hno=> ?_) (fun hyes=> ?_)
 ·refine rnT ?_
  refine rt1 rfl ⟨b6,rfl⟩
 have hall:HoldsI d (restS l S) ts∧worldsE d l S.length≠2∧worldsE d l S.length≠1∧(worldsS d l S.length).length≤60:=by
  cases hq:dec (HoldsI d (restS l S) ts) with
  | false=>rw [hq] at hyes; simp at hyes
  | true =>
   rw [hq] at hyes
   simp at hyes
   exact ⟨dec_iff.1 hq,hyes.1.1,hyes.1.2,by omega⟩
 obtain ⟨hH,he2,he1,hfew⟩:=hall
 have hwok:=werr_wok he1 he2
 obtain ⟨x0,hx0,_⟩:=hwok.has (Int.le_refl _) hH.poss
 have hwne:worldsS d l S.length≠ []:=List.ne_nil_of_mem hx0
 have hdec:DecOK N d l (worldsS d l S.length).length c:=⟨hR.sound,hR.fit.less (by omega),hR.same,hR.claim⟩
 rw [hwok.ok hx0]
 have hlen:=hH.len
 refine rnT ?_
 refine TW.ldS rfl (fun _ _ hv=>hB6.fld hv) ?_
 refine rnT ?_
 refine TW.ldS rfl (fun _ _ hv=>hC6.fld hv) ?_
 refine TW.cl rfl (decide_c (ks:= []) (ps:= []) (F:=fun _=>True) (ht.below b6) (net_step hN b6) (sd_step hd b6) (se_step hl b6) hw6 (SL.nil _ _ _) (SL.nil _ _ _) hne hcI) ?_
 rintro y w7 ⟨c7,rfl⟩
 rw [dec_of hdec (by simp) hwne]
 have b7:=b6.step c7
 refine rnT ?_
 refine TW.newVar rfl zc42 rfl sz42 rfl rfl ?_
 rintro g17 w8 f8
 refine rnT ?_
 refine CW.pk [0,1,2,3,4,5,6,11,12,13,14,15,16,17,18,86] rfl ?_
 have c68:=c7.step f8.below
 have b8:=b6.step c68
 have hr8:=se_step hr6 c68
 have hC8:=hC6.next c68
 have hZ8:=f8.blk
 have hT8:=hT.below b8
 refine CW.condP rfl (fun herr=> ?_) (fun hok=> ?_)
 ·exfalso
  revert herr
  simp
  omega
 refine rnT ?_
 refine CW.lp [4,11,13,14,17] (fun i:Nat=> [(19,none,.bool ((((restS l S).zip ts).take i).any (thereB c))),(20,none,.bool ((((restS l S).zip ts).take i).any (byB c))),(21,none,.int .i64 (i:Int))])
  (fun i W=>i≤(restS l S).length∧Below w8.heap.size w8 W) (fun i=>(restS l S).length-i) 0 ⟨Nat.zero_le _,Below.refl _ _⟩ ?_
 rintro i W ⟨hi,hB⟩
 have bW:=b8.step hB
 have hCW:=hC8.next hB
 have hrW:=se_step hr8 hB
 have hTW:=hT8.below hB
 refine rnT ?_
 refine CW.pk [4,11,13,14,17,19,20,21,90] rfl ?_
 refine CW.condP rfl (fun hlt=> ?_) (fun hge=> ?_)
 ·obtain ⟨e,he,hem⟩:=getx (l:=restS l S) (k:=i) (by omega)
  obtain ⟨t,htt,htm⟩:=getx (l:=ts) (k:=i) (by omega)
  have hzip:((restS l S).zip ts)[i]?=some (e,t):=List.getElem?_zip_eq_some.2 ⟨he,htt⟩
  obtain ⟨td,rfl⟩:=hTW.addr (by omega)
  obtain ⟨ra,rfl⟩:=hrW.addr (by omega)
  have hget:=hTW.getI htt
  obtain ⟨nv,hcells,i1,i2,i3,hnd⟩:=SE.get hrW he
  have hI:=hT.allI t htm
  have n1:=any_next hzip (thereB c)
  have n2:=any_next hzip (byB c)
  refine rnT ?_
  refine CW.draw mixed (by kernel_rfl) ?_
  refine rnD ?_
  refine DW.ld rfl (hcells 0 _ rfl) ?_
  refine rnD ?_
  refine DW.ld rfl (hCW.fld (j:=2) rfl) ?_
  refine rnD ?_
  refine DW.fi [4,11,13,14,17,19,20,21,101] rfl fun w9 d9=> ?_
  refine KW.then_ ?_
  have bW9:=hB.step d9
  refine CW.condP rfl (fun hoff=> ?_) (fun hnot=> ?_)
  ·have hget9:=(hTW.below d9).getI htt
   have hC9:=hCW.next d9
   refine CW.seq ?_
   refine CW.draw mixed (by kernel_rfl) ?_
   refine rnD ?_
   refine DW.ld rfl hget9 ?_
   refine rnD ?_
   refine DW.ld rfl (hC9.fld (j:=4) rfl) ?_
   refine rnD ?_
   refine DW.ld rfl hget9 ?_
   refine rnD ?_
   refine DW.ld rfl (hC9.fld (j:=5) rfl) ?_
   refine rnD ?_
   refine DW.fi [4,11,13,14,17,19,20,21] rfl fun w10 d10=> ?_
   refine KW.then_ ?_
   refine CW.draw mixed (by kernel_rfl) ?_
   refine rnD ?_
   have hget10:=((hTW.below d9).below d10).getI htt
   have hC10:=hC9.next d10
   refine DW.ld rfl hget10 ?_
   refine rnD ?_
   refine DW.ld rfl (hC10.fld (j:=5) rfl) ?_
   refine rnD ?_
   refine DW.fi [4,11,13,14,17,19,20,21] rfl fun w11 d11=> ?_
   refine rnT ?_
   refine KW.rd (i+1) ⟨by omega,bW9.step (d10.step d11)⟩ (hp:= ?_)
   rw [n1,n2,show thereB c (e,t)=(decide (c.acc≤t)&&decide (t≤c.due)) by simp [thereB,hoff],show byB c (e,t)=decide (t≤c.due) by simp [byB,hoff]]
   rfl
  ·refine rnT ?_
   refine KW.rd (i+1) ⟨by omega,bW9⟩ (hp:= ?_)
   rw [n1,n2,show thereB c (e,t)=false by simp [thereB,hnot],show byB c (e,t)=false by simp [byB,hnot],Bool.or_false,Bool.or_false]
   rfl
 ·have hie:i=(restS l S).length:=by omega
  subst hie
  rw [List.take_of_length_le (by rw [List.length_zip]; omega)]
  have hZW:=hZ8.next hB
  refine rnT ?_
  refine TW.ld rfl (hZW.fld (j:=0) rfl) ?_
  refine rnT ?_
  refine TW.ld rfl (hZW.fld (j:=0) rfl) ?_
  refine rnT ?_
  refine rt1 rfl ⟨bW,?_⟩
  obtain ⟨m1,m2⟩:=truth_end (N:=N) (c:=c) (hR.fit.less (by omega)) (by omega) hwok hH
  cases hsa:decide ((rulS N d l (worldsS d l S.length) [] [] c).1=1)<;>cases hsb:decide ((rulS N d l (worldsS d l S.length) [] [] c).1=2)<;>simp_all
end Go.Proofs.YtobaafdejnimkaaGreatDoor
