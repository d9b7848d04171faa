/- Texts of this claim,joined. -/
import Derived.Test.YtobaafdejnimkaaGreatDoorQQ
set_option linter.unusedSimpArgs false
set_option linter.unusedVariables false
set_option maxRecDepth 100000
set_option maxHeartbeats 4000000
namespace Go.Proofs.YtobaafdejnimkaaGreatDoor
open Go.PF Go.RowKit Go.Ord
attribute [local irreducible] TW CW KW DW
variable {w:World} {gl cl:Nat} {x y:ByteArray} {ks:List Int} {F:Nat→Prop} {v:Value}
theorem dec_bool {N:Net} {d:Dist} {l:List Ev} {nw:Nat} {c:Cl} {n:Nat} (h:n=0↔SoundOK keys11 N):(decide ((n:Int)≠0)|| !dec (FitW d l nw)||decide ((d.length:Int)≠N.offs.length)|| !dec (ClOK N c))= !dec (DecOK N d l nw c):=by
 by_cases hq:DecOK N d l nw c
 ·rw [dec_pos hq,dec_pos hq.fit,dec_pos hq.claim]
  have h1:=h.2 hq.sound
  have h2:=hq.same
  simp
  omega
 ·rw [dec_neg hq]
  by_cases h1:SoundOK keys11 N
  ·by_cases h2:FitW d l nw
   ·by_cases h3:d.length=N.offs.length
    ·have h4: ¬ClOK N c:=fun h=>hq ⟨h1,h2,h3,h⟩
     rw [dec_neg h4]
     simp
    ·have:((d.length:Int)≠N.offs.length):=by omega
     rw [decide_eq_true this]
     simp
   ·rw [dec_neg h2]
    simp
  ·have:((n:Int)≠0):=fun e=>h1 (h.1 (by omega))
   rw [decide_eq_true this]
   simp
theorem decide_c {v:NV} {N:Net} {dv lv wv kv psv:Value} {d:Dist} {l:List Ev} {ws:List (List Int)} {ps:List Pp} {c:Cl} (ht:Tabs w) (hN:NetAt w v N) (hd:SD w dv d) (hl:SE w lv l) (hS:SD w wv ws) (hk:SL intT F w kv ks) (hps:SPp w psv ps) (hne: ∀e∈l,e.needs.length≤1000000) (hcI:ClI c) :
  Gives Tryz.prog 13 #[.agg v.cells.toArray,dv,lv,wv,kv,psv,.agg (clV c).toArray] w fun u w'=>Below w.heap.size w w'∧u= .tuple #[.agg #[.int .i64 (decS N d l ws ks ps c).1.1,.int .i64 (decS N d l ws ks ps c).1.2],.int .i64 (decS N d l ws ks ps c).2]:=by
 have hform:=NetIn.form hN
 obtain ⟨vc,vn,vo,vf,vl,vk⟩:=v
 obtain ⟨⟨A1,c1,e1⟩,⟨A2,c2,e2⟩,⟨A3,c3,e3⟩,⟨A4,c4,e4⟩,⟨A5,c5,e5⟩,⟨A6,c6,e6⟩⟩:=id hform
 dsimp only at e1 e2 e3 e4 e5 e6
 subst e1 e2 e3 e4 e5 e6
 obtain ⟨DA,dc,rfl,_⟩:=hd.form
 obtain ⟨LA,lc,rfl,_⟩:=hl.form
 obtain ⟨WA,wc,rfl,_⟩:=hS.form
 obtain ⟨KA,kc,rfl,_⟩:=hk.form
 obtain ⟨PA,pc,rfl,_⟩:=hps.form
 have m1:=hd.len.2.2
 have m2:=hl.len.2.2
 have m3:=hS.len.2.2
 have m4:=hN.f.len.2.2
 have m5:=hps.len.2.2
 refine gv (f:=13) ?_
 refine rnT ?_
 refine TW.box rfl rfl rfl rfl ?_
 rintro g7 w1 f1
 refine TW.box rfl rfl rfl rfl ?_
 rintro g8 w2 f2
 refine TW.box rfl rfl rfl rfl ?_
 rintro g9 w3 f3
 refine TW.box rfl rfl rfl rfl ?_
 rintro g10 w4 f4
 refine TW.box rfl rfl rfl rfl ?_
 rintro g11 w5 f5
 refine TW.box rfl rfl rfl rfl ?_
 rintro g12 w6 f6
 refine TW.box rfl rfl rfl rfl ?_
 rintro g13 w7 f7
 refine TW.alloc rfl rfl zc42 ?_
 rintro g14 w8 f8
 refine rnT ?_
 have b78:=f8.below
 have b68:=f7.below.step b78
 have b58:=f6.below.step b68
 have b48:=f5.below.step b58
 have b38:=f4.below.step b48
 have b28:=f3.below.step b38
 have b18:=f2.below.step b28
 have b8:=f1.below.step b18
 have hB7:=f1.blk.next b18
 have hB8:=f2.blk.next b28
 have hB9:=f3.blk.next b38
 have hB10:=f4.blk.next b48
 have hB11:=f5.blk.next b58
 have hB12:=f6.blk.next b68
 have hB13:=f7.blk.next b78
 have hB14:=f8.blk
 have q14:=f8.at_
 have s7:w.heap.size≤w7.heap.size:=by
  have:=f1.below.size
  have:=f2.below.size
  have:=f3.below.size
  have:=f4.below.size
  have:=f5.below.size
  have:=f6.below.size
  have:=f7.below.size
  omega
 have q8:=f8.size
 have hN8:=net_step hN b8
 refine TW.ldS rfl (fun _ _ hv=>hB7.fld hv) ?_
 refine TW.cl rfl (check_c (v:=⟨.slice A1 N.cals.length c1,.slice A2 N.names.length c2,.slice A3 N.ops.length c3,.slice A4 N.offs.length c4,.slice A5 N.lines.length c5,.slice A6 N.classes.length c6⟩) (ht.below b8) hN8) ?_
 rintro y w9 ⟨d9,YA,n,yc,rfl,hsound⟩
 refine rnT ?_
 refine TW.ld rfl ((hB8.next d9).cell 0) ?_
 refine TW.ld rfl ((hB9.next d9).cell 0) ?_
 refine TW.ld rfl ((hB10.next d9).cell 0) ?_
 refine TW.callF (cap:= []) rfl rfl en37 rfl ct (Args.cons rfl id (Args.cons rfl id (Args.cons rfl id Args.nil))) (fun _=>vfitting_c (sd_step hd (b8.step d9)) (se_step hl (b8.step d9)) m3) ?_
 rintro w10 d10
 refine rnT ?_
 have d8:=d9.step d10
 refine TW.ld rfl ((hB8.next d8).cell 0) ?_
 refine rnT ?_
 refine TW.ld rfl ((hB7.next d8).fld (j:=3) rfl) ?_
 refine rnT ?_
 refine TW.ldS rfl (fun _ _ hv=>(hB7.next d8).fld hv) ?_
 refine TW.ldS rfl (fun _ _ hv=>(hB13.next d8).fld hv) ?_
 refine TW.callF (cap:= []) rfl rfl en38 rfl ct (Args.cons rfl id (Args.cons rfl id Args.nil)) (fun _=>vwell_c (v:=⟨.slice A1 N.cals.length c1,.slice A2 N.names.length c2,.slice A3 N.ops.length c3,.slice A4 N.offs.length c4,.slice A5 N.lines.length c5,.slice A6 N.classes.length c6⟩) (c:=c) (net_step hN8 d8)) ?_
 rintro w11 d11
 refine rnT ?_
 refine CW.pk [0,1,2,3,4,5,6,7,8,9,10,11,12,13,14,15,19] rfl ?_
 have e8:=d8.step d11
 have b11:=b8.step e8
 refine CW.cond rfl (fun hbad=> ?_) (fun hgood=> ?_)
 ·have hD:(!dec (DecOK N d l ws.length c))=true:=by rw [←dec_bool hsound]; exact hbad
  refine rnT ?_
  refine TW.build [] _ [.int .i64 0,.int .i64 0] rfl rfl rfl Args.nil (by kernel_rfl) ?_
  refine TW.storeBlkF rfl rfl rfl (hB14.next e8) sz42 rfl rfl rfl ?_
  rintro wr hBr hbutr hszr
  refine rnT ?_
  refine ret2CS Tryz.results13 Tryz.underlying42 (by exact sz42) rfl rfl hBr ⟨b11.grown hbutr b11.size (fun q hq=>by cases hq; omega),?_⟩
  rw [show decS N d l ws ks ps c=((0,0),1) by unfold decS; rw [if_pos (by simpa using hD)]]
 have hD:dec (DecOK N d l ws.length c)=true:=by
  have:(!dec (DecOK N d l ws.length c))=false:=by rw [←dec_bool hsound]; exact hgood
  simpa using this
 have hDc:DecOK N d l ws.length c:=dec_iff.1 hD
 refine rnT ?_
 refine TW.ld rfl ((hB12.next e8).cell 0) ?_
 refine rnT ?_
 refine CW.condP rfl (fun hmany=> ?_) (fun hfew=> ?_)
 ·refine rnT ?_
  refine TW.build [] _ [.int .i64 0,.int .i64 0] rfl rfl rfl Args.nil (by kernel_rfl) ?_
  refine TW.storeBlkF rfl rfl rfl (hB14.next e8) sz42 rfl rfl rfl ?_
  rintro wr hBr hbutr hszr
  refine rnT ?_
  refine ret2CS Tryz.results13 Tryz.underlying42 (by exact sz42) rfl rfl hBr ⟨b11.grown hbutr b11.size (fun q hq=>by cases hq; omega),?_⟩
  rw [show decS N d l ws ks ps c=((0,0),2) by unfold decS; rw [if_neg (by rw [hD]; simp),if_pos (by omega)]]
 refine rnT ?_
 refine TW.ld rfl ((hB10.next e8).cell 0) ?_
 refine rnT ?_
 refine CW.pk [0,1,2,3,4,5,6,7,8,9,10,11,12,13,14,15,51] rfl ?_
 refine CW.condP rfl (fun hno=> ?_) (fun hsome=> ?_)
 ·refine rnT ?_
  refine TW.build [] _ [.int .i64 0,.int .i64 0] rfl rfl rfl Args.nil (by kernel_rfl) ?_
  refine TW.storeBlkF rfl rfl rfl (hB14.next e8) sz42 rfl rfl rfl ?_
  rintro wr hBr hbutr hszr
  refine rnT ?_
  refine ret2CS Tryz.results13 Tryz.underlying42 (by exact sz42) rfl rfl hBr ⟨b11.grown hbutr b11.size (fun q hq=>by cases hq; omega),?_⟩
  rw [show decS N d l ws ks ps c=((0,0),280) by unfold decS; rw [if_neg (by rw [hD]; simp),if_neg (by omega),if_pos (List.eq_nil_of_length_eq_zero (by omega))]]
 have hds:decS N d l ws ks ps c=(rulS N d l ws ks ps c,0):=by
  unfold decS
  rw [if_neg (by rw [hD]; simp),if_neg (by omega),if_neg (fun e=>hsome (by rw [e]; rfl))]
 rw [hds]
 have hc:=hDc.claim
 have hlm:=hDc.fit.few
 have hKI:Knd.OK (.at c.to c.acc c.due):=⟨hcI.t,hcI.a,hcI.d⟩
 refine rnT ?_
 refine TW.makeFunc rfl rfl (Args.cons rfl ct (Args.cons rfl ct (Args.cons rfl ct (Args.cons rfl ct Args.nil)))) ?_
 refine TW.makeFunc rfl rfl (Args.cons rfl ct (Args.cons rfl ct (Args.cons rfl ct (Args.cons rfl ct (Args.cons rfl ct (Args.cons rfl ct (Args.cons rfl ct Args.nil))))))) ?_
 refine TW.build [0,1] _ [.func (.func 39) #[] #[.pointer (some ⟨g8,0,none⟩),.pointer (some ⟨g9,0,none⟩),.pointer (some ⟨g10,0,none⟩),.pointer (some ⟨g13,0,none⟩)],.func (.func 40) #[] #[.pointer (some ⟨g7,0,none⟩),.pointer (some ⟨g8,0,none⟩),.pointer (some ⟨g9,0,none⟩),.pointer (some ⟨g10,0,none⟩),.pointer (some ⟨g13,0,none⟩),.pointer (some ⟨g11,0,none⟩),.pointer (some ⟨g12,0,none⟩)]] rfl rfl rfl (Args.cons rfl ct (Args.cons rfl ct Args.nil)) (by kernel_rfl) ?_
 refine TW.makeFunc rfl rfl (Args.cons rfl ct (Args.cons rfl ct (Args.cons rfl ct Args.nil))) ?_
 refine TW.build [0,1] _ [.func (.func 41) #[] #[.pointer (some ⟨g9,0,none⟩),.pointer (some ⟨g10,0,none⟩),.pointer (some ⟨g13,0,none⟩)],.func (.func 42) #[] #[]] rfl rfl rfl (Args.cons rfl ct (Args.cons rfl ct Args.nil)) (by kernel_rfl) ?_
 refine TW.buildSlice 91 _ rfl rfl rfl eo92 (Args.cons rfl ct (Args.cons rfl ct Args.nil)) rfl rfl rfl rfl rfl ?_
 rintro g61 w12 f12
 refine rnT ?_
 have e12:=e8.step f12.below
 have b12:=b11.step f12.below
 have hRow:SL (rawT 2) (fun k=>k<w12.heap.size) w12 (.slice (some ⟨g61,0,none⟩) 2 2) [[.func (.func 39) #[] #[.pointer (some ⟨g8,0,none⟩),.pointer (some ⟨g9,0,none⟩),.pointer (some ⟨g10,0,none⟩),.pointer (some ⟨g13,0,none⟩)],.func (.func 40) #[] #[.pointer (some ⟨g7,0,none⟩),.pointer (some ⟨g8,0,none⟩),.pointer (some ⟨g9,0,none⟩),.pointer (some ⟨g10,0,none⟩),.pointer (some ⟨g13,0,none⟩),.pointer (some ⟨g11,0,none⟩),.pointer (some ⟨g12,0,none⟩)]],[.func (.func 41) #[] #[.pointer (some ⟨g9,0,none⟩),.pointer (some ⟨g10,0,none⟩),.pointer (some ⟨g13,0,none⟩)],.func (.func 42) #[] #[]]]:=raw_lit (by decide) _ f12.blk rfl (by simp) (by simp)
 refine CW.lp [14,62,63] (fun i:Nat=> [(64,none,.int .i64 (i:Int))])
  (fun i W=>i≤2∧Below w12.heap.size w12 W∧(1≤i→reachS d l ws c.to c.acc c.due=true)∧(2≤i→seenS l ws c.to c.due=false)) (fun i=>2-i) 0 ⟨by omega,Below.refl _ _,fun h=>by omega,fun h=>by omega⟩ ?_
 rintro i W ⟨hi,hB,hr1,hr2⟩
 refine rnT ?_
 refine CW.pk [14,62,63,64,65] rfl ?_
 have eW:=e12.step hB
 have bW:=b12.step hB
 refine CW.condP rfl (fun hlt=> ?_) (fun hge=> ?_)
 ·have hRW:=hRow.below hB
  obtain rfl|rfl:i=0∨i=1:=by omega
  ·have hcx:=(raw_get hRW (i:=0) rfl).1
   refine rnT ?_
   refine TW.ldS rfl (fun j u hj=>hcx j u hj) ?_
   refine TW.newVar rfl zc91 rfl sz91 rfl rfl ?_
   rintro g18 w15 f15
   refine rnT ?_
   have eX:=eW.step f15.below
   have bX:=bW.step f15.below
   refine TW.ld rfl (f15.blk.fld (j:=0) rfl) ?_
   refine TW.call0 rfl rfl en39 rfl Args.nil (dec1_c (hB8.next eX) (hB9.next eX) (hB10.next eX) (hB13.next eX) (sd_step hd bX) (se_step hl bX) (sd_step hS bX) hne hKI) ?_
   rintro y w16 ⟨b16,rfl⟩
   have eY:=eX.step b16
   have bY:=bX.step b16
   refine rnT ?_
   refine CW.cond rfl (fun hyes=> ?_) (fun hnot=> ?_)
   ·have hre:reachS d l ws c.to c.acc c.due=false:=by simpa using hyes
    refine rnT ?_
    refine TW.ld rfl ((f15.blk.next b16).fld (j:=1) rfl) ?_
    refine TW.call0 rfl rfl en40 rfl Args.nil (dec2_c (hB7.next eY) (hB8.next eY) (hB9.next eY) (hB10.next eY) (hB13.next eY) (hB11.next eY) (hB12.next eY) (ht.below bY) (net_step hN bY) (sd_step hd bY) (se_step hl bY) (sd_step hS bY) (hk.below bY) (spp_step hps bY) hne) ?_
    rintro y w17 ⟨b17,rfl⟩
    have bZ:=bY.step b17
    refine TW.storeBlkF rfl rfl rfl ((hB14.next eY).next b17) sz42 rfl rfl rfl ?_
    rintro wr hBr hbutr hszr
    refine rnT ?_
    refine ret2CS Tryz.results13 Tryz.underlying42 (by exact sz42) rfl rfl hBr ⟨bZ.grown hbutr bZ.size (fun q hq=>by cases hq; omega),?_⟩
    unfold rulS; rw [if_pos hre]
   ·have hre:reachS d l ws c.to c.acc c.due=true:=by simpa using hnot
    refine rnT ?_
    refine KW.rd 1 ⟨by omega,(hB.step f15.below).step b16,fun _=>hre,fun h=>by omega⟩
  ·have hcx:=(raw_get hRW (i:=1) rfl).1
   refine rnT ?_
   refine TW.ldS rfl (fun j u hj=>hcx j u hj) ?_
   refine TW.newVar rfl zc91 rfl sz91 rfl rfl ?_
   rintro g18 w15 f15
   refine rnT ?_
   have eX:=eW.step f15.below
   have bX:=bW.step f15.below
   have hre:=hr1 (by omega)
   refine TW.ld rfl (f15.blk.fld (j:=0) rfl) ?_
   refine TW.call0 rfl rfl en41 rfl Args.nil (dec3_c (hB9.next eX) (hB10.next eX) (hB13.next eX) (se_step hl bX) (sd_step hS bX) (by omega) hne) ?_
   rintro y w16 ⟨b16,rfl⟩
   have eY:=eX.step b16
   have bY:=bX.step b16
   refine rnT ?_
   refine CW.cond rfl (fun hyes=> ?_) (fun hnot=> ?_)
   ·refine rnT ?_
    refine TW.ld rfl ((f15.blk.next b16).fld (j:=1) rfl) ?_
    refine TW.call0 rfl rfl en42 rfl Args.nil (dec4_c) ?_
    rintro y w17 ⟨b17,rfl⟩
    have bZ:=bY.step b17
    refine TW.storeBlkF rfl rfl rfl ((hB14.next eY).next b17) sz42 rfl rfl rfl ?_
    rintro wr hBr hbutr hszr
    refine rnT ?_
    refine ret2CS Tryz.results13 Tryz.underlying42 (by exact sz42) rfl rfl hBr ⟨bZ.grown hbutr bZ.size (fun q hq=>by cases hq; omega),?_⟩
    unfold rulS; rw [if_neg (by rw [hre]; simp),if_pos hyes]
   ·refine rnT ?_
    refine KW.rd 2 ⟨by omega,(hB.step f15.below).step b16,fun _=>hre,fun _=>hnot⟩
 ·have hre:=hr1 (by omega)
  have hse:=hr2 (by omega)
  refine rnT ?_
  refine TW.build [0,1] _ [.int .i64 0,.int .i64 (-1)] rfl rfl rfl (Args.cons rfl ct (Args.cons rfl ct Args.nil)) (by kernel_rfl) ?_
  refine TW.storeBlkF rfl rfl rfl (hB14.next eW) sz42 rfl rfl rfl ?_
  rintro wr hBr hbutr hszr
  refine rnT ?_
  refine ret2CS Tryz.results13 Tryz.underlying42 (by exact sz42) rfl rfl hBr ⟨bW.grown hbutr bW.size (fun q hq=>by cases hq; omega),?_⟩
  unfold rulS; rw [if_neg (by rw [hre]; simp),if_neg (by rw [hse]; simp)]
theorem above2_c {a b:Int} (h:SL intT F w v [a,b]) (ha:I64 a) (hb:I64 b):Gives Tryz.prog 245 #[v] w fun u w'=>Below w.heap.size w w'∧OwnS w' 3 1 u 1 [.int .i64 (sumS [1,a,b])]∧ ∀g,u.ownBlock=some g→w.heap.size≤g:=by
 obtain ⟨A,cap,hv,_⟩:=h.form
 have hv:v= .slice A 2 cap:=hv
 subst hv
 obtain ⟨ad,rfl⟩:=h.addr (by simp)
 refine gv (f:=245) ?_
 refine rnT ?_
 refine CW.lp [0] (fun x:Nat×Value=> [(3,none,x.2),(4,none,.int .i64 (x.1:Int))])
  (fun x W=>(x.1=0∧W=w∧x.2= .slice none 0 0)∨(x.1=2∧Below w.heap.size w W∧OwnS W 3 1 x.2 1 [.int .i64 (sumS [1,a,b])]∧ ∀g,x.2.ownBlock=some g→w.heap.size≤g)) (fun x=>2-x.1) (0,.slice none 0 0) (.inl ⟨rfl,rfl,rfl⟩) ?_
 rintro ⟨i,vf⟩ W hJ
 dsimp only at hJ
 rcases hJ with ⟨rfl,rfl,rfl⟩|⟨rfl,hB,hO,hfr⟩
 ·skip
  refine rnT ?_
  refine CW.condP rfl (fun hlt=> ?_) (fun hge=> ?_)
  ·skip
   refine rnT ?_
   refine CW.drawR mixed fun W5 hW5=> ?_
   refine RW.draw .weak 13 (by kernel_rfl) (by kernel_rfl) rfl rfl hW5 ?_
   refine rnD ?_
   refine DW.ld rfl (h.getI (i:=0) rfl) ?_
   refine rnD ?_
   refine DW.ld rfl ((show W.cell? (ad.add ((((0:Nat):Int)+1).toNat*1))=some (.int .i64 b) from h.getI (i:=1) rfl)) ?_
   refine DW.buildSlice 3 _ rfl rfl rfl eo32 (DArgs.cons rfl ct (DArgs.cons rfl ct (DArgs.cons rfl ct DArgs.nil))) rfl rfl rfl rfl rfl ?_
   refine DW.callP (.ex (.int .i64 (sumS [1,a,b]))) (trivial) rfl rfl en213 rfl ct (PArgs.cons rfl ct PArgs.nil) (fun _ w' hb' vs hs=> ?_) ?_
   ·obtain ⟨u,rfl,⟨g,rfl,hB⟩⟩:=Sats.one hs
    exact (sum_c (lit_i64 [1,a,b] hB rfl (three_i64 (low_i64 (by decide)) ha hb) (by simp))).mono fun x w'' ⟨h1,h2⟩=>⟨h1 ▸ Below.refl _ _,h2⟩
   refine DW.buildSlice 3 _ rfl rfl rfl eo32 (DArgs.cons rfl ct DArgs.nil) rfl rfl rfl rfl rfl ?_
   refine DW.nil (DW.finX [0,3,4,12] [(0,_,_),(3,_,_),(4,_,_),(12,_,_)] rfl [24] rfl fun vs w5 b5 hs5=>KW.rk' ?_)
   obtain ⟨v24,rfl,h24⟩:=Sats.one hs5
   obtain ⟨g24,rfl,hB24⟩:=h24
   refine RW.one (by kernel_rfl) (by kernel_rfl) rfl ?_
   refine TW.append [.int .i64 (sumS [1,a,b])] rfl rfl go32 rfl (OwnS.nil _ _ _) rfl rfl (fun j u hj=>⟨_,rfl,hB24.fld hj⟩) (fun u hu=>by simp at hu; subst hu; rfl) (by decide) (by decide) ?_
   rintro v6 w6 hO6 hg6 hn6
   refine TW.nil (KW.pick [0,3,4,25] [(0,_,_),(3,_,_),(4,_,_),(25,_,_)] rfl (KW.rk ?_))
   refine RW.one (by kernel_rfl) (by kernel_rfl) rfl ?_
   refine TW.v V.assign rfl ⟨ct,trivial⟩ (fun _=>trivial) ?_
   refine TW.nil (KW.pick [0,3,4] [(0,_,_),(3,_,_),(4,_,_)] rfl (KW.rk ?_))
   refine RW.end rfl (KW.pick [0,3,4] [(0,_,_),(3,_,_),(4,_,_)] rfl (KW.blockN (KW.then_ ?_)))
   refine rnT ?_
   have b6:Below W.heap.size W w6:=b5.grown hg6 b5.size (fun q hq=>by simp [Value.ownBlock] at hq)
   refine KW.rd (2,v6) (.inr ⟨rfl,b6,hO6,fun g hg=> ?_⟩)
   rcases hn6 with h|h
   ·rw [h] at hg; simp [Value.ownBlock] at hg
   ·rw [h] at hg; cases hg; exact b5.size
  ·exact absurd hge (by decide)
 ·skip
  refine rnT ?_
  refine CW.condP rfl (fun hlt=> ?_) (fun hge=> ?_)
  ·exact absurd hlt (by simp)
  ·refine rnT ?_
   refine CW.condP rfl (fun h1=> ?_) (fun h2=> ?_)
   ·exact absurd h1 (by decide)
   ·refine rnT ?_
    refine rt1 rfl ⟨hB,hO,hfr⟩
theorem sibling2_c {a b:Int} (h:SL intT F w v [a,b]):Gives Tryz.prog 222 #[v,.int .i64 0] w fun u w'=>Below w.heap.size w w'∧u= .int .i64 b:=by
 obtain ⟨A,cap,hv,_⟩:=h.form
 have hv:v= .slice A 2 cap:=hv
 subst hv
 obtain ⟨ad,rfl⟩:=h.addr (by simp)
 refine gv (f:=222) ?_
 refine rnT ?_
 refine CW.pk [0,1,4,5] rfl ?_
 refine CW.condP rfl (fun h1=> ?_) (fun h2=> ?_)
 ·exact absurd h1 (by decide)
 ·refine rnT ?_
  refine CW.condP rfl (fun h3=> ?_) (fun h4=> ?_)
  ·refine rnT ?_
   refine TW.ld rfl ((show w.cell? (ad.add (((0:Int)+1).toNat*1))=some (.int .i64 b) from h.getI (i:=1) rfl)) ?_
   refine rnT ?_
   refine rt1 rfl ⟨Below.refl _ _,rfl⟩
  ·exact absurd h4 (by decide)
abbrev RwE:=Value×List Int
def row0 (x y:ByteArray):List Int:= [leafS x,leafS y]
def row1 (x y:ByteArray):List Int:= [sumS [1,leafS x,leafS y]]
def rwPos (x y:ByteArray) (pre:List RwE) (e:RwE) (M:Nat→Prop) (W:World):Prop:=pre.map (·.2)= [row0 x y,row1 x y].take pre.length∧ [row0 x y,row1 x y][pre.length]?=some e.2∧SL intT (fun k=>k<W.heap.size∧ ¬M k) W e.1 e.2
theorem rows_iter {g:Nat} (hx:x.size≤1000000) (hy':y.size≤1000000) (hB:Blk w g 23 [.slice (some ⟨gl,0,none⟩) 2 cl]) (hL:Blk w gl 9 [.string x,.string y]) :
  IterW Tryz.prog 244 [.pointer (some ⟨g,0,none⟩)] (fun e:RwE=> [e.1]) (rwPos x y) (fun xs=>xs.map (·.2)= [row0 x y,row1 x y]) (fun k=>k=g∨k=gl) w:=by
 intro yl J Jx W M hown hsz hyl hM hMlt hJ hJx hy h0
 have hBW:Blk W g 23 [.slice (some ⟨gl,0,none⟩) 2 cl]:=(hown g (.inl rfl) hB.lt).trans hB
 have hLW:Blk W gl 9 [.string x,.string y]:=(hown gl (.inr rfl) hL.lt).trans hL
 refine gv (f:=244) ?_
 refine rnT ?_
 refine TW.ld rfl (hBW.cell 0) ?_
 refine rnT ?_
 refine CW.condP rfl (fun hz=> ?_) (fun hz=> ?_)
 ·exact absurd hz (by decide)
 refine rnT ?_
 refine TW.ld rfl (hBW.cell 0) ?_
 refine rnT ?_
 refine TW.makeSlice rfl rfl (zero1_of go32 ze3 rfl) rfl rfl (by omega) (by omega) ?_
 rintro g3 w1 f1
 refine rnT ?_
 have q3:=f1.at_
 have s3:=f1.size
 refine TW.ld rfl ((hBW.next f1.below).cell 0) ?_
 refine rnT ?_
 have hO1:OwnS w1 3 1 (.slice (some ⟨g3,0,none⟩) 2 2) 2 (List.replicate 2 (Value.int .i64 0)):=OwnS.of_blk f1.blk (by simp) (by omega)
 have hlg:gl<W.heap.size:=hLW.lt
 refine CW.lp [0,3,12,13] (fun i:Nat=> [(14,none,.int .i64 (i:Int))])
  (fun i W2=>i≤2∧But g3 w1 W2∧w1.heap.size≤W2.heap.size∧OwnS W2 3 1 (.slice (some ⟨g3,0,none⟩) 2 2) 2 (((row0 x y).map (Value.int .i64)).take i++List.replicate (2-i) (Value.int .i64 0))) (fun i=>2-i) 0 ⟨by omega,But.of_below (Below.refl _ _),Nat.le_refl _,by simpa using hO1⟩ ?_
 rintro i W2 ⟨hi,hbut,hsz2,hO⟩
 have hb2:Below W.heap.size W W2:=But.below f1.below hbut (by omega)
 refine rnT ?_
 refine CW.condP rfl (fun hlt=> ?_) (fun hge=> ?_)
 ·have hL2:=hLW.next hb2
  obtain ⟨s,hs,hsm⟩:=getx (l:= [x,y]) (k:=i) (by simp; omega)
  have hsz:s.size≤1000000:=by
   simp only [List.mem_cons,List.not_mem_nil,or_false] at hsm
   rcases hsm with rfl|rfl<;>assumption
  have hget:W2.cell? (Addr.add ⟨gl,0,none⟩ ((i:Int).toNat*1))=some (.string s):=by
   rw [show (i:Int).toNat*1=i by omega]
   refine hL2.fld (cs:= [.string x,.string y]) ?_
   have e:([x,y].map Value.string)[i]?=some (.string s):=by rw [List.getElem?_map,hs]; rfl
   exact e
  have hrow:((row0 x y).map (Value.int .i64))[i]?=some (.int .i64 (leafS s)):=by
   have e:row0 x y= [x,y].map leafS:=rfl
   rw [e,List.map_map,List.getElem?_map,hs]
   rfl
  refine rnT ?_
  refine TW.ld rfl hget ?_
  refine rnT ?_
  refine TW.cl rfl (label_c hsz) ?_
  rintro u w3 ⟨b3,rfl⟩
  refine TW.buildSlice 3 _ rfl rfl rfl eo32 (Args.cons rfl ct (Args.cons rfl ct Args.nil)) rfl rfl rfl rfl rfl ?_
  rintro g5 w5 f5
  have hl5:SI w5 (.slice (some ⟨g5,0,none⟩) 2 2) [0,labS s]:=lit_i64 _ f5.blk rfl (fun z hz=>by
   simp only [List.mem_cons,List.not_mem_nil,or_false] at hz
   rcases hz with rfl|rfl
   ·exact low_i64 (by decide)
   ·exact sum_i64 _) (by simp)
  refine TW.cl rfl (sum_c hl5) ?_
  rintro u w6 ⟨rfl,rfl⟩
  have hO6:=(hO.below b3).below f5.below
  have s53:=b3.size
  have s55:=f5.below.size
  refine rnT ?_
  refine TW.storeRow1 rfl sz3 rfl rfl hO6 (by simp [row0]; omega) rfl ?_
  rintro w7 hO7 hb7 hs7
  refine rnT ?_
  refine KW.rd (i+1) ⟨by omega,((hbut.step b3).step f5.below).trans hb7,by omega,?_⟩
  rw [←fill_next hrow (by omega)]
  have e2:leafS s=sumS [0,labS s]:=rfl
  simpa only [Nat.mul_one,Int.toNat_natCast,e2] using hO7
 have hie:i=2:=by omega
 subst hie
 have hj0:J [] M W2:=hJ _ _ _ _ h0 (.of_below hb2)
 have hs2:=hb2.size
 have hr0:SL intT (fun k=>W.heap.size≤k∧k<W2.heap.size∧ ¬M k) W2 (.slice (some ⟨g3,0,none⟩) 2 2) (row0 x y):=by
  have e:((row0 x y).map (Value.int .i64)).take 2++List.replicate (2-2) (Value.int .i64 0)=(row0 x y).map (Value.int .i64):=rfl
  rw [e] at hO
  refine OwnS.toInts hO (fun z hz=> ?_) (fun q hq=> ?_) (by simp [row0])
  ·simp only [row0,List.mem_cons,List.not_mem_nil,or_false] at hz
   rcases hz with rfl|rfl<;>exact sum_i64 _
  ·have:=hO.lt hq
   simp [Value.ownBlock] at hq
   subst hq
   exact ⟨by omega,this,fun h=>by have:=hMlt _ h; omega⟩
 refine rnT ?_
 refine CW.lp [0] (fun e:List RwE×(Nat→Prop)×Value=> [(3,none,e.2.2)])
  (fun e W'=>J e.1 e.2.1 W'∧e.1.length≤1∧e.1.map (·.2)= [row0 x y,row1 x y].take e.1.length∧W2.heap.size≤W'.heap.size∧(∀k,e.2.1 k→k<W'.heap.size)∧ ∃r,[row0 x y,row1 x y][e.1.length]?=some r∧SL intT (fun k=>W.heap.size≤k∧k<W'.heap.size∧ ¬e.2.1 k) W' e.2.2 r) (fun e=>2-e.1.length) ([],M,.slice (some ⟨g3,0,none⟩) 2 2)
  ⟨hj0,by simp,rfl,Nat.le_refl _,fun k hk=>by have:=hMlt k hk; omega,_,rfl,hr0⟩ ?_
 rintro ⟨pre,M1,rv⟩ W1 ⟨hj,hpn,heq,hsz1,hM1,r,hr,hrow⟩
 dsimp only at hj hpn heq hsz1 hM1 hr hrow
 obtain ⟨A,cap,rfl,_⟩:=hrow.form
 have hrm:=hrow.len.2.2
 refine rnT ?_
 refine TW.yield rfl rfl rfl (Args.cons rfl ct Args.nil) (hy pre (.slice A r.length cap,r) M1 W1 hj ⟨heq,hr,hrow.wider fun k hk=>hk.2⟩ hM1 (by omega)) ?_
 rintro yb W3 hR
 refine rnT ?_
 refine CW.pk [0,3,34] rfl ?_
 have hall:(pre++ [((.slice A r.length cap,r):RwE)]).map (·.2)= [row0 x y,row1 x y].take (pre.length+1):=by
  rw [List.map_append,heq,List.take_add_one,hr]
  rfl
 refine CW.cond rfl (fun hgo=> ?_) (fun hend=> ?_)
 ·have hyb:yb=true∧1<r.length:=by
   have h:yb=true∧(1:Int)<r.length:=by simpa using hgo
   exact ⟨h.1,by omega⟩
  have hp0:pre.length=0:=by
   rcases Nat.lt_or_ge 0 pre.length with h|h
   ·have h1:pre.length=1:=by omega
    rw [h1] at hr
    have:r=row1 x y:=by simpa using hr.symm
    rw [this] at hyb
    simp [row1] at hyb
   ·omega
  rw [hp0] at hr hall
  have hre:r=row0 x y:=by simpa using hr.symm
  subst hre
  obtain ⟨M',hj3,hm3⟩:=hR.yes hyb.1
  have hrs:=hR.size
  have hrow3:SL intT (fun k=>W.heap.size≤k∧k<W1.heap.size∧ ¬M1 k) W3 (.slice A (row0 x y).length cap) (row0 x y):=hrow.mono (Kept.of_blocks fun k hk hlt=>hR.kept k hk.2.1 hk.2.2 (by omega))
  refine rnT ?_
  refine TW.cl rfl (above2_c (a:=leafS x) (b:=leafS y) hrow3 (sum_i64 _) (sum_i64 _)) ?_
  rintro u w5 ⟨b5,hO5,hf5⟩
  refine rnT ?_
  have hs5:=b5.size
  refine KW.rd (pre++ [(.slice A (row0 x y).length cap,row0 x y)],M',u) ⟨hJ _ _ _ _ hj3 (.of_below b5),by rw [List.length_append,hp0]; simp,?_,by omega,fun k hk=>by have:=(hm3 k hk).2; omega,row1 x y,?_,?_⟩ (hm:=by simp [hp0])
  ·dsimp only
   rw [List.length_append,hp0]
   exact hall
  ·dsimp only
   rw [List.length_append,hp0]
   rfl
  ·refine OwnS.toInts (l:=row1 x y) hO5 (fun z hz=> ?_) (fun q hq=> ?_) (by simp [row1])
   ·rw [row1,List.mem_singleton] at hz
    subst hz
    exact sum_i64 _
   ·have h1:=hf5 q hq
    exact ⟨by omega,hO5.lt hq,fun h=>by have:=(hm3 q h).2; omega⟩
 ·cases yb with
  | false =>
   refine rnT ?_
   obtain ⟨M',hx⟩:=hR.no rfl
   refine end0 Tryz.results244 (.inr ⟨_,M',hx⟩)
  | true =>
   have hr1: ¬1<r.length:=by
    have h: ¬(1:Int)<r.length:=by simpa using hend
    omega
   have hp1:pre.length=1:=by
    rcases Nat.lt_or_ge 0 pre.length with h|h
    ·omega
    ·have h0:pre.length=0:=by omega
     rw [h0] at hr
     have:r=row0 x y:=by simpa using hr.symm
     rw [this] at hr1
     simp [row0] at hr1
   obtain ⟨M',hj3,hm3⟩:=hR.yes rfl
   refine rnT ?_
   refine end0 Tryz.results244 (.inl ⟨_,M',by show (pre++ [((.slice A r.length cap,r):RwE)]).map (·.2)=_; rw [hall,hp1]; rfl,hj3⟩)
theorem rows_c (h1:v.oneCell'=true) (hc:v.cells= [v].toArray):Gives Tryz.prog 221 #[v] w fun u w'=>Below w.heap.size w w'∧ ∃g,u= .func (.func 244) #[] [.pointer (some ⟨g,0,none⟩)].toArray∧Blk w' g 23 [v]∧w.heap.size≤g:=by
 refine gv (f:=221) ?_
 refine rnT ?_
 refine TW.box rfl rfl rfl hc ?_
 rintro g w1 f1
 refine rnT ?_
 refine TW.makeFunc rfl rfl (Args.cons rfl ct Args.nil) ?_
 refine rnT ?_
 refine rt1 rfl ⟨f1.below,g,rfl,f1.blk,by have:=f1.at_; omega⟩
def rootV (x y:ByteArray):Nat→Int
 | 0=>7
 | 1=>leafS x
 | _=>sumS [1,leafS x,leafS y]
theorem root_c (hx:x.size≤1000000) (hy:y.size≤1000000) (hL:Blk w gl 9 [.string x,.string y]) :
  Gives Tryz.prog 155 #[.slice (some ⟨gl,0,none⟩) 2 cl] w fun u w'=>Below w.heap.size w w'∧u= .int .i64 (sumS [1,leafS x,leafS y]):=by
 refine gvM (f:=155) ?_
 refine rnT ?_
 refine CW.condP rfl (fun hz=> ?_) (fun hz=> ?_)
 ·exact absurd hz (by decide)
 refine rnT ?_
 refine TW.newVar1 rfl zc3 rfl sz3 rfl ?_
 rintro g3 w1 f1
 refine rnT ?_
 refine TW.cl rfl (rows_c rfl rfl) ?_
 rintro yv w2 ⟨b2,g,rfl,hB2,hgg⟩
 have b02:=f1.below.step b2
 have hL2:=hL.next b02
 have hg3:=f1.at_
 have hg3s:=f1.size
 have hgl:=hL.lt
 have hB3:=f1.blk.next b2
 have hit:=rows_iter hx hy hB2 hL2
 have hs2:=b2.size
 refine rnT ?_
 refine CW.rangeW rfl en244 hit rfl (fun _=>rfl)
  (fun pre M W=>Below w.heap.size w W∧w2.heap.size≤W.heap.size∧Blk W g3 3 [.int .i64 (rootV x y pre.length)]∧M=fun k=>k=g3)
  (fun c pre M W=>False) (fun k=>k=g3) ?_ ?_ ?_ (fun _ _ _ _ _ h _=>h) ?_ ?_ ?_ ?_
 ·rintro k rfl
  refine ⟨by omega,?_⟩
  rintro (rfl|rfl)
  ·omega
  ·omega
 ·rintro k (rfl|rfl)
  ·exact hB2.lt
  ·exact hL2.lt
 ·rintro pre M W1 W2 ⟨a1,a2,a3,a4⟩ hx
  exact ⟨(hx.less (by omega)).below a1 (Nat.le_refl _),Nat.le_trans a2 hx.size,a3.ext hx,a4⟩
 ·exact ⟨b02,Nat.le_refl _,hB3,rfl⟩
 ·rintro D L pre ⟨rv,r⟩ M W hD hL' ⟨a1,a2,a3,rfl⟩ ⟨hp1,hp2,hrow⟩ hMlt hML hMD hrec
  dsimp only at hp1 hp2 hrow
  obtain ⟨A,cap,rfl,_⟩:=hrow.form
  have hz:r[0]?=some (rootV x y (pre.length+1)):=by
   have hl:=(List.getElem?_eq_some_iff.1 hp2).1
   have h2:pre.length=0∨pre.length=1:=by simp at hl; omega
   rcases h2 with h|h
   ·rw [h] at hp2 ⊢
    have:r=row0 x y:=by simpa using hp2.symm
    subst this
    rfl
   ·rw [h] at hp2 ⊢
    have:r=row1 x y:=by simpa using hp2.symm
    subst this
    rfl
  obtain ⟨hzl,_⟩:=List.getElem?_eq_some_iff.1 hz
  obtain ⟨ad,rfl⟩:=hrow.addr (by omega)
  refine rnT ?_
  refine KW.begin hrec fun W2 hx2 hsz2 hk2 hrec2=> ?_
  have hrow2:SL intT (fun k=>k<W.heap.size∧ ¬(k=g3)) W2 (.slice (some ad) r.length cap) r:=hrow.ext (hx2.less (Nat.zero_le _))
  have hB32:=a3.ext (hx2.less (Nat.zero_le _))
  have hLW:L<W.heap.size:=hrec.lt
  have hLg:L≠g3:=hML
  refine rnT ?_
  refine TW.ld rfl ((show W2.cell? (ad.add ((0:Int).toNat*1))=some (.int .i64 (rootV x y (pre.length+1))) from hrow2.getI hz)) ?_
  refine TW.storeFld rfl sz3 rfl rfl hB32 (by show 0<1; decide) rfl ?_
  rintro w3 hB33 hbut3 hs3
  refine rnT ?_
  have a1':Below w.heap.size w w3:=((hx2.less (by omega)).below a1 (Nat.le_refl _)).grown hbut3 ((hx2.less (by omega)).below a1 (Nat.le_refl _)).size (fun q hq=>by cases hq; omega)
  refine KW.endN (hrec2.kept (hbut3.block L (by have:=hrec2.lt; omega) (fun e=>hLg (by cases e; rfl)))) fun W9 hx9 hsz9 hk9 hrec9=> ?_
  refine ⟨by omega,fun k h1 h2 h3=>(hk9 k h3).trans ((hbut3.block k (by omega) (fun e=>h2 (by cases e; rfl))).trans (hk2 k h3)),fun _=>⟨fun k=>k=g3,⟨⟨(hx9.less (by omega)).below a1' (Nat.le_refl _),by omega,?_,rfl⟩,hML,hMD,hrec9⟩,fun k hk=>⟨.inl hk,?_⟩⟩,fun h=>by cases h⟩
  ·rw [List.length_append]
   exact hB33.ext (hx9.less (Nat.zero_le _))
  ·have hk:k=g3:=hk
   omega
 ·rintro D xs M W hD hdone ⟨a1,a2,a3,rfl⟩ hMD hdef
  have hdone':xs.map (·.2)= [row0 x y,row1 x y]:=hdone
  have hlen:xs.length=2:=by
   have:=congrArg List.length hdone'
   simpa using this
  rw [hlen] at a3
  have hDn:D<W.heap.size:=(Array.getElem?_eq_some_iff.1 hdef).1
  have hBp:Below w.heap.size w (W.putObj D (.deferred none)):=Below.putCtl a1 (by omega)
  refine KW.blockN (KW.then_ ?_)
  refine rnT ?_
  refine TW.ld rfl (a3.cell 0) ?_
  refine rnT ?_
  refine ret1M Tryz.results155 rfl hdef ⟨hBp,rfl⟩
 ·rintro D c pre M W hD h
  exact h.elim
theorem path_c (hx:x.size≤1000000) (hy:y.size≤1000000) (hL:Blk w gl 9 [.string x,.string y]) :
  Gives Tryz.prog 156 #[.slice (some ⟨gl,0,none⟩) 2 cl,.int .i64 0] w fun u w'=>Below w.heap.size w w'∧ ∃A c,u= .slice A 1 c∧OwnS w' 3 1 u 1 [.int .i64 (leafS y)]∧ ∀q,u.ownBlock=some q→w.heap.size≤q:=by
 refine gvM (f:=156) ?_
 refine rnT ?_
 refine TW.box rfl rfl rfl rfl ?_
 rintro g3 w1 f1
 refine rnT ?_
 refine TW.ld rfl (f1.blk.cell 0) ?_
 refine rnT ?_
 refine TW.ld rfl (f1.blk.cell 0) ?_
 refine rnT ?_
 refine CW.pk [0,1,3,4,19] rfl ?_
 refine CW.cond rfl (fun hz=> ?_) (fun hz=> ?_)
 ·exact absurd hz (by decide)
 refine rnT ?_
 refine TW.alloc rfl rfl zc32 ?_
 rintro g5 w2 f2
 refine rnT ?_
 refine TW.cl rfl (rows_c rfl rfl) ?_
 rintro yv w3 ⟨b3,g,rfl,hB3,hgg⟩
 have b03:=(f1.below.step f2.below).step b3
 have hL3:=hL.next b03
 have hg3:=f1.at_
 have hg3s:=f1.size
 have hg5:=f2.at_
 have hg5s:=f2.size
 have hgl:=hL.lt
 have hI3:=(f1.blk.next f2.below).next b3
 have hP3:=f2.blk.next b3
 have hit:=rows_iter hx hy hB3 hL3
 have hs3:=b3.size
 refine rnT ?_
 refine CW.rangeW rfl en244 hit rfl (fun _=>rfl)
  (fun pre M W=>Below w.heap.size w W∧w3.heap.size≤W.heap.size∧Blk W g3 3 [.int .i64 0]∧ ∃vf,Blk W g5 32 [vf]∧((pre.length=0∧vf= .slice none 0 0)∨(pre.length≠0∧OwnS W 3 1 vf 1 [.int .i64 (leafS y)]))∧(∀q,vf.ownBlock=some q→w3.heap.size≤q)∧M=fun k=>k=g5∨k=g3∨vf.ownBlock=some k)
  (fun c pre M W=>False) (fun k=>k=g5∨k=g3) ?_ ?_ ?_ (fun _ _ _ _ _ h _=>h) ?_ ?_ ?_ ?_
 ·rintro k hk
  have hk2:k<w3.heap.size∧k<w2.heap.size:=by rcases hk with rfl|rfl<;>omega
  refine ⟨hk2.1,?_⟩
  rintro (rfl|rfl)<;>omega
 ·rintro k (rfl|rfl)
  ·exact hB3.lt
  ·exact hL3.lt
 ·rintro pre M W1 W2 ⟨a1,a2,a3,vf,a4,a5,a6,a7⟩ hx
  exact ⟨(hx.less (by omega)).below a1 (Nat.le_refl _),Nat.le_trans a2 hx.size,a3.ext hx,vf,a4.ext hx,a5.imp id (fun h=>⟨h.1,h.2.ext hx⟩),a6,a7⟩
 ·exact ⟨b03,Nat.le_refl _,hI3,_,hP3,.inl ⟨rfl,rfl⟩,fun q hq=>by simp [Value.ownBlock] at hq,by funext k; simp [Value.ownBlock]⟩
 ·rintro D L pre ⟨rv,r⟩ M W hD hL' ⟨a1,a2,a3,vf,a4,a5,a6,rfl⟩ ⟨hp1,hp2,hrow⟩ hMlt hML hMD hrec
  dsimp only at hp1 hp2 hrow
  obtain ⟨A,cap,rfl,_⟩:=hrow.form
  have hrm:=hrow.len.2.2
  have hcase:(pre.length=0∧r=row0 x y)∨(pre.length=1∧r=row1 x y):=by
   have hl:=(List.getElem?_eq_some_iff.1 hp2).1
   have h2:pre.length=0∨pre.length=1:=by simp at hl; omega
   rcases h2 with h|h
   ·rw [h] at hp2
    exact .inl ⟨h,by simpa using hp2.symm⟩
   ·rw [h] at hp2
    exact .inr ⟨h,by simpa using hp2.symm⟩
  have hLg5:L≠g5:=fun e=>hML (.inl e)
  have hLg3:L≠g3:=fun e=>hML (.inr (.inl e))
  have hLv:vf.ownBlock≠some L:=fun e=>hML (.inr (.inr e))
  have hDv:vf.ownBlock≠some D:=fun e=>hMD (.inr (.inr e))
  have hvlt: ∀q,vf.ownBlock=some q→q<W.heap.size:=fun q hq=>hMlt q (.inr (.inr hq))
  refine rnT ?_
  refine KW.begin hrec fun W2 hx2 hsz2 hk2 hrec2=> ?_
  have hrow2:=hrow.ext (hx2.less (Nat.zero_le _))
  have hI2:=a3.ext (hx2.less (Nat.zero_le _))
  have hP2:=a4.ext (hx2.less (Nat.zero_le _))
  have hLW:L<W.heap.size:=hrec.lt
  have hLW2:L<W2.heap.size:=hrec2.lt
  have a1':Below w.heap.size w W2:=(hx2.less (by omega)).below a1 (Nat.le_refl _)
  refine rnT ?_
  refine CW.condP rfl (fun hlong=> ?_) (fun hshort=> ?_)
  ·have hp0:pre.length=0∧r=row0 x y:=by
    rcases hcase with h|⟨_,h⟩
    ·exact h
    ·rw [h] at hlong
     exact absurd hlong (by simp [row1])
   obtain ⟨hp0,rfl⟩:=hp0
   have hvn:vf= .slice none 0 0:=by
    rcases a5 with h|h
    ·exact h.2
    ·exact absurd hp0 h.1
   subst hvn
   refine CW.seq ?_
   refine CW.drawR mixed fun W5 hW5=> ?_
   refine RW.draw .weak 5 (by kernel_rfl) (by kernel_rfl) rfl rfl hW5 ?_
   refine DW.ld rfl (hP2.cell 0) ?_
   refine rnD ?_
   refine DW.ld rfl (hI2.cell 0) ?_
   refine DW.cl (.ex (.int .i64 (leafS y))) trivial rfl (fun _ w' hb'=>sibling2_c (a:=leafS x) (b:=leafS y) (hrow2.below hb')) ?_
   refine DW.buildSlice 3 _ rfl rfl rfl eo32 (DArgs.cons rfl ct DArgs.nil) rfl rfl rfl rfl rfl ?_
   refine DW.nil (DW.finX [0,1,3,4,5,6,22,26] [(0,_,_),(1,_,_),(3,_,_),(4,_,_),(5,_,_),(6,_,_),(22,_,_),(26,_,_)] rfl [30] rfl fun vs w5 b5 hs5=>KW.rk' ?_)
   obtain ⟨v30,rfl,h30⟩:=Sats.one hs5
   obtain ⟨g30,rfl,hB30⟩:=h30
   refine RW.one (by kernel_rfl) (by kernel_rfl) rfl ?_
   refine TW.append [.int .i64 (leafS y)] rfl rfl go32 rfl (OwnS.nil _ _ _) rfl rfl (fun j u hj=>⟨_,rfl,hB30.fld hj⟩) (fun u hu=>by simp at hu; subst hu; rfl) (by decide) (by decide) ?_
   rintro v6 w6 hO6 hg6 hn6
   refine TW.nil (KW.pick [0,1,3,4,5,6,22,31] [(0,_,_),(1,_,_),(3,_,_),(4,_,_),(5,_,_),(6,_,_),(22,_,_),(31,_,_)] rfl (KW.rk ?_))
   refine RW.one (by kernel_rfl) (by kernel_rfl) rfl ?_
   have s5:=b5.size
   have s6:=hg6.size
   have hg6':Below w5.heap.size w5 w6:=(Below.refl _ _).grown hg6 (Nat.le_refl _) (fun q hq=>by simp [Value.ownBlock] at hq)
   have b6:=b5.step hg6'
   have hown: ∀q,v6.ownBlock=some q→q=w5.heap.size:=fun q hq=>by
    rcases hn6 with h|h
    ·rw [h] at hq; simp [Value.ownBlock] at hq
    ·rw [h] at hq; cases hq; rfl
   have h1c:v6.oneCell'=true:=by
    obtain ⟨A6,c6,e6,_⟩:=hO6.form
    rw [e6]
    rfl
   refine TW.storeFld rfl sz32 rfl rfl (hP2.next b6) (by show 0<1; decide) h1c ?_
   rintro w7 hP7 hbut7 hs7
   refine TW.nil (KW.pick [0,1,3,4,5,6,22] [(0,_,_),(1,_,_),(3,_,_),(4,_,_),(5,_,_),(6,_,_),(22,_,_)] rfl (KW.rk ?_))
   refine RW.end rfl (KW.pick [0,1,3,4,5,6,22] [(0,_,_),(1,_,_),(3,_,_),(4,_,_),(5,_,_),(6,_,_),(22,_,_)] rfl (KW.then_ ?_))
   refine CW.region ?_
   have hI7:=hbut7.blk (hI2.next b6) (by omega)
   refine TW.ld rfl (hI7.cell 0) ?_
   refine rnT ?_
   refine TW.storeFld rfl sz3 rfl rfl hI7 (by show 0<1; decide) rfl ?_
   rintro w8 hI8 hbut8 hs8
   refine rnT ?_
   have hP8:=hbut8.blk hP7 (by omega)
   have hO8:OwnS w8 3 1 v6 1 [.int .i64 (leafS y)]:=hO6.kept fun q hq=>by
    have hq1:=hown q hq
    have hq2:=hO6.lt hq
    rw [hbut8.block q (by omega) (fun e=>by cases e; omega),hbut7.block q hq2 (fun e=>by cases e; omega)]
   have keep: ∀k,k<W2.heap.size→k≠g5→k≠g3→w8.heap[k]?=W2.heap[k]?:=fun k h1 h2 h3=>by
    rw [hbut8.block k (by omega) (fun e=>h3 (by cases e; rfl)),hbut7.block k (by omega) (fun e=>h2 (by cases e; rfl)),b6.block k h1]
   have a8:Below w.heap.size w w8:=by
    have q6:=a1'.step b6
    have q7:=q6.grown hbut7 q6.size (fun q hq=>by cases hq; omega)
    exact q7.grown hbut8 q7.size (fun q hq=>by cases hq; omega)
   refine KW.endN (hrec2.kept (keep L hLW2 hLg5 hLg3)) fun W9 hx9 hsz9 hk9 hrec9=> ?_
   refine ⟨by omega,fun k h1 h2 h3=>(hk9 k h3).trans ((keep k (by omega) (fun e=>h2 (.inl e)) (fun e=>h2 (.inr (.inl e)))).trans (hk2 k h3)),fun _=>⟨fun k=>k=g5∨k=g3∨v6.ownBlock=some k,⟨⟨(hx9.less (by omega)).below a8 (Nat.le_refl _),by omega,hI8.ext (hx9.less (Nat.zero_le _)),v6,hP8.ext (hx9.less (Nat.zero_le _)),.inr ⟨by simp,hO8.ext (hx9.less (Nat.zero_le _))⟩,fun q hq=>by have:=hown q hq; omega,rfl⟩,?_,?_,hrec9⟩,fun k hk=> ?_⟩,fun h=>by cases h⟩
   ·rintro (h|h|h)
    ·exact hLg5 h
    ·exact hLg3 h
    ·have:=hown L h; omega
   ·rintro (h|h|h)
    ·exact hMD (.inl h)
    ·exact hMD (.inr (.inl h))
    ·have:=hown D h; omega
   ·rcases hk with rfl|rfl|h
    ·exact ⟨.inl (.inl rfl),by omega⟩
    ·exact ⟨.inl (.inr (.inl rfl)),by omega⟩
    ·have:=hown k h
     have:=hO8.lt h
     exact ⟨.inr (by omega),by omega⟩
  ·have hp0:pre.length≠0:=by
    rcases hcase with ⟨_,h⟩|⟨h,_⟩
    ·rw [h] at hshort
     exact absurd hshort (by simp [row0])
    ·omega
   refine rnT ?_
   refine KW.endN hrec2 fun W9 hx9 hsz9 hk9 hrec9=> ?_
   refine ⟨by omega,fun k h1 h2 h3=>(hk9 k h3).trans (hk2 k h3),fun _=>⟨fun k=>k=g5∨k=g3∨vf.ownBlock=some k,⟨⟨(hx9.less (by omega)).below a1' (Nat.le_refl _),by omega,hI2.ext (hx9.less (Nat.zero_le _)),vf,hP2.ext (hx9.less (Nat.zero_le _)),.inr ⟨by simp,?_⟩,a6,rfl⟩,hML,hMD,hrec9⟩,fun k hk=>⟨.inl hk,by have:=hMlt k hk; omega⟩⟩,fun h=>by cases h⟩
   rcases a5 with h|h
   ·exact absurd h.1 hp0
   ·exact (h.2.ext (hx2.less (Nat.zero_le _))).ext (hx9.less (Nat.zero_le _))
 ·rintro D xs M W hD hdone ⟨a1,a2,a3,vf,a4,a5,a6,rfl⟩ hMD hdef
  have hdone':xs.map (·.2)= [row0 x y,row1 x y]:=hdone
  have hlen:xs.length=2:=by
   have:=congrArg List.length hdone'
   simpa using this
  have hO:OwnS W 3 1 vf 1 [.int .i64 (leafS y)]:=by
   rcases a5 with h|h
   ·omega
   ·exact h.2
  have hDn:D<W.heap.size:=(Array.getElem?_eq_some_iff.1 hdef).1
  have hBp:Below w.heap.size w (W.putObj D (.deferred none)):=Below.putCtl a1 (by omega)
  have hput:ExtF 0 W (W.putObj D (.deferred none)):=(ExtF.putObj hdef rfl (Nat.le_refl D)).less (Nat.zero_le _)
  obtain ⟨VA,vc,rfl,_⟩:=hO.form
  refine KW.blockN (KW.then_ ?_)
  refine rnT ?_
  refine TW.ld rfl (a4.cell 0) ?_
  refine rnT ?_
  refine ret1M Tryz.results156 rfl hdef ⟨hBp,VA,vc,rfl,hO.ext hput,fun q hq=>by have:=a6 q hq; have:=b03.size; omega⟩
 ·rintro D c pre M W hD h
  exact h.elim
def sgn (ks:List Int) (d:Dc):Dc:= {d with give:=sumS (firstS ks d),take:=sumS (secondS ks {d with give:=sumS (firstS ks d)})}
theorem sgn_sign (ks:List Int) (d:Dc):SignOK ks (sgn ks d):=⟨rfl,rfl⟩
theorem sgn_ok {d:Dc} (h:DocOK ks d):DocOK ks (sgn ks d):=⟨h.keys,h.lab,h.f0,h.f1,h.t0,h.t1,h.m0,h.m1,h.c0,h.c1,h.r,sumS_rng _,sumS_rng _⟩
theorem doc_dc {d:Dc} (h:DocOK ks d) (hk:ks.length≤6):DcOK d:=by
 have h1:=h.f1
 have h2:=h.t1
 have h3:=h.r
 have h4:=h.g
 have h5:=h.k
 have h6:=h.f0
 have h7:=h.t0
 have h8:=h.m0
 have h9:=h.m1
 have h10:=h.c0
 have h11:=h.c1
 exact ⟨⟨by omega,by omega⟩,⟨by omega,by omega⟩,⟨by omega,by omega⟩,⟨by omega,by omega⟩,⟨by omega,by omega⟩,⟨by omega,by omega⟩,⟨by omega,by omega⟩⟩
theorem hwrite_c {kv:Value} {fr to t:Int} {s:ByteArray} (hk:SL intT F w kv ks) (hx:isLab x) (hy:isLab y) (hL:Blk w gl 9 [.string x,.string y]) (hls:SL strT (fun k=>k<w.heap.size) w (.slice (some ⟨gl,0,none⟩) 2 2) [x,y]) (hd:DocOK ks ⟨s,fr,to,t,2,sumS [1,leafS x,leafS y],0,0⟩) :
  Gives Tryz.prog 82 #[kv,.int .i64 fr,.int .i64 to,.string s,.int .i64 t,.slice (some ⟨gl,0,none⟩) 2 2] w fun u w'=>Below w.heap.size w w'∧u= .tuple #[.agg (dcV (sgn ks ⟨s,fr,to,t,2,sumS [1,leafS x,leafS y],0,0⟩)).toArray,.int .i64 0]:=by
 obtain ⟨D0,hD0⟩: ∃D0:Dc,D0=⟨s,fr,to,t,2,sumS [1,leafS x,leafS y],0,0⟩:=⟨_,rfl⟩
 have hV0:dcV D0= [.string s,.int .i64 fr,.int .i64 to,.int .i64 t,.int .i64 2,.int .i64 (sumS [1,leafS x,leafS y]),.int .i64 0,.int .i64 0]:=by rw [hD0]; rfl
 rw [←hD0] at hd ⊢
 have hk6:ks.length≤6:=hd.keys.2.1
 have hdc:=doc_dc hd hk6
 obtain ⟨KA,kc,rfl,_⟩:=hk.form
 have hx2:=hx.2.1
 have hy2:=hy.2.1
 refine gv (f:=82) ?_
 refine rnT ?_
 refine TW.alloc rfl rfl zc63 ?_
 rintro g12 w1 f1
 refine rnT ?_
 refine TW.cl rfl (areCont_c (hls.below f1.below)) ?_
 rintro u w2 ⟨b2,rfl⟩
 have hcont:ContOK [x,y]:=⟨by simp,by simp,fun z hz=>by
  simp only [List.mem_cons,List.not_mem_nil,or_false] at hz
  rcases hz with rfl|rfl<;>assumption⟩
 rw [dec_pos hcont]
 have b02:=f1.below.step b2
 refine rnT ?_
 refine CW.cond rfl (fun hz=> ?_) (fun hz=> ?_)
 ·exact absurd hz (by decide)
 refine rnT ?_
 refine TW.cl rfl (root_c (by omega) (by omega) (hL.next b02)) ?_
 rintro u w3 ⟨b3,rfl⟩
 have b03:=b02.step b3
 refine TW.build [0,1,2,3,4,5] _ (dcV D0) rfl rfl rfl (Args.cons rfl ct (Args.cons rfl ct (Args.cons rfl ct (Args.cons rfl ct (Args.cons rfl ct (Args.cons rfl ct Args.nil)))))) (by rw [hV0]; kernel_rfl) ?_
 refine TW.newVar rfl zc63 rfl sz63 rfl rfl ?_
 rintro g14 w4 f4
 refine rnT ?_
 refine TW.ldS rfl (fun _ _ hv=>f4.blk.fld hv) ?_
 refine rnT ?_
 refine TW.build [0,1] _ (sgV D0 (.slice KA ks.length kc)) rfl rfl rfl (Args.cons rfl ct (Args.cons rfl ct Args.nil)) (by kernel_rfl) ?_
 refine TW.newVar rfl zc115 rfl sz115 rfl rfl ?_
 rintro g15 w5 f5
 refine rnT ?_
 have hB5:=f5.blk
 refine TW.ldS rfl (fun _ _ hv=>hB5.fld hv) ?_
 refine TW.makeFuncB rfl rfl (Args.cons rfl ct Args.nil) Args.nil ?_
 refine TW.build [0,1] _ [.func (.func 68) #[.agg (sgV D0 (.slice KA ks.length kc)).toArray] #[],.int .i64 1] rfl rfl rfl (Args.cons rfl ct (Args.cons rfl ct Args.nil)) (by kernel_rfl) ?_
 refine TW.buildSlice 120 _ rfl rfl rfl eo202 (Args.cons rfl ct Args.nil) rfl rfl rfl rfl rfl ?_
 rintro g6 w6 f6
 have b46:=f5.below.step f6.below
 have b06:=b03.step (f4.below.step b46)
 have hk6':=hk.below b06
 have hS:=raw_lit (m:=2) (by decide) [[.func (.func 68) #[.agg (sgV D0 (.slice KA ks.length kc)).toArray] #[],.int .i64 1]] f6.blk rfl (by simp) (by simp)
 obtain ⟨rs,hrs⟩: ∃rs:List (Value×Bool×Int),rs= [(.func (.func 68) #[.agg (sgV D0 (.slice KA ks.length kc)).toArray] #[],!dec (DocOK ks D0),1)]:=⟨_,rfl⟩
 have hcc: ∀pre r suf W,rs=pre++r::suf→(∀q∈pre,q.2.1=false)→Below w6.heap.size w6 W→Thk Tryz.prog r.1 [] W fun u W'=>Below W.heap.size W W'∧u= .bool r.2.1:=by
  intro pre r suf W hcut hpre hbW
  rw [hrs] at hcut
  rcases pre with _|⟨a1,pre⟩<;>simp at hcut
  obtain ⟨rfl,_⟩:=hcut
  exact ⟨_,[_],[],rfl,en68,malformed_c (hk6'.below hbW) hdc⟩
 refine TW.cl rfl (firstError_c (rs:=rs) (by rw [hrs]; exact hS) (by rw [hrs]; simp [Value.oneCell']) hcc) ?_
 rintro u w7 ⟨b7,rfl⟩
 have hee:errL (rs.map (·.2))=0:=by
  rw [hrs,dec_pos hd]
  rfl
 rw [hee]
 have b07:=b06.step b7
 refine rnT ?_
 refine CW.pk [0,1,2,3,4,5,12,13,14,15,16,39] rfl ?_
 refine CW.condP rfl (fun hz=> ?_) (fun hz=> ?_)
 ·exact absurd hz (by decide)
 have hB7:=hB5.next (f6.below.step b7)
 refine rnT ?_
 refine TW.ldS rfl (fun _ _ hv=>hB7.fld hv) ?_
 refine TW.cl rfl (first_c (hk.below b07) hdc (by have:=hd.lab.2.1; omega) hd.f0 hd.f1) ?_
 rintro u w8 ⟨b8,h8⟩
 obtain ⟨FA,fc,rfl,_⟩:=h8.form
 refine TW.cl rfl (dsum_c h8) ?_
 rintro u w9 ⟨rfl,rfl⟩
 refine rnT ?_
 have hB8:=hB7.next b8
 refine TW.storeFld (j:=6) rfl sz3 rfl rfl hB8 (by show 6<9; decide) rfl ?_
 rintro w10 hB10 hbut10 hs10
 refine rnT ?_
 have q5:=f5.at_
 have s5:w.heap.size≤w4.heap.size:=(b03.step f4.below).size
 have b08:=b07.step b8
 have b10:Below w.heap.size w w10:=b08.grown hbut10 b08.size (fun q hq=>by cases hq; omega)
 have hD1:(sgV D0 (.slice KA ks.length kc)).set 6 (.int .i64 (sumS (firstS ks D0)))=sgV {D0 with give:=sumS (firstS ks D0)} (.slice KA ks.length kc):=rfl
 rw [hD1] at hB10
 refine TW.ldS rfl (fun _ _ hv=>hB10.fld hv) ?_
 refine TW.cl rfl (second_c (d:= {D0 with give:=sumS (firstS ks D0)}) (hk.below b10) ⟨hdc.f,hdc.t,hdc.m,hdc.c,hdc.r,sum_i64 _,hdc.k⟩ hd.t0 hd.t1) ?_
 rintro u w11 ⟨b11,h11⟩
 obtain ⟨GA,gc,rfl,_⟩:=h11.form
 refine TW.cl rfl (dsum_c h11) ?_
 rintro u w12 ⟨rfl,rfl⟩
 refine rnT ?_
 have hB11:=hB10.next b11
 refine TW.storeFld (j:=7) rfl sz3 rfl rfl hB11 (by show 7<9; decide) rfl ?_
 rintro w13 hB13 hbut13 hs13
 refine rnT ?_
 have b011:=b10.step b11
 have b13:Below w.heap.size w w13:=b011.grown hbut13 b011.size (fun q hq=>by cases hq; omega)
 have hD2:(sgV {D0 with give:=sumS (firstS ks D0)} (.slice KA ks.length kc)).set 7 (.int .i64 (sumS (secondS ks {D0 with give:=sumS (firstS ks D0)})))=sgV (sgn ks D0) (.slice KA ks.length kc):=rfl
 rw [hD2] at hB13
 refine TW.ldS rfl (fun j u hj=>Blk.subp hB13 0 (dcV (sgn ks D0)) _ rfl j u hj) ?_
 have q12:=f1.at_
 have e12:=f1.size
 have hR1:=f1.blk.next (b2.step (b3.step (f4.below.step (b46.step (b7.step b8)))))
 have s4:=(b2.step (b3.step f4.below)).size
 have hR10:=hbut10.blk hR1 (by omega)
 have hR13:=hbut13.blk (hR10.next b11) (by omega)
 refine TW.storeBlkF rfl rfl rfl hR13 sz63 rfl rfl rfl ?_
 rintro wr hBr hbutr hszr
 refine rnT ?_
 refine ret2CS Tryz.results82 Tryz.underlying63 (by exact sz63) rfl rfl hBr ⟨b13.grown hbutr b13.size (fun q hq=>by cases hq; omega),rfl⟩
theorem prove_c (hx:isLab x) (hy:isLab y) (hL:Blk w gl 9 [.string x,.string y]) (hls:SL strT (fun k=>k<w.heap.size) w (.slice (some ⟨gl,0,none⟩) 2 2) [x,y]) :
  Gives Tryz.prog 83 #[.slice (some ⟨gl,0,none⟩) 2 2,.int .i64 0] w fun u w'=>Below w.heap.size w w'∧ ∃A c,u= .tuple #[.agg #[.int .i64 0,.slice A 1 c],.int .i64 0]∧SL intT (fun k=>w.heap.size≤k∧k<w'.heap.size) w' (.slice A 1 c) [leafS y]:=by
 have hx2:=hx.2.1
 have hy2:=hy.2.1
 refine gv (f:=83) ?_
 refine rnT ?_
 refine TW.alloc rfl rfl zc65 ?_
 rintro g4 w1 f1
 refine rnT ?_
 refine TW.cl rfl (areCont_c (hls.below f1.below)) ?_
 rintro u w2 ⟨b2,rfl⟩
 have hcont:ContOK [x,y]:=⟨by simp,by simp,fun z hz=>by
  simp only [List.mem_cons,List.not_mem_nil,or_false] at hz
  rcases hz with rfl|rfl<;>assumption⟩
 rw [dec_pos hcont]
 have b02:=f1.below.step b2
 refine rnT ?_
 refine TW.callF (cap:= []) rfl rfl en137 rfl ct (Args.cons rfl id (Args.cons rfl id Args.nil)) (fun _=>below_c) ?_
 rintro w3 b3
 refine rnT ?_
 refine CW.pk [0,1,4,5,15] rfl ?_
 have b03:=b02.step b3
 refine CW.cond rfl (fun hz=> ?_) (fun hz=> ?_)
 ·exact absurd hz (by decide)
 refine rnT ?_
 refine TW.cl rfl (path_c (by omega) (by omega) (hL.next b03)) ?_
 rintro u w4 ⟨b4,A,c,rfl,hO4,hf4⟩
 have b04:=b03.step b4
 refine TW.build [0,1] _ [.int .i64 0,.slice A 1 c] rfl rfl rfl (Args.cons rfl ct (Args.cons rfl ct Args.nil)) (by kernel_rfl) ?_
 have q4:=f1.at_
 have e4:=f1.size
 have hR4:=f1.blk.next (b2.step (b3.step b4))
 refine TW.storeBlkF rfl rfl rfl hR4 sz65 rfl rfl rfl ?_
 rintro wr hBr hbutr hszr
 refine rnT ?_
 have s2:=b2.size
 have s3:=b3.size
 have hOr:OwnS wr 3 1 (.slice A 1 c) 1 [.int .i64 (leafS y)]:=hO4.kept fun q hq=>hbutr.block q (hO4.lt hq) (fun e=>by have:=hf4 q hq; cases e; omega)
 have s0:=b03.size
 have hI:SL intT (fun k=>w.heap.size≤k∧k<wr.heap.size) wr (.slice A 1 c) [leafS y]:=OwnS.toInts (l:= [leafS y]) hOr (fun z hz=>by rw [List.mem_singleton] at hz; subst hz; exact sum_i64 _) (fun q hq=>⟨by have:=hf4 q hq; omega,hOr.lt hq⟩) (by simp)
 refine ret2CS Tryz.results83 Tryz.underlying65 (by exact sz65) rfl rfl hBr ⟨b04.grown hbutr b04.size (fun q hq=>by cases hq; omega),A,c,rfl,hI⟩
end Go.Proofs.YtobaafdejnimkaaGreatDoor
namespace Go.Proofs.YtobaafdejnimkaaGreatDoor
open Go.PF Go.RowKit Go.Ord
theorem i64_small {x:Int} (h0: -1000000≤x) (h1:x≤1000000):I64 x:=⟨by show (-9223372036854775808:Int)≤x; omega,by show x≤9223372036854775807; omega⟩
theorem lit_int {w:World} {g:Nat} {t:TypeId} {n:Nat} (l:List Int) (h:Blk w g t (l.map (Value.int .i64))) (hn:n=l.length) (hI: ∀x∈l,-1000000≤x∧x≤1000000) (hs:l.length≤1000000):SI w (.slice (some ⟨g,0,none⟩) n n) l:=by
 subst hn
 exact OwnS.toInts (OwnS.of_blk h (by simp) (by omega)) (fun x hx=>i64_small (hI x hx).1 (hI x hx).2) (fun q hq=>by simp [Value.ownBlock] at hq; subst hq; exact h.lt) (by omega)
theorem lit_rows {w:World} {g:Nat} {t:TypeId} {n:Nat} (ps:List (Value×List Int)) (h:Blk w g t (ps.map (·.1))) (hn:n=ps.length) (hp: ∀p∈ps,SI w p.1 p.2) (hs:ps.length≤1000000):SD w (.slice (some ⟨g,0,none⟩) n n) (ps.map (·.2)):=by
 subst hn
 have e1:(ps.map fun p=>(([p.1],p.2):List Value×List Int)).map (·.2)=ps.map (·.2):=by simp
 have e2:(ps.map fun p=>(([p.1],p.2):List Value×List Int)).flatMap (·.1)=ps.map (·.1):=by
  clear h hp hs e1
  induction ps with
  | nil=>rfl
  | cons p ps ih=>simp [ih]
 have:=OwnS.toSLp (T:=sliceT intT) (F:=fun k=>k<w.heap.size) (w:=w) (e:=t) (v:= .slice (some ⟨g,0,none⟩) ps.length ps.length) (n:=ps.length) (ps.map fun p=>([p.1],p.2)) (fun p hp'=>by
  obtain ⟨q,hq,rfl⟩:=List.mem_map.1 hp'
  exact ⟨q.1,rfl,hp q hq⟩) (by show 0<1; decide) (by rw [e2]; exact OwnS.of_blk h (by show (ps.map (·.1)).length=ps.length*1; simp) (by omega)) (by simp) (fun q hq=>by simp [Value.ownBlock] at hq; subst hq; exact h.lt) (by simp; omega)
 rw [e1] at this
 exact this
end Go.Proofs.YtobaafdejnimkaaGreatDoor
namespace Go.Proofs.YtobaafdejnimkaaGreatDoor
open Go.PF Go.RowKit Go.Ord
attribute [local irreducible] TW CW KW DW
variable {w:World} {t:Int}
theorem litP {α:Type} {T:Ty α} {g:Nat} {t:TypeId} {n:Nat} (h0:0<T.n) (ps:List (List Value×α)) (h:Blk w g t (ps.flatMap (·.1))) (hn:n=ps.length) (hp: ∀p∈ps,T.rep (fun k=>k<w.heap.size) w p.1 p.2) (hs:ps.length≤1000000):SL T (fun k=>k<w.heap.size) w (.slice (some ⟨g,0,none⟩) n n) (ps.map (·.2)):=by
 subst hn
 exact OwnS.toSLp (T:=T) (F:=fun k=>k<w.heap.size) (w:=w) (e:=t) (v:= .slice (some ⟨g,0,none⟩) ps.length ps.length) (n:=ps.length) ps hp h0 (OwnS.of_blk h (flat_len (fun p:List Value×α=>p.1) T.n ps (fun p hp'=>T.len _ _ _ _ (hp p hp'))) (by omega)) rfl (fun q hq=>by simp [Value.ownBlock] at hq; subst hq; exact h.lt) (by omega)
theorem s1 (n:UInt8):(bya n).size≤9223372036854775807:=by show 1≤_; decide
theorem example_c:Gives Tryz.prog 29 #[] w fun u w'=>Below w.heap.size w w'∧ ∃v:NV,u= .agg v.cells.toArray∧NetAt w' v N0:=by
 refine gv (f:=29) ?_
 refine rnT ?_
 refine TW.alloc rfl rfl zc29 ?_
 rintro g0 w0 f0
 refine rnT ?_
 refine TW.buildSlice 4 _ rfl rfl rfl eo134 (Args.cons rfl ct (Args.cons rfl ct (Args.cons rfl ct (Args.cons rfl ct (Args.cons rfl ct (Args.cons rfl ct (Args.cons rfl ct Args.nil))))))) rfl rfl rfl rfl rfl ?_
 rintro gw wA fA
 refine TW.build [1] _ [.int .i64 0,.slice (some ⟨gw,0,none⟩) 7 7,.slice none 0 0] rfl rfl rfl (Args.cons rfl ct Args.nil) (by kernel_rfl) ?_
 refine TW.newVar rfl zc136 rfl sz136 rfl rfl ?_
 rintro g1 w1 f1
 refine rnT ?_
 refine TW.build [0,3,4,5] _ [.string (bya 97),.int .i64 0,.int .i64 0,.int .i64 8,.int .i64 2,.int .i64 10,.slice none 0 0] rfl rfl rfl (Args.cons rfl ct (Args.cons rfl ct (Args.cons rfl ct (Args.cons rfl ct Args.nil)))) (by kernel_rfl) ?_
 refine TW.newVar rfl zc110 rfl sz110 rfl rfl ?_
 rintro g2 w2 f2
 refine rnT ?_
 refine TW.ldS rfl (fun _ _ hv=>f2.blk.fld hv) ?_
 refine TW.newVar rfl zc110 rfl sz110 rfl rfl ?_
 rintro g3 w3 f3
 refine rnT ?_
 refine TW.storeFld (j:=0) rfl sz9 rfl rfl f3.blk (by show 0<7; decide) rfl ?_
 rintro w4' hB4' hbut4' hsz4'
 refine rnT ?_
 refine TW.storeFld (j:=1) rfl sz3 rfl rfl hB4' (by show 1<7; decide) rfl ?_
 rintro w4 hB4 hbut4'' hsz4''
 refine rnT ?_
 have hbut4:But g3 w3 w4:=hbut4'.trans hbut4''
 have hsz4:w4.heap.size=w3.heap.size:=by omega
 have q0:=f0.at_
 have q0':=f0.size
 have q3:=f3.at_
 have q3':=f3.size
 have b03:Below w.heap.size w w3:=f0.below.step (fA.below.step (f1.below.step (f2.below.step f3.below)))
 have b13:=f1.below.step (f2.below.step f3.below)
 have k4: ∀ {g:Nat} {t:TypeId} {cs:List Value},Blk w3 g t cs→g≠g3→Blk w4 g t cs:=fun h hne=>hbut4.blk h hne
 have sA:=fA.below.size
 have s1':=f1.below.size
 have s2':=f2.below.size
 have hBw:Blk w4 gw 4 [.bool true,.bool true,.bool true,.bool true,.bool true,.bool false,.bool false]:=k4 (fA.blk.next b13) (by have:=fA.blk.lt; omega)
 have hB1:=k4 (f1.blk.next (f2.below.step f3.below)) (by have:=f1.blk.lt; omega)
 have hB2:=k4 (f2.blk.next f3.below) (by have:=f2.blk.lt; omega)
 have hB0:=k4 (f0.blk.next (fA.below.step b13)) (by have:=f0.blk.lt; omega)
 have hb4:Below w.heap.size w w4:=b03.grown hbut4 b03.size (fun q hq=>by cases hq; omega)
 refine TW.ldS rfl (fun _ _ hv=>hB1.fld hv) ?_
 refine TW.buildSlice 136 _ rfl rfl rfl eo22 (Args.cons rfl ct Args.nil) rfl rfl rfl rfl rfl ?_
 rintro g5 w5 f5
 refine TW.buildSlice 9 _ rfl rfl rfl eo23 (Args.cons rfl ct Args.nil) rfl rfl rfl rfl rfl ?_
 rintro g6 w6 f6
 refine TW.build [0] _ [.string (bya 112)] rfl rfl rfl (Args.cons rfl ct Args.nil) (by kernel_rfl) ?_
 refine TW.build [0] _ [.string (bya 113)] rfl rfl rfl (Args.cons rfl ct Args.nil) (by kernel_rfl) ?_
 refine TW.buildSlice 138 _ rfl rfl rfl eo24 (Args.cons rfl ct (Args.cons rfl ct Args.nil)) rfl rfl rfl rfl rfl ?_
 rintro g7 w7 f7
 have b47:=f5.below.step (f6.below.step f7.below)
 refine TW.ldS rfl (fun _ _ hv=>(hB2.next b47).fld hv) ?_
 refine TW.ldS rfl (fun _ _ hv=>(hB4.next b47).fld hv) ?_
 refine TW.buildSlice 110 _ rfl rfl rfl eo25 (Args.cons rfl ct (Args.cons rfl ct Args.nil)) rfl rfl rfl rfl rfl ?_
 rintro g8 w8 f8
 refine TW.build [0,2,4,5] _ (liV liX) rfl rfl rfl (Args.cons rfl ct (Args.cons rfl ct (Args.cons rfl ct (Args.cons rfl ct Args.nil)))) (by kernel_rfl) ?_
 refine TW.build [0,1,4,5] _ (liV liY) rfl rfl rfl (Args.cons rfl ct (Args.cons rfl ct (Args.cons rfl ct (Args.cons rfl ct Args.nil)))) (by kernel_rfl) ?_
 refine TW.buildSlice 113 _ rfl rfl rfl eo26 (Args.cons rfl ct (Args.cons rfl ct Args.nil)) rfl rfl rfl rfl rfl ?_
 rintro g9 w9 f9
 refine TW.build [0,1,2,3,4] _ [.slice (some ⟨g5,0,none⟩) 1 1,.slice (some ⟨g6,0,none⟩) 1 1,.slice (some ⟨g7,0,none⟩) 2 2,.slice (some ⟨g8,0,none⟩) 2 2,.slice (some ⟨g9,0,none⟩) 2 2,.slice none 0 0] rfl rfl rfl (Args.cons rfl ct (Args.cons rfl ct (Args.cons rfl ct (Args.cons rfl ct (Args.cons rfl ct Args.nil))))) (by kernel_rfl) ?_
 have b49:=b47.step (f8.below.step f9.below)
 have b59:=f6.below.step (f7.below.step (f8.below.step f9.below))
 refine TW.storeBlkF rfl rfl rfl (hB0.next b49) sz29 rfl rfl rfl ?_
 rintro w10 hB10 hbut10 hsz10
 refine rnT ?_
 have hlt4:=hB0.lt
 have s49:=b49.size
 have e5:=f5.blk.lt
 have n: ∀ {g:Nat} {t:TypeId} {cs:List Value},Blk w9 g t cs→w4.heap.size≤g→Blk w10 g t cs:=fun h hne=>Blk.keptO h hbut10 (fun e=>by cases e; omega)
 have a5:=f5.at_
 have a6:=f6.at_
 have a7:=f7.at_
 have a8:=f8.at_
 have a9:=f9.at_
 have z5:=f5.below.size
 have z6:=f6.below.size
 have z7:=f7.below.size
 have z8:=f8.below.size
 have c5:=n (f5.blk.next b59) (by omega)
 have c6:=n (f6.blk.next (f7.below.step (f8.below.step f9.below))) (by omega)
 have c7:=n (f7.blk.next (f8.below.step f9.below)) (by omega)
 have c8:=n (f8.blk.next f9.below) (by omega)
 have c9:=n f9.blk (by omega)
 have hw10:Blk w10 gw 4 [.bool true,.bool true,.bool true,.bool true,.bool true,.bool false,.bool false]:=Blk.keptO (hBw.next b49) hbut10 (fun e=>by cases e; have:=fA.at_; omega)
 have hI: ∀x:Int,-1000000≤x→x≤1000000→I64 x:=fun x=>i64_small
 refine retCS Tryz.results29 Tryz.underlying29 (by exact sz29) rfl (hB10) (⟨(hb4.step b49).grown hbut10 (hb4.step b49).size (fun q hq=>by cases hq; omega),⟨.slice (some ⟨g5,0,none⟩) 1 1,.slice (some ⟨g6,0,none⟩) 1 1,.slice (some ⟨g7,0,none⟩) 2 2,.slice (some ⟨g8,0,none⟩) 2 2,.slice (some ⟨g9,0,none⟩) 2 2,.slice none 0 0⟩,rfl,?_⟩)
 have hwk:SL boolT (fun k=>k<w10.heap.size) w10 (.slice (some ⟨gw,0,none⟩) 7 7) [true,true,true,true,true,false,false]:=litP (T:=boolT) (by decide) [([.bool true],true),([.bool true],true),([.bool true],true),([.bool true],true),([.bool true],true),([.bool false],false),([.bool false],false)] hw10 rfl (fun p hp=>by
  simp only [List.mem_cons,List.not_mem_nil,or_false] at hp
  rcases hp with rfl|rfl|rfl|rfl|rfl|rfl|rfl<;>rfl) (by simp)
 refine ⟨?_,?_,?_,?_,?_,SL.nil _ _ _⟩
 ·exact litP (T:=calT) (by decide) [([.int .i64 0,.slice (some ⟨gw,0,none⟩) 7 7,.slice none 0 0],⟨0,[true,true,true,true,true,false,false],[]⟩)] c5 rfl (fun p hp=>by
   rw [List.mem_singleton] at hp
   subst hp
   exact ⟨_,_,rfl,hI 0 (by omega) (by omega),hwk,SL.nil _ _ _⟩) (by simp)
 ·exact litP (T:=strT) (by decide) [([.string (bya 99)],bya 99)] c6 rfl (fun p hp=>by
   rw [List.mem_singleton] at hp
   subst hp
   exact ⟨rfl,s1 _⟩) (by simp)
 ·exact litP (T:=strT) (by decide) [([.string (bya 112)],bya 112),([.string (bya 113)],bya 113)] c7 rfl (fun p hp=>by
   simp only [List.mem_cons,List.not_mem_nil,or_false] at hp
   rcases hp with rfl|rfl<;>exact ⟨rfl,s1 _⟩) (by simp)
 ·exact litP (T:=ofT) (by decide) [([.string (bya 97),.int .i64 0,.int .i64 0,.int .i64 8,.int .i64 2,.int .i64 10,.slice none 0 0],ofA),([.string (bya 98),.int .i64 1,.int .i64 0,.int .i64 8,.int .i64 2,.int .i64 10,.slice none 0 0],ofB)] c8 rfl (fun p hp=>by
   simp only [List.mem_cons,List.not_mem_nil,or_false] at hp
   rcases hp with rfl|rfl<;>exact ⟨_,rfl,s1 _,hI _ (by decide) (by decide),hI 0 (by omega) (by omega),hI 8 (by omega) (by omega),hI 2 (by omega) (by omega),hI 10 (by omega) (by omega),SL.nil _ _ _⟩) (by simp)
 ·exact litP (T:=liT) (by decide) [(liV liX,liX),(liV liY,liY)] c9 rfl (fun p hp=>by
   simp only [List.mem_cons,List.not_mem_nil,or_false] at hp
   rcases hp with rfl|rfl
   ·exact ⟨rfl,s1 _,hI 0 (by omega) (by omega),hI 1 (by omega) (by omega),hI 0 (by omega) (by omega),hI 60 (by omega) (by omega),hI 1 (by omega) (by omega)⟩
   ·exact ⟨rfl,s1 _,hI 1 (by omega) (by omega),hI 0 (by omega) (by omega),hI 0 (by omega) (by omega),hI 60 (by omega) (by omega),hI 1 (by omega) (by omega)⟩) (by simp)
def sealB:ByteArray:=⟨#[67,48,46,49,50,48]⟩
theorem lab1 {n:UInt8} (h1:65≤n.toNat) (h2:n.toNat≤90):isLab (bya n):=by
 refine ⟨by show (1:Nat)≤1; decide,by show (1:Nat)≤20; decide,fun i hi=> ?_⟩
 have hsz:(bya n).size=1:=rfl
 have:i=0:=by omega
 subst this
 exact .inl ⟨h1,h2⟩
theorem labC:isLab sealB:=by
 refine ⟨by decide,by decide,fun i hi=> ?_⟩
 have hsz:sealB.size=6:=rfl
 have h6:i=0∨i=1∨i=2∨i=3∨i=4∨i=5:=by omega
 rcases h6 with rfl|rfl|rfl|rfl|rfl|rfl
 ·exact .inl ⟨by decide,by decide⟩
 ·exact .inr (.inl ⟨by decide,by decide⟩)
 ·exact .inr (.inr (by decide))
 ·exact .inr (.inl ⟨by decide,by decide⟩)
 ·exact .inr (.inl ⟨by decide,by decide⟩)
 ·exact .inr (.inl ⟨by decide,by decide⟩)
def docS (t:Int):Dc:=⟨sealB,0,1,t,2,sumS [1,leafS (bya 65),leafS (bya 66)],0,0⟩
def papS (t:Int):Pp:=⟨sgn [5,9] (docS t),bya 65,0,[leafS (bya 66)]⟩
theorem keys59:KeysOK [5,9]:=⟨by decide,by decide,by decide⟩
theorem docS_ok (h0:0≤t) (h1:t≤1000000):DocOK [5,9] (docS t):=⟨keys59,labC,by show (0:Int)≤0; decide,by show (0:Int)<((2:Nat):Int); decide,by show (0:Int)≤1; decide,by show (1:Int)<((2:Nat):Int); decide,h0,h1,by show (1:Int)≤2; decide,by show (2:Int)≤40; decide,sumS_rng _,by show remOK 0; decide,by show remOK 0; decide⟩
theorem papS_ver (h0:0≤t) (h1:t≤1000000):verS [5,9] (papS t)=0:=by
 have hb:=sumS_rng [0,labS (bya 66)]
 have hr:ProofOK (papS t):=by
  refine ⟨⟨Int.le_refl _,by show (1:Nat)≤20; decide,fun x hx=> ?_⟩,?_⟩
  ·have hx:x∈ [leafS (bya 66)]:=hx
   rw [List.mem_singleton] at hx
   subst hx
   unfold leafS
   omega
  ·show climbS (leafS (bya 65)) 0 [leafS (bya 66)]=sumS [1,leafS (bya 65),leafS (bya 66)]
   unfold climbS climbS
   rw [if_neg (by unfold leafS; omega),if_neg (by decide)]
 have h2:DocOK [5,9] (papS t).doc:=sgn_ok (docS_ok h0 h1)
 have h3:SignOK [5,9] (papS t).doc:=sgn_sign _ _
 have h4:PlaceOK (papS t):=⟨lab1 (by decide) (by decide),Int.le_refl _,by show (0:Int)<2; decide⟩
 rw [←ver_err,dec_pos h2,dec_pos h3,dec_pos h4,dec_pos hr]
 rfl
theorem lit_ab {g:Nat} {t:TypeId} (h:Blk w g t [.string (bya 65),.string (bya 66)]):SL strT (fun k=>k<w.heap.size) w (.slice (some ⟨g,0,none⟩) 2 2) [bya 65,bya 66]:=litP (T:=strT) (by decide) [([.string (bya 65)],bya 65),([.string (bya 66)],bya 66)] h rfl (fun p hp=>by
 simp only [List.mem_cons,List.not_mem_nil,or_false] at hp
 rcases hp with rfl|rfl<;>exact ⟨rfl,s1 _⟩) (by simp)
theorem paper_c (h0:0≤t) (h1:t≤1000000):Gives Tryz.prog 32 #[.int .i64 t] w fun u w'=>Below w.heap.size w w'∧ ∃PA pc,u= .agg (ppV (papS t) (.slice PA 1 pc)).toArray∧SI w' (.slice PA 1 pc) [leafS (bya 66)]:=by
 refine gv (f:=32) ?_
 refine rnT ?_
 refine TW.alloc rfl rfl zc67 ?_
 rintro g2 w1 f1
 refine rnT ?_
 refine TW.buildSlice 3 _ rfl rfl rfl eo32 (Args.cons rfl ct (Args.cons rfl ct Args.nil)) rfl rfl rfl rfl rfl ?_
 rintro g8 w2 f2
 refine rnT ?_
 refine TW.buildSlice 9 _ rfl rfl rfl eo23 (Args.cons rfl ct (Args.cons rfl ct Args.nil)) rfl rfl rfl rfl rfl ?_
 rintro g10 w3 f3
 have hk:SI w3 (.slice (some ⟨g8,0,none⟩) 2 2) [5,9]:=lit_int _ (f2.blk.next f3.below) rfl (by decide) (by decide)
 refine TW.cl rfl (hwrite_c (x:=bya 65) (y:=bya 66) hk (lab1 (by decide) (by decide)) (lab1 (by decide) (by decide)) f3.blk (lit_ab f3.blk) (docS_ok h0 h1)) ?_
 rintro u w4 ⟨b4,rfl⟩
 refine rnT ?_
 refine TW.newVar rfl zc63 rfl sz63 rfl rfl ?_
 rintro g3 w5 f5
 refine rnT ?_
 refine TW.buildSlice 9 _ rfl rfl rfl eo23 (Args.cons rfl ct (Args.cons rfl ct Args.nil)) rfl rfl rfl rfl rfl ?_
 rintro g15 w6 f6
 refine TW.cl rfl (prove_c (x:=bya 65) (y:=bya 66) (lab1 (by decide) (by decide)) (lab1 (by decide) (by decide)) f6.blk (lit_ab f6.blk)) ?_
 rintro u w7 ⟨b7,PA,pc,rfl,hp7⟩
 refine rnT ?_
 refine TW.newVar rfl zc65 rfl sz65 rfl rfl ?_
 rintro g5 w8 f8
 refine rnT ?_
 refine TW.pk [0,2,3,5] rfl ?_
 have b68:=b7.step f8.below
 have hD8:=f5.blk.next (f6.below.step b68)
 have b18:=f2.below.step (f3.below.step (b4.step (f5.below.step (f6.below.step b68))))
 have hR8:=f1.blk.next b18
 have b08:=f1.below.step b18
 have q1:=f1.at_
 have e1:=f1.size
 refine TW.ldS rfl (fun _ _ hv=>hD8.fld hv) ?_
 refine TW.ldS rfl (fun _ _ hv=>f8.blk.fld hv) ?_
 refine TW.build [0,1,2] _ (ppV (papS t) (.slice PA 1 pc)) rfl rfl rfl (Args.cons rfl ct (Args.cons rfl ct (Args.cons rfl ct Args.nil))) (by kernel_rfl) ?_
 refine TW.storeBlkF rfl rfl rfl hR8 sz67 rfl rfl rfl ?_
 rintro wr hBr hbutr hszr
 refine rnT ?_
 refine retCS Tryz.results32 Tryz.underlying67 (by exact sz67) rfl (hBr) (⟨b08.grown hbutr b08.size (fun q hq=>by cases hq; omega),PA,pc,rfl,?_⟩)
 have hp8:=hp7.below f8.below
 have s16:=(f2.below.step (f3.below.step (b4.step (f5.below.step f6.below)))).size
 have s8:=f8.below.size
 exact (hp8.mono (Kept.of_blocks fun k hk hlt=>hbutr.block k hlt (fun e=>by cases e; omega))).wider fun k hk=>by have:=hbutr.size; omega
def clm (due:Int):Cl:=⟨bya 65,0,1,0,100,due,10⟩
theorem clm_ok {due:Int} (h:100≤due) (h1:due≤1000000):ClOK N0 (clm due):=⟨by show (0:Int)≤0; decide,by show (0:Int)<((2:Nat):Int); decide,by show (0:Int)≤1; decide,by show (1:Int)<((2:Nat):Int); decide,by show (0:Int)≤100; decide,h,h1,by show (1:Int)≤10; decide,by show (10:Int)≤1000000; decide⟩
theorem dec_one {ps:List Pp} (hps:ps.length≤100):decS N0 d0 ev1 [[]] [5,9] ps (clm 150)=((1,if dec (Exc [5,9] ps (bya 65) 0 150)=true then -1 else 0),0):=by
 unfold decS
 rw [dec_pos (⟨sound0,fit1,rfl,clm_ok (by decide) (by decide)⟩:DecOK N0 d0 ev1 ([[]]:List (List Int)).length (clm 150)),if_neg (by simp),if_neg (by omega),if_neg (by simp)]
 unfold rulS
 rw [show reachS d0 ev1 [[]] (clm 150).to (clm 150).acc (clm 150).due=false from r150,if_pos rfl]
 show ((1,liabS (holdS N0 d0 ev1 [[]] 150) [5,9] ps (bya 65) 150),0)=_
 rw [h150]
 rfl
theorem exc_nil:dec (Exc [5,9] [] (bya 65) 0 150)=false:=dec_neg fun h=>by
 obtain ⟨p,hp,_⟩:=h.2
 cases hp
theorem exc_early {lab:ByteArray}:dec (Exc [5,9] [papS 140] lab 0 t)=dec (bya 65=lab∧140≤t):=dec_congr ⟨fun h=>by
 obtain ⟨p,hp,hf⟩:=h.2
 rw [List.mem_singleton] at hp
 subst hp
 exact ⟨hf.1,hf.2.2.2.1⟩,fun ⟨h1,h2⟩=>⟨by simp,papS 140,by simp,h1,rfl,by show (1:Int)≠0; decide,h2,papS_ver (by decide) (by decide)⟩⟩
theorem exc_late:dec (Exc [5,9] [papS 160] (bya 65) 0 150)=false:=dec_neg fun h=>by
 obtain ⟨p,hp,hf⟩:=h.2
 rw [List.mem_singleton] at hp
 subst hp
 have:(160:Int)≤150:=hf.2.2.2.1
 omega
theorem dec_open:decS N0 d0 ev1 [[]] [5,9] [] (clm 160)=((0,-1),0):=by
 unfold decS
 rw [dec_pos (⟨sound0,fit1,rfl,clm_ok (by decide) (by decide)⟩:DecOK N0 d0 ev1 ([[]]:List (List Int)).length (clm 160)),if_neg (by simp),if_neg (by simp),if_neg (by simp)]
 unfold rulS
 rw [show reachS d0 ev1 [[]] (clm 160).to (clm 160).acc (clm 160).due=true from r160,if_neg (by simp),show seenS ev1 [[]] (clm 160).to (clm 160).due=false from se1,if_neg (by simp)]
theorem dec_denied:decS N0 d0 ev2 [[]] [5,9] [] (clm 160)=((2,-1),0):=by
 unfold decS
 rw [dec_pos (⟨sound0,fit2,rfl,clm_ok (by decide) (by decide)⟩:DecOK N0 d0 ev2 ([[]]:List (List Int)).length (clm 160)),if_neg (by simp),if_neg (by simp),if_neg (by simp)]
 unfold rulS
 rw [show reachS d0 ev2 [[]] (clm 160).to (clm 160).acc (clm 160).due=true from q160,if_neg (by simp),show seenS ev2 [[]] (clm 160).to (clm 160).due=true from se2,if_pos rfl]
def clm0:Cl:=⟨⟨#[]⟩,0,1,0,0,0,1⟩
theorem dec_empty:decS N0 d0 ev1 [] [] [] clm0=((0,0),280):=by
 have h:DecOK N0 d0 ev1 ([]:List (List Int)).length clm0:=⟨sound0,⟨fit1.few,by decide,wfd0,fit1.each⟩,rfl,⟨by show (0:Int)≤0; decide,by show (0:Int)<((2:Nat):Int); decide,by show (0:Int)≤1; decide,by show (1:Int)<((2:Nat):Int); decide,by show (0:Int)≤0; decide,by show (0:Int)≤0; decide,by show (0:Int)≤1000000; decide,by show (1:Int)≤1; decide,by show (1:Int)≤1000000; decide⟩⟩
 unfold decS
 rw [dec_pos h,if_neg (by simp),if_neg (by simp),if_pos rfl]
theorem dist35_c {v:NV} (ht:Tabs w) (hN:NetAt w v N0):Gives Tryz.prog 30 #[.agg v.cells.toArray] w fun u w'=>Below w.heap.size w w'∧SD w' u d0:=(dist_c ht hN sound0.cons).mono fun u w' ⟨h1,h2⟩=>⟨h1,by rw [show N0.offs.length=2 from rfl,dist0] at h2; exact h2⟩
theorem ldecide_c {lv psv:Value} {l:List Ev} {ps:List Pp} {due st op:Int} (ht:Tabs w) (hl:SE w lv l) (hps:SPp w psv ps) (hne: ∀e∈l,e.needs.length≤1000000) (hdue:I64 due) (hdec:decS N0 d0 l [[]] [5,9] ps (clm due)=((st,op),0)) :
  Gives Tryz.prog 31 #[lv,psv,.int .i64 due] w fun u w'=>Below w.heap.size w w'∧u= .agg #[.int .i64 st,.int .i64 op]:=by
 refine gv (f:=31) ?_
 refine rnT ?_
 refine TW.alloc rfl rfl zc42 ?_
 rintro g6 w1 f1
 refine rnT ?_
 refine TW.cl rfl (example_c) ?_
 rintro y w2 ⟨b2,v,rfl,hN2⟩
 have hone:(v.cells.all fun x=>x.oneCell')=true:=by
  obtain ⟨⟨A1,c1,e1⟩,⟨A2,c2,e2⟩,⟨A3,c3,e3⟩,⟨A4,c4,e4⟩,⟨A5,c5,e5⟩,⟨A6,c6,e6⟩⟩:=NetIn.form hN2
  simp only [NV.cells,e1,e2,e3,e4,e5,e6]
  rfl
 refine TW.newVar rfl zc29 rfl sz29 rfl hone ?_
 rintro g7 w3 f3
 refine rnT ?_
 refine CW.drawPlus [13] 15 mixed (by kernel_rfl) (fun _ _ d _ _ h=>by cases d<;>exact h) fun W5 hW5=> ?_
 refine RW.draw .weak 15 (by kernel_rfl) (by kernel_rfl) rfl rfl hW5 ?_
 have b03:=f1.below.step (b2.step f3.below)
 have hN3:=net_step hN2 f3.below
 have hB3:=f3.blk
 refine DW.ldS rfl (fun _ _ hv=>hB3.fld hv) ?_
 refine DW.ldS rfl (fun _ _ hv=>hB3.fld hv) ?_
 refine DW.cl (.pr (fun u W=>SD W u d0)) ?_ rfl (fun _ w' hb'=>dist35_c (ht.below (b03.step hb')) (net_step hN3 hb')) ?_
 ·exact fun _ _ _ hb h=>sd_step h hb
 refine rnD ?_
 refine DW.buildSlice 32 _ rfl rfl rfl eo30 (DArgs.cons rfl ct DArgs.nil) rfl rfl rfl rfl rfl ?_
 refine DW.buildSlice 3 _ rfl rfl rfl eo32 (DArgs.cons rfl ct (DArgs.cons rfl ct DArgs.nil)) rfl rfl rfl rfl rfl ?_
 refine rnD ?_
 refine DW.build [0,2,4] _ [.string (bya 65),.int .i64 0,.int .i64 1,.int .i64 0,.int .i64 100] rfl rfl rfl rfl (DArgs.cons rfl ct (DArgs.cons rfl ct (DArgs.cons rfl ct DArgs.nil))) (by kernel_rfl) ?_
 refine rnD ?_
 refine DW.build [0,1,2] _ (clV (clm due)) rfl rfl rfl rfl (DArgs.cons rfl ct (DArgs.cons rfl ct (DArgs.cons rfl ct DArgs.nil))) (by kernel_rfl) ?_
 refine DW.callP (.ex (.tuple #[.agg #[.int .i64 st,.int .i64 op],.int .i64 0])) (trivial) rfl rfl en13 rfl ct (PArgs.cons rfl ct (PArgs.cons rfl ct (PArgs.cons rfl ct (PArgs.cons rfl ct (PArgs.cons rfl ct (PArgs.cons rfl ct (PArgs.cons rfl ct PArgs.nil))))))) (fun _ w' hb' vs hs=> ?_) ?_
 ·obtain ⟨_,u,_,z1,z2,_,_,rfl,rfl,hu,rfl,⟨g1,rfl,hB1⟩,⟨g2,rfl,hB2⟩,rfl,rfl⟩:=Sats.seven hs
  have hu:SD w' u d0:=hu
  have b0':=b03.step hb'
  have hS:SD w' (.slice (some ⟨g1,0,none⟩) 1 1) [[]]:=lit_rows [(.slice none 0 0,[])] hB1 rfl (by simp; exact SL.nil _ _ _) (by simp)
  have hk:SI w' (.slice (some ⟨g2,0,none⟩) 2 2) [5,9]:=lit_int _ hB2 rfl (by decide) (by decide)
  refine (decide_c (c:=clm due) (ht.below b0') (net_step hN3 hb') hu (se_step hl b0') hS hk (spp_step hps b0') hne ⟨low_i64 (x:=0) (by decide),low_i64 (x:=1) (by decide),low_i64 (x:=0) (by decide),low_i64 (x:=100) (by decide),hdue,low_i64 (x:=10) (by decide)⟩).mono fun x w'' ⟨h1,h2⟩=>⟨h1,?_⟩
  rw [hdec] at h2
  exact h2
 refine rnD ?_
 refine DW.allocP rfl zc42 ?_
 refine DW.nil (DW.finX [0,1,2,6,7,23,24] [(0,_,_),(1,_,_),(2,_,_),(6,_,_),(7,_,_),(23,_,_),(24,_,_)] rfl [8] rfl fun vs w5 b5 hs5=>KW.rk' ?_)
 obtain ⟨v8,rfl,h8⟩:=Sats.one hs5
 obtain ⟨g8,rfl,hg8,hB8⟩:=h8
 refine RW.one (by kernel_rfl) (by kernel_rfl) rfl ?_
 refine TW.storeBlkF rfl rfl rfl hB8 sz42 rfl rfl rfl ?_
 rintro w6 hB6 hbut6 hsz6
 refine TW.nil (KW.pick [0,1,2,6,7,8,24] [(0,_,_),(1,_,_),(2,_,_),(6,_,_),(7,_,_),(8,_,_),(24,_,_)] rfl (KW.rk ?_))
 refine RW.one (by kernel_rfl) (by kernel_rfl) rfl ?_
 refine TW.v V.assign rfl ⟨ct,trivial⟩ (fun _=>trivial) ?_
 refine TW.nil (KW.pick [0,1,2,6,7,8,9] [(0,_,_),(1,_,_),(2,_,_),(6,_,_),(7,_,_),(8,_,_),(9,_,_)] rfl (KW.rk ?_))
 refine RW.end rfl (KW.pick [0,1,2,6,7,8,9] [(0,_,_),(1,_,_),(2,_,_),(6,_,_),(7,_,_),(8,_,_),(9,_,_)] rfl (KW.then_ ?_))
 refine rnT ?_
 refine CW.pk [0,1,2,6,7,8,9,26] rfl ?_
 have q1:=f1.at_
 have e1:=f1.size
 have s3:=(b2.step f3.below).size
 have s0:=b03.size
 have s5:=b5.size
 have hR5:=f1.blk.next ((b2.step f3.below).step b5)
 have hR6:=Blk.keptO hR5 hbut6 (fun e=>by cases e; omega)
 have b05:=b03.step b5
 have b06:Below w.heap.size w w6:=b05.grown hbut6 b05.size (fun q hq=>by cases hq; omega)
 refine CW.condP rfl (fun hz=> ?_) (fun hz=> ?_)
 ·exact absurd hz (by decide)
 refine rnT ?_
 refine TW.ldS rfl (fun _ _ hv=>hB6.fld hv) ?_
 refine TW.storeBlkF rfl rfl rfl hR6 sz42 rfl rfl rfl ?_
 rintro wr hBr hbutr hszr
 refine rnT ?_
 refine retCS Tryz.results31 Tryz.underlying42 (by exact sz42) rfl (hBr) (⟨b06.grown hbutr b06.size (fun q hq=>by cases hq; omega),rfl⟩)
end Go.Proofs.YtobaafdejnimkaaGreatDoor
