/- Texts of this claim,joined. -/
import Derived.Test.YtobaafdejnimkaaGreatDoorQS
set_option linter.unusedSimpArgs false
set_option linter.unusedVariables false
set_option maxRecDepth 100000
set_option maxHeartbeats 4000000
namespace Go.Proofs.YtobaafdejnimkaaGreatDoor
open Go.PF Go.RowKit Go.Ord
attribute [local irreducible] TW CW KW DW
variable {N:Net} {d:Dist} {l:List Ev} {ks:List Int} {ps:List Pp} {c:Cl}
theorem dec_nil (h:DecOK N d l 0 c) (hp:ps.length≤100):decS N d l [] ks ps c=((0,0),280):=by
 unfold decS
 rw [show dec (DecOK N d l ([]:List (List Int)).length c)=true from dec_pos h,if_neg (by simp),if_neg (by omega),if_pos rfl]
theorem one_of {α:Type} {l:List α} {i:Nat} {x:α} (h:l[i]?=some x):(l.drop i).take 1= [x]:=by
 obtain ⟨hl,he⟩:=List.getElem?_eq_some_iff.1 h
 rw [List.drop_eq_getElem_cons hl,he]
 rfl
theorem rulings_law {w:World} {v:NV} {dv lv wv kv psv:Value} {ws:List (List Int)} (hN:NetAt w v N) (hd:SD w dv d) (hl:SE w lv l) (hS:SD w wv ws) (hk:SI w kv ks) (hps:SPp w psv ps) (hcI:ClI c) (ht:Tabs w) :
  Gives Tryz.prog 4 #[.agg v.cells.toArray,dv,lv,wv,kv,psv,.agg (clV c).toArray] w fun u w'=>Below w.heap.size w w'∧u= .bool true:=by
 obtain ⟨X,xcap,rfl,hxc⟩:=hS.form
 have hsm:=hS.len.2.2
 refine gv (f:=4) ?_
 refine rnT ?_
 refine TW.box rfl rfl rfl rfl ?_
 rintro g7 w1 f1
 refine TW.box rfl rfl rfl rfl ?_
 rintro g13 w2 f2
 refine rnT ?_
 have b2:=f1.below.step f2.below
 have hB2:=f1.blk.next f2.below
 have hC2:=f2.blk
 refine TW.cl rfl (head_c (ht.below b2)) ?_
 rintro y w3 ⟨c3,rfl⟩
 have b3:=b2.step c3
 refine rnT ?_
 refine TW.ldS rfl (fun _ _ hv=>(hB2.next c3).fld hv) ?_
 refine rnT ?_
 refine TW.ldS rfl (fun _ _ hv=>(hC2.next c3).fld hv) ?_
 refine TW.cl rfl (right_c (c:=c) (net_step hN b3) (sd_step hd b3) (se_step hl b3) (sd_step hS b3)) ?_
 rintro y w4 ⟨c4,rfl⟩
 have b4:=b3.step c4
 refine rnT ?_
 refine TW.callF (cap:= []) rfl rfl en12 rfl ct (Args.cons rfl id (Args.cons rfl id Args.nil)) (fun _=>rfew35_c (hk.below b4) (spp_step hps b4)) ?_
 rintro w5 c5
 refine rnT ?_
 have b5:=b4.step c5
 have c25:=c3.step (c4.step c5)
 refine CW.cond rfl (fun hbad=> ?_) (fun hgood=> ?_)
 ·refine rnT ?_
  refine rt1 rfl ⟨b5,rfl⟩
 have hg:RightP N d l ws c∧FewK ks ps:=by
  cases h1:dec (RightP N d l ws c) with
  | false=>rw [h1] at hgood; simp at hgood
  | true =>
   cases h2:dec (FewK ks ps) with
   | false=>rw [h1,h2] at hgood; simp at hgood
   | true=>exact ⟨dec_iff.1 h1,dec_iff.1 h2⟩
 obtain ⟨hR,hF⟩:=hg
 have hne:=hR.light.needs
 have hln:=hR.light.len
 have hp12:=hF.p
 have hB5:=hB2.next c25
 have hC5:=hC2.next c25
 refine rnT ?_
 refine TW.ldS rfl (fun _ _ hv=>hB5.fld hv) ?_
 refine rnT ?_
 refine TW.ldS rfl (fun _ _ hv=>hC5.fld hv) ?_
 refine TW.cl rfl (decide_c (ht.below b5) (net_step hN b5) (sd_step hd b5) (se_step hl b5) (sd_step hS b5) (hk.below b5) (spp_step hps b5) hne hcI) ?_
 rintro y w6 ⟨c6,rfl⟩
 have b6:=b5.step c6
 by_cases hw:ws= []
 ·have hl0:ws.length=0:=by rw [hw]; rfl
  rw [show decS N d l ws ks ps c=((0,0),280) by rw [hw]; exact dec_nil (by have:=hR.dec; rw [hl0] at this; exact this) (by omega)]
  refine rnT ?_
  refine TW.newVar rfl zc42 rfl sz42 rfl rfl ?_
  rintro g16 w7 f7
  refine rnT ?_
  refine CW.pk [0,1,2,3,4,5,6,7,13,14,15,16,17,49] rfl ?_
  refine CW.condP rfl (fun h1=> ?_) (fun h2=> ?_)
  ·refine rnT ?_
   refine TW.known rfl rfl ?_
   refine TW.ldS rfl (fun _ _ hv=>f7.blk.fld hv) ?_
   refine TW.known rfl rfl ?_
   refine TW.build [] _ [.int .i64 0,.int .i64 0] rfl rfl rfl Args.nil (by kernel_rfl) ?_
   refine TW.known rfl rfl ?_
   refine TW.eqlT rfl rfl rfl ct rfl ct (by kernel_rfl) ?_
   refine rnT ?_
   refine rt1 rfl ⟨b6.step f7.below,rfl⟩
  ·exact absurd (by rw [hl0]; rfl) h2
 ·rw [dec_of hR.dec (by omega) hw]
  have hl0:ws.length≠0:=fun e=>hw (List.eq_nil_of_length_eq_zero e)
  refine rnT ?_
  refine TW.newVar rfl zc42 rfl sz42 rfl rfl ?_
  rintro g16 w7 f7
  refine rnT ?_
  have b7:=b6.step f7.below
  have c57:=c6.step f7.below
  have hC7:=hC5.next c57
  refine CW.condP rfl (fun h1=> ?_) (fun h2=> ?_)
  ·exact absurd h1 (by omega)
  refine rnT ?_
  refine CW.lp [1,2,3,13,15,16,17] (fun i:Nat=> [(18,none,.bool ((ws.take i).any fun S=>reachS d l [S] c.to c.acc c.due)),(19,none,.int .i64 (i:Int))])
   (fun i W=>i≤ws.length∧Below w7.heap.size w7 W) (fun i=>ws.length-i) 0 ⟨Nat.zero_le _,Below.refl _ _⟩ ?_
  rintro i W ⟨hi,hB⟩
  have bW:=b7.step hB
  have hCW:=hC7.next hB
  refine rnT ?_
  refine CW.pk [1,2,3,13,15,16,17,18,19,63] rfl ?_
  refine CW.condP rfl (fun hlt=> ?_) (fun hge=> ?_)
  ·obtain ⟨S,hS1,hSm⟩:=getx (l:=ws) (k:=i) (by omega)
   obtain ⟨ad,rfl⟩:=hS.addr (by omega)
   have hsub: ∀W2,Below W.heap.size W W2→SD W2 (.slice (if xcap=(i:Int).toNat then some ad else (some ad).map (·.add ((i:Int).toNat*1))) (((i:Int)+1).toNat-(i:Int).toNat) (xcap-(i:Int).toNat)) [S]:=fun W2 hb=>by
    have q1:=SL.dropS (sd_step hS (bW.step hb)) (i:=i) (by omega)
    have q2:=SL.takeS q1 (i:=1) (by simp; omega)
    rw [one_of hS1] at q2
    rw [show (i:Int).toNat=i from Int.toNat_natCast i,show ((i:Int)+1).toNat-i=1 by omega]
    exact q2
   have hstep:((ws.take (i+1)).any fun S=>reachS d l [S] c.to c.acc c.due)=(((ws.take i).any fun S=>reachS d l [S] c.to c.acc c.due)||reachS d l [S] c.to c.acc c.due):=by
    rw [List.take_add_one,hS1,List.any_append]
    simp
   refine rnT ?_
   refine CW.draw mixed (by kernel_rfl) ?_
   refine rnD ?_
   refine DW.v V.sliceLH rfl ⟨id,id,id,trivial⟩ (fun h=>by (try dsimp only); first|omega|(simp [Cnd] at h; omega)) ?_
   refine rnD ?_
   refine DW.ld rfl (hCW.fld (j:=2) rfl) ?_
   refine rnD ?_
   refine DW.ld rfl (hCW.fld (j:=4) rfl) ?_
   refine rnD ?_
   refine DW.ld rfl (hCW.fld (j:=5) rfl) ?_
   refine DW.call (.ex (.bool (reachS d l [S] c.to c.acc c.due))) trivial rfl rfl en21 rfl ct (DArgs.cons rfl id (DArgs.cons rfl id (DArgs.cons rfl id (DArgs.cons rfl id (DArgs.cons rfl id (DArgs.cons rfl id DArgs.nil)))))) (fun _ w' hb'=>reach_c (sd_step hd (bW.step hb')) (se_step hl (bW.step hb')) (hsub w' hb') hne ⟨hcI.t,hcI.a,hcI.d⟩) ?_
   refine rnD ?_
   refine DW.fi [1,2,3,13,15,16,17,18,19] rfl fun w9 b9=> ?_
   refine rnT ?_
   refine KW.rd (i+1) ⟨by omega,hB.step b9⟩ (hp:= ?_)
   rw [hstep]
   rfl
  ·have hie:i=ws.length:=by omega
   subst hie
   rw [List.take_length,←reach_any hR.fit]
   refine rnT ?_
   refine TW.ld rfl (hCW.fld (j:=2) rfl) ?_
   refine rnT ?_
   refine TW.ld rfl (hCW.fld (j:=5) rfl) ?_
   refine TW.cl rfl (seen_c (se_step hl bW) (sd_step hS bW) (by omega) hne) ?_
   rintro y w10 ⟨c10,rfl⟩
   have hZ:=f7.blk.next (hB.step c10)
   refine TW.v V.assign rfl ⟨ct,trivial⟩ (fun _=>trivial) ?_
   refine TW.nil (KW.pick [1,2,3,13,15,16,17,18,19,20] [(1,_,_),(2,_,_),(3,_,_),(13,_,_),(15,_,_),(16,_,_),(17,_,_),(18,_,_),(19,_,_),(20,_,_)] rfl (KW.then_ ?_))
   refine CW.seq (CW.region ?_)
   refine TW.v V.move rfl ⟨ct,trivial⟩ (fun _=>trivial) ?_
   refine TW.v V.move rfl ⟨ct,trivial⟩ (fun _=>trivial) ?_
   refine TW.known rfl rfl ?_
   refine TW.v V.move rfl ⟨ct,trivial⟩ (fun _=>trivial) ?_
   refine TW.known rfl rfl ?_
   refine TW.v V.eql rfl ⟨ct,ct,trivial⟩ (fun _=>trivial) ?_
   refine TW.pickAnd rfl rfl rfl ct rfl pT ?_
   refine TW.v V.move rfl ⟨ct,trivial⟩ (fun _=>trivial) ?_
   refine TW.known rfl rfl ?_
   refine rnT ?_
   refine TW.known rfl rfl ?_
   refine TW.ld rfl (hZ.fld (j:=0) rfl) ?_
   refine TW.known rfl rfl ?_
   refine TW.v V.eql rfl ⟨ct,ct,trivial⟩ (fun _=>trivial) ?_
   refine TW.known rfl rfl ?_
   refine TW.v V.move rfl ⟨ct,trivial⟩ (fun _=>trivial) ?_
   refine TW.known rfl rfl ?_
   refine TW.v V.not rfl ⟨ct,trivial⟩ (fun _=>trivial) ?_
   refine TW.known rfl rfl ?_
   refine rnT ?_
   refine TW.ld rfl (hZ.fld (j:=0) rfl) ?_
   refine rnT ?_
   refine TW.ld rfl (hZ.fld (j:=0) rfl) ?_
   refine rnT ?_
   refine TW.ld rfl (hZ.fld (j:=0) rfl) ?_
   refine rnT ?_
   refine TW.ld rfl (hZ.fld (j:=1) rfl) ?_
   refine rnT ?_
   refine rt1 rfl ⟨bW.step c10,?_⟩
   unfold rulS
   cases hr:reachS d l ws c.to c.acc c.due<;>cases hs:seenS l ws c.to c.due<;>simp
theorem liable_law {w:World} {v:NV} {dv lv wv kv psv:Value} {ws:List (List Int)} (hN:NetAt w v N) (hd:SD w dv d) (hl:SE w lv l) (hS:SD w wv ws) (hk:SI w kv ks) (hps:SPp w psv ps) (hcI:ClI c) (ht:Tabs w) :
  Gives Tryz.prog 5 #[.agg v.cells.toArray,dv,lv,wv,kv,psv,.agg (clV c).toArray] w fun u w'=>Below w.heap.size w w'∧u= .bool true:=by
 have hone: ∃A3 c3,v.cells[2]?=some (.slice A3 N.ops.length c3):=by
  have hform:=NetIn.form hN
  obtain ⟨vc,vn,vo,vf,vl,vk⟩:=v
  obtain ⟨⟨A1,c1,e1⟩,⟨A2,c2,e2⟩,⟨A3,c3,e3⟩,⟨A4,c4,e4⟩,⟨A5,c5,e5⟩,⟨A6,c6,e6⟩⟩:=id hform
  dsimp only at e3
  subst e3
  exact ⟨A3,c3,rfl⟩
 obtain ⟨A3,c3,hV2⟩:=hone
 refine gv (f:=5) ?_
 refine rnT ?_
 refine TW.box rfl rfl rfl rfl ?_
 rintro g7 w1 f1
 refine TW.box rfl rfl rfl rfl ?_
 rintro g13 w2 f2
 refine rnT ?_
 have b2:=f1.below.step f2.below
 have hB2:=f1.blk.next f2.below
 have hC2:=f2.blk
 refine TW.cl rfl (head_c (ht.below b2)) ?_
 rintro y w3 ⟨d3,rfl⟩
 have b3:=b2.step d3
 refine rnT ?_
 refine TW.ldS rfl (fun _ _ hv=>(hB2.next d3).fld hv) ?_
 refine rnT ?_
 refine TW.ldS rfl (fun _ _ hv=>(hC2.next d3).fld hv) ?_
 refine TW.cl rfl (right_c (c:=c) (net_step hN b3) (sd_step hd b3) (se_step hl b3) (sd_step hS b3)) ?_
 rintro y w4 ⟨d4,rfl⟩
 have b4:=b3.step d4
 refine rnT ?_
 refine TW.callF (cap:= []) rfl rfl en12 rfl ct (Args.cons rfl id (Args.cons rfl id Args.nil)) (fun _=>rfew35_c (hk.below b4) (spp_step hps b4)) ?_
 rintro w5 d5
 refine rnT ?_
 have b5:=b4.step d5
 have d25:=d3.step (d4.step d5)
 refine CW.cond rfl (fun hbad=> ?_) (fun hgood=> ?_)
 ·refine rnT ?_
  refine rt1 rfl ⟨b5,rfl⟩
 have hg:RightP N d l ws c∧FewK ks ps:=by
  cases h1:dec (RightP N d l ws c) with
  | false=>rw [h1] at hgood; simp at hgood
  | true =>
   cases h2:dec (FewK ks ps) with
   | false=>rw [h1,h2] at hgood; simp at hgood
   | true=>exact ⟨dec_iff.1 h1,dec_iff.1 h2⟩
 obtain ⟨hR,hF⟩:=hg
 have hne:=hR.light.needs
 have hln:=hR.light.len
 have hp12:=hF.p
 have hB5:=hB2.next d25
 have hC5:=hC2.next d25
 refine rnT ?_
 refine TW.ldS rfl (fun _ _ hv=>hB5.fld hv) ?_
 refine rnT ?_
 refine TW.ldS rfl (fun _ _ hv=>hC5.fld hv) ?_
 refine TW.cl rfl (decide_c (ht.below b5) (net_step hN b5) (sd_step hd b5) (se_step hl b5) (sd_step hS b5) (hk.below b5) (spp_step hps b5) hne hcI) ?_
 rintro y w6 ⟨d6,rfl⟩
 have b6:=b5.step d6
 obtain ⟨E,hE⟩: ∃E,E=decS N d l ws ks ps c:=⟨_,rfl⟩
 rw [←hE]
 refine rnT ?_
 refine TW.newVar rfl zc42 rfl sz42 rfl rfl ?_
 rintro g16 w7 f7
 refine rnT ?_
 have b7:=b6.step f7.below
 have d57:=d6.step f7.below
 have hB7:=hB5.next d57
 have hC7:=hC5.next d57
 have hZ7:=f7.blk
 refine TW.ld rfl (hZ7.fld (j:=0) rfl) ?_
 refine rnT ?_
 refine CW.pk [0,1,2,3,4,5,6,7,13,14,15,16,17,53] rfl ?_
 refine CW.cond rfl (fun hbad2=> ?_) (fun hgood2=> ?_)
 ·refine rnT ?_
  refine rt1 rfl ⟨b7,rfl⟩
 have hE2:E.2=0∧E.1.1=1:=by simpa using hgood2
 have hwne:ws≠ []:=fun e=>by
  have:decS N d l ws ks ps c=((0,0),280):=by
   subst e
   exact dec_nil hR.dec (by omega)
  rw [hE,this] at hE2
  simp at hE2
 have hEe:E=(rulS N d l ws ks ps c,0):=hE.trans (dec_of hR.dec (by omega) hwne)
 have hlb:E.1.2=liabS (holdS N d l ws c.due) ks ps c.label c.due:=by
  rw [hEe]
  refine rul_liab ?_
  rw [hEe] at hE2
  exact hE2.2
 refine rnT ?_
 refine TW.ldS rfl (fun _ _ hv=>hB7.fld hv) ?_
 refine rnT ?_
 refine TW.ld rfl (hC7.fld (j:=5) rfl) ?_
 refine TW.cl rfl (possible_c (ht.below b7) (net_step hN b7) (sd_step hd b7) (se_step hl b7) (sd_step hS b7) hne) ?_
 rintro y w8 ⟨d8,hP8⟩
 obtain ⟨PA,pcap,rfl,_⟩:=hP8.form
 have hpm:=hP8.len.2.2
 have b8:=b7.step d8
 have hB8:=hB7.next d8
 have hC8:=hC7.next d8
 obtain ⟨P,hPe⟩: ∃P,P=possS N d l ws c.due:=⟨_,rfl⟩
 rw [←hPe] at hP8 hpm ⊢
 refine rnT ?_
 refine TW.ldS rfl (fun _ _ hv=>hB8.fld hv) ?_
 refine rnT ?_
 refine TW.ld rfl (hC8.fld (j:=5) rfl) ?_
 refine TW.cl rfl (holders_c (ht.below b8) (net_step hN b8) (sd_step hd b8) (se_step hl b8) (sd_step hS b8) hne) ?_
 rintro y w9 ⟨d9,hH9⟩
 obtain ⟨HA,hcap,rfl,_⟩:=hH9.form
 have hhm:=hH9.len.2.2
 have b9:=b8.step d9
 have hB9:=hB8.next d9
 have hC9:=hC8.next d9
 have hZ9:=hZ7.next (d8.step d9)
 obtain ⟨H,hHe⟩: ∃H,H=holdS N d l ws c.due:=⟨_,rfl⟩
 rw [←hHe] at hH9 hhm hlb ⊢
 refine rnT ?_
 refine TW.ld rfl (hZ9.fld (j:=1) rfl) ?_
 refine rnT ?_
 refine CW.pk [0,1,2,3,4,5,6,7,13,14,15,16,17,18,19,71] rfl ?_
 rcases liab_cases H ks ps c.label c.due with ⟨o,hHo,hex,hlo⟩|⟨hall,hlo⟩
 ·have hbl:=liab_all (hHe.symm.trans hHo)
  have hop:=hbl.2.2
  rw [hlo] at hlb
  refine CW.condP rfl (fun h1=> ?_) (fun h2=> ?_)
  ·exact absurd h1 (by omega)
  ·refine rnT ?_
   refine CW.lp [4,5,7,13,15,16,18] (fun i:Nat=> [(20,none,.int .i64 (i:Int))])
    (fun i W=>i≤P.length∧Below w9.heap.size w9 W) (fun i=>P.length-i) 0 ⟨Nat.zero_le _,Below.refl _ _⟩ ?_
   rintro i W ⟨hi,hB⟩
   have bW:=b9.step hB
   have hBW:=hB9.next hB
   have hCW:=hC9.next hB
   have hZW:=hZ9.next hB
   refine rnT ?_
   refine CW.pk [4,5,7,13,15,16,18,20,94] rfl ?_
   refine CW.condP rfl (fun hlt=> ?_) (fun hge=> ?_)
   ·obtain ⟨s,hs,hsm⟩:=getx (l:=P) (k:=i) (by omega)
    have hPW:SPs W (.slice PA P.length pcap) P:=sps_step hP8 (d9.step hB)
    obtain ⟨ad,rfl⟩:=hPW.addr (by omega)
    have hcx:=(SPs.get hPW hs).1
    have hos:ownS N s=o:=hbl.1 s (by rw [←hPe]; exact hsm)
    refine rnT ?_
    refine CW.draw mixed (by kernel_rfl) ?_
    refine DW.ldS rfl (fun _ _ hv=>hBW.fld hv) ?_
    refine rnD ?_
    refine DW.ldS rfl (fun j u hj=>hcx j u hj) ?_
    refine DW.cl (.ex (.int .i64 (ownS N s))) trivial rfl (fun _ w' hb'=>owner_c (ht.below (bW.step hb')) (net_step hN (bW.step hb'))) ?_
    refine rnD ?_
    refine DW.ld rfl (hZW.fld (j:=1) rfl) ?_
    refine rnD ?_
    refine DW.fi [4,5,7,13,15,16,18,20,105] rfl fun w10 d10=> ?_
    refine KW.then_ ?_
    refine CW.condP rfl (fun hne1=> ?_) (fun heq1=> ?_)
    ·exact absurd hos (by omega)
    ·refine rnT ?_
     refine KW.rd (i+1) ⟨by omega,hB.step d10⟩
   ·have hPl:P≠ []:=by rw [hPe]; exact hbl.2.1
    have hPp:=List.length_pos_iff.2 hPl
    refine rnT ?_
    refine TW.ld rfl (hZW.fld (j:=1) rfl) ?_
    refine rnT ?_
    refine TW.ld rfl (hZW.fld (j:=1) rfl) ?_
    refine rnT ?_
    refine TW.ld rfl (hBW.fld hV2) ?_
    refine rnT ?_
    refine TW.ld rfl (hCW.fld (j:=0) rfl) ?_
    refine rnT ?_
    refine TW.ld rfl (hZW.fld (j:=1) rfl) ?_
    refine rnT ?_
    refine TW.ld rfl (hCW.fld (j:=5) rfl) ?_
    rw [hlb]
    refine TW.callF (cap:= []) rfl rfl en18 rfl ct (Args.cons rfl id (Args.cons rfl id (Args.cons rfl id (Args.cons rfl id (Args.cons rfl id Args.nil))))) (fun _=>excused_c (hk.below bW) (spp_step hps bW)) ?_
    rintro w10 d10
    refine rnT ?_
    refine rt1 rfl ⟨bW.step d10,?_⟩
    rw [dec_neg hex]
    simp
    omega
 ·rw [hlo] at hlb
  refine CW.condP rfl (fun h1=> ?_) (fun h2=> ?_)
  ·skip
   by_cases h1l:H.length=1
   ·obtain ⟨o,hHo⟩: ∃o,H= [o]:=List.length_eq_one_iff.1 h1l
    have hx0:H[0]?=some o:=by rw [hHo]; rfl
    obtain ⟨ad,rfl⟩:=hH9.addr (by omega)
    refine CW.seq ?_
    refine CW.draw mixed (by kernel_rfl) ?_
    refine rnD ?_
    refine DW.ld rfl (hC9.fld (j:=0) rfl) ?_
    refine rnD ?_
    refine DW.ld rfl ((show w9.cell? (ad.add ((0:Int).toNat*1))=some (.int .i64 o) from hH9.getI hx0)) ?_
    refine rnD ?_
    refine DW.ld rfl (hC9.fld (j:=5) rfl) ?_
    refine DW.call (.ex (.bool (dec (Exc ks ps c.label o c.due)))) trivial rfl rfl en18 rfl ct (DArgs.cons rfl id (DArgs.cons rfl id (DArgs.cons rfl id (DArgs.cons rfl id (DArgs.cons rfl id DArgs.nil))))) (fun _ w' hb'=>excused_c (hk.below (b9.step hb')) (spp_step hps (b9.step hb'))) ?_
    refine rnD ?_
    refine DW.fi [0,1,2,3,4,5,6,7,13,14,15,16,17,18,19] rfl fun w10 d10=> ?_
    refine rnT ?_
    refine rt1 rfl ⟨b9.step d10,?_⟩
    rw [dec_pos (hall o hHo)]
    simp
   ·skip
    refine CW.seq ?_
    refine CW.draw mixed (by kernel_rfl) ?_
    refine DW.v V.move rfl ⟨ct,trivial⟩ (fun _=>trivial) ?_
    refine DW.v V.move rfl ⟨ct,trivial⟩ (fun _=>trivial) ?_
    refine DW.v V.move rfl ⟨ct,trivial⟩ (fun _=>trivial) ?_
    refine DW.v V.lenSlice rfl ⟨id,trivial⟩ (fun _=>trivial) ?_
    refine DW.v V.neq rfl ⟨id,ct,trivial⟩ (fun _=>trivial) ?_
    refine DW.v V.move rfl ⟨id,trivial⟩ (fun _=>trivial) ?_
    refine DW.dead (.bool false) rfl (by simp [Cnd]; omega) rfl rfl ?_
    refine DW.dead (.bool false) rfl (by simp [Cnd]; omega) rfl rfl ?_
    refine DW.dead (.bool false) rfl (by simp [Cnd]; omega) rfl rfl ?_
    refine DW.dead (.bool false) rfl (by simp [Cnd]; omega) rfl rfl ?_
    refine DW.dead (.bool false) rfl (by simp [Cnd]; omega) rfl rfl ?_
    refine DW.dead (.bool false) rfl (by simp [Cnd]; omega) rfl rfl ?_
    refine DW.dead (.bool false) rfl (by simp [Cnd]; omega) rfl rfl ?_
    refine DW.dead (.bool false) rfl (by simp [Cnd]; omega) rfl rfl ?_
    refine DW.dead (.bool false) rfl (by simp [Cnd]; omega) rfl rfl ?_
    refine DW.dead (.bool false) rfl (by simp [Cnd]; omega) rfl rfl ?_
    refine DW.dead (.bool false) rfl (by simp [Cnd]; omega) rfl rfl ?_
    refine rnD ?_
    refine DW.fi [0,1,2,3,4,5,6,7,13,14,15,16,17,18,19] rfl fun w10 d10=> ?_
    refine rnT ?_
    refine rt1 rfl ⟨b9.step d10,?_⟩
    simp
    omega
  ·exact absurd hlb h2
end Go.Proofs.YtobaafdejnimkaaGreatDoor
