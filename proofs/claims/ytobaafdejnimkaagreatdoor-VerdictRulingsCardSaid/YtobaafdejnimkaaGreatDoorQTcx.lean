/- Texts of this claim,joined. -/
import Derived.Test.YtobaafdejnimkaaGreatDoorQS
set_option linter.unusedSimpArgs false
set_option linter.unusedVariables false
set_option maxRecDepth 100000
set_option maxHeartbeats 4000000
namespace Go.Proofs.YtobaafdejnimkaaGreatDoor
open Go.PF Go.RowKit Go.Ord
attribute [local irreducible] TW CW KW DW
theorem dec_nil {N:Net} {d:Dist} {l:List Ev} {ks:List Int} {ps:List Pp} {c:Cl} (h:DecOK N d l 0 c) (hp:ps.length≤100):decS N d l [] ks ps c=((0,0),280):=by
 unfold decS
 rw [show dec (DecOK N d l ([]:List (List Int)).length c)=true from dec_pos h,if_neg (by simp),if_neg (by omega),if_pos rfl]
theorem one_of {α:Type} {l:List α} {i:Nat} {x:α} (h:l[i]?=some x):(l.drop i).take 1= [x]:=by
 obtain ⟨hl,he⟩:=List.getElem?_eq_some_iff.1 h
 rw [List.drop_eq_getElem_cons hl,he]
 rfl
theorem rulings_law {w:World} {v:NV} {N:Net} {dv lv wv kv psv:Value} {d:Dist} {l:List Ev} {ws:List (List Int)} {ks:List Int} {ps:List Pp} {c:Cl} (hN:NetAt w v N) (hd:SD w dv d) (hl:SE w lv l) (hS:SD w wv ws) (hk:SI w kv ks) (hps:SPp w psv ps) (hcI:ClI c) (ht:Tabs w) :
  Gives Tryz.prog 4 #[.agg v.cells.toArray,dv,lv,wv,kv,psv,.agg (clV c).toArray] w fun u w'=>Below w.heap.size w w'∧u= .bool true:=by
 obtain ⟨X,xcap,rfl,hxc⟩:=hS.form
 have hsm:=hS.len.2.2
 refine gv (f:=4) ?_
 refine rnT ?_
 refine TW.box rfl rfl rfl rfl ?_
 rintro g7 w1 f1
 refine TW.box rfl rfl rfl rfl ?_
 rintro g13 w2 f2
 refine rnT ?_
 have b2:=f1.below.step f2.below
 have hB2:=f1.blk.next f2.below
 have hC2:=f2.blk
 refine TW.cl rfl (head_c (ht.below b2)) ?_
 rintro y w3 ⟨c3,rfl⟩
 have b3:=b2.step c3
 refine rnT ?_
 refine TW.ldS rfl (fun _ _ hv=>(hB2.next c3).fld hv) ?_
 refine rnT ?_
 refine TW.ldS rfl (fun _ _ hv=>(hC2.next c3).fld hv) ?_
 refine TW.cl rfl (right_c (c:=c) (net_step hN b3) (sd_step hd b3) (se_step hl b3) (sd_step hS b3)) ?_
 rintro y w4 ⟨c4,rfl⟩
 have b4:=b3.step c4
 refine rnT ?_
 refine TW.callF (cap:= []) rfl rfl en12 rfl ct (Args.cons rfl id (Args.cons rfl id Args.nil)) (fun _=>rfew35_c (hk.below b4) (spp_step hps b4)) ?_
 rintro w5 c5
 refine rnT ?_
 have b5:=b4.step c5
 have c25:=c3.step (c4.step c5)
 refine CW.cond rfl (fun hbad=> ?_) (fun hgood=> ?_)
 ·refine rnT ?_
  refine rt1 rfl ⟨b5,rfl⟩
 have hg:RightP N d l ws c∧FewK ks ps:=by
  cases h1:dec (RightP N d l ws c) with
  | false=>rw [h1] at hgood; simp at hgood
  | true =>
   cases h2:dec (FewK ks ps) with
   | false=>rw [h1,h2] at hgood; simp at hgood
   | true=>exact ⟨dec_iff.1 h1,dec_iff.1 h2⟩
 obtain ⟨hR,hF⟩:=hg
 have hne:=hR.light.needs
 have hln:=hR.light.len
 have hp12:=hF.p
 have hB5:=hB2.next c25
 have hC5:=hC2.next c25
 refine rnT ?_
 refine TW.ldS rfl (fun _ _ hv=>hB5.fld hv) ?_
 refine rnT ?_
 refine TW.ldS rfl (fun _ _ hv=>hC5.fld hv) ?_
 refine TW.cl rfl (decide_c (ht.below b5) (net_step hN b5) (sd_step hd b5) (se_step hl b5) (sd_step hS b5) (hk.below b5) (spp_step hps b5) hne hcI) ?_
 rintro y w6 ⟨c6,rfl⟩
 have b6:=b5.step c6
 by_cases hw:ws= []
 ·have hl0:ws.length=0:=by rw [hw]; rfl
  rw [show decS N d l ws ks ps c=((0,0),280) by rw [hw]; exact dec_nil (by have:=hR.dec; rw [hl0] at this; exact this) (by omega)]
  refine rnT ?_
  refine TW.newVar rfl zc42 rfl sz42 rfl rfl ?_
  rintro g16 w7 f7
  refine rnT ?_
  refine CW.pk [0,1,2,3,4,5,6,7,13,14,15,16,17,49] rfl ?_
  refine CW.condP rfl (fun h1=> ?_) (fun h2=> ?_)
  ·refine rnT ?_
   refine TW.known rfl rfl ?_
   refine TW.ldS rfl (fun _ _ hv=>f7.blk.fld hv) ?_
   refine TW.known rfl rfl ?_
   refine TW.build [] _ [.int .i64 0,.int .i64 0] rfl rfl rfl Args.nil (by kernel_rfl) ?_
   refine TW.known rfl rfl ?_
   refine TW.eqlT rfl rfl rfl ct rfl ct (by kernel_rfl) ?_
   refine rnT ?_
   refine rt1 rfl ⟨b6.step f7.below,rfl⟩
  ·exact absurd (by rw [hl0]; rfl) h2
 ·rw [dec_of hR.dec (by omega) hw]
  have hl0:ws.length≠0:=fun e=>hw (List.eq_nil_of_length_eq_zero e)
  refine rnT ?_
  refine TW.newVar rfl zc42 rfl sz42 rfl rfl ?_
  rintro g16 w7 f7
  refine rnT ?_
  have b7:=b6.step f7.below
  have c57:=c6.step f7.below
  have hC7:=hC5.next c57
  refine CW.condP rfl (fun h1=> ?_) (fun h2=> ?_)
  ·exact absurd h1 (by omega)
  refine rnT ?_
  refine CW.lp [1,2,3,13,15,16,17] (fun i:Nat=> [(18,none,.bool ((ws.take i).any fun S=>reachS d l [S] c.to c.acc c.due)),(19,none,.int .i64 (i:Int))])
   (fun i W=>i≤ws.length∧Below w7.heap.size w7 W) (fun i=>ws.length-i) 0 ⟨Nat.zero_le _,Below.refl _ _⟩ ?_
  rintro i W ⟨hi,hB⟩
  have bW:=b7.step hB
  have hCW:=hC7.next hB
  refine rnT ?_
  refine CW.pk [1,2,3,13,15,16,17,18,19,63] rfl ?_
  refine CW.condP rfl (fun hlt=> ?_) (fun hge=> ?_)
  ·obtain ⟨S,hS1,hSm⟩:=getx (l:=ws) (k:=i) (by omega)
   obtain ⟨ad,rfl⟩:=hS.addr (by omega)
   have hsub: ∀W2,Below W.heap.size W W2→SD W2 (.slice (if xcap=(i:Int).toNat then some ad else (some ad).map (·.add ((i:Int).toNat*1))) (((i:Int)+1).toNat-(i:Int).toNat) (xcap-(i:Int).toNat)) [S]:=fun W2 hb=>by
    have q1:=SL.dropS (sd_step hS (bW.step hb)) (i:=i) (by omega)
    have q2:=SL.takeS q1 (i:=1) (by simp; omega)
    rw [one_of hS1] at q2
    rw [show (i:Int).toNat=i from Int.toNat_natCast i,show ((i:Int)+1).toNat-i=1 by omega]
    exact q2
   have hstep:((ws.take (i+1)).any fun S=>reachS d l [S] c.to c.acc c.due)=(((ws.take i).any fun S=>reachS d l [S] c.to c.acc c.due)||reachS d l [S] c.to c.acc c.due):=by
    rw [List.take_add_one,hS1,List.any_append]
    simp
   refine rnT ?_
   refine CW.draw mixed (by kernel_rfl) ?_
   refine rnD ?_
   refine DW.v V.sliceLH rfl ⟨id,id,id,trivial⟩ (fun h=>by (try dsimp only); first|omega|(simp [Cnd] at h; omega)) ?_
   refine rnD ?_
   refine DW.ld rfl (hCW.fld (j:=2) rfl) ?_
   refine rnD ?_
   refine DW.ld rfl (hCW.fld (j:=4) rfl) ?_
   refine rnD ?_
   refine DW.ld rfl (hCW.fld (j:=5) rfl) ?_
   refine DW.call (.ex (.bool (reachS d l [S] c.to c.acc c.due))) trivial rfl rfl en21 rfl ct (DArgs.cons rfl id (DArgs.cons rfl id (DArgs.cons rfl id (DArgs.cons rfl id (DArgs.cons rfl id (DArgs.cons rfl id DArgs.nil)))))) (fun _ w' hb'=>reach_c (sd_step hd (bW.step hb')) (se_step hl (bW.step hb')) (hsub w' hb') hne ⟨hcI.t,hcI.a,hcI.d⟩) ?_
   refine rnD ?_
   refine DW.fi [1,2,3,13,15,16,17,18,19] rfl fun w9 b9=> ?_
   refine rnT ?_
   refine KW.rd (i+1) ⟨by omega,hB.step b9⟩ (hp:= ?_)
   rw [hstep]
   rfl
  ·have hie:i=ws.length:=by omega
   subst hie
   rw [List.take_length,←reach_any hR.fit]
   refine rnT ?_
   refine TW.ld rfl (hCW.fld (j:=2) rfl) ?_
   refine rnT ?_
   refine TW.ld rfl (hCW.fld (j:=5) rfl) ?_
   refine TW.cl rfl (seen_c (se_step hl bW) (sd_step hS bW) (by omega) hne) ?_
   rintro y w10 ⟨c10,rfl⟩
   have hZ:=f7.blk.next (hB.step c10)
   refine TW.v V.assign rfl ⟨ct,trivial⟩ (fun _=>trivial) ?_
   refine TW.nil (KW.pick [1,2,3,13,15,16,17,18,19,20] [(1,_,_),(2,_,_),(3,_,_),(13,_,_),(15,_,_),(16,_,_),(17,_,_),(18,_,_),(19,_,_),(20,_,_)] rfl (KW.then_ ?_))
   refine CW.seq (CW.region ?_)
   refine TW.v V.move rfl ⟨ct,trivial⟩ (fun _=>trivial) ?_
   refine TW.v V.move rfl ⟨ct,trivial⟩ (fun _=>trivial) ?_
   refine TW.known rfl rfl ?_
   refine TW.v V.move rfl ⟨ct,trivial⟩ (fun _=>trivial) ?_
   refine TW.known rfl rfl ?_
   refine TW.v V.eql rfl ⟨ct,ct,trivial⟩ (fun _=>trivial) ?_
   refine TW.pickAnd rfl rfl rfl ct rfl pT ?_
   refine TW.v V.move rfl ⟨ct,trivial⟩ (fun _=>trivial) ?_
   refine TW.known rfl rfl ?_
   refine rnT ?_
   refine TW.known rfl rfl ?_
   refine TW.ld rfl (hZ.fld (j:=0) rfl) ?_
   refine TW.known rfl rfl ?_
   refine TW.v V.eql rfl ⟨ct,ct,trivial⟩ (fun _=>trivial) ?_
   refine TW.known rfl rfl ?_
   refine TW.v V.move rfl ⟨ct,trivial⟩ (fun _=>trivial) ?_
   refine TW.known rfl rfl ?_
   refine TW.v V.not rfl ⟨ct,trivial⟩ (fun _=>trivial) ?_
   refine TW.known rfl rfl ?_
   refine rnT ?_
   refine TW.ld rfl (hZ.fld (j:=0) rfl) ?_
   refine rnT ?_
   refine TW.ld rfl (hZ.fld (j:=0) rfl) ?_
   refine rnT ?_
   refine TW.ld rfl (hZ.fld (j:=0) rfl) ?_
   refine rnT ?_
   refine TW.ld rfl (hZ.fld (j:=1) rfl) ?_
   refine rnT ?_
   refine rt1 rfl ⟨bW.step c10,?_⟩
   unfold rulS
   cases hr:reachS d l ws c.to c.acc c.due<;>cases hs:seenS l ws c.to c.due<;>simp
end Go.Proofs.YtobaafdejnimkaaGreatDoor
