/- The statement TraceSets (its tied card) holds of the given program for every input: the law returns true, does not panic, and changes nothing. No condition is added. -/
import Derived.Test.YtoleahhfkpkcjaaGreatDoorQF2x
set_option linter.unusedSimpArgs false
set_option linter.unusedVariables false
set_option maxRecDepth 100000
set_option maxHeartbeats 4000000
namespace Go.Proofs.YtoleahhfkpkcjaaGreatDoor
open Go.Proofs.Tryz
open Go.PF Go.RowKit Go.ChangeShapes Go.WideShapes Go.ChangeAt Go.Ord
theorem JJ (os:Os) (args:Array Value):laidMetH prog laidAll ((World.doorLaid prog 400 os).forCall (λ_ _=>0) ⟨#[],args,[]⟩).memory :=
 laidMetH_of_parts3 (fuel:=8) (laidMet_of_run' 8 ZK ZK) ZK ZK
theorem CS (os:Os) (started:os.Started) (H:Type) (enc:TypeId×Value->H) :
  ReturnsInHanded {} Tryz.checked os 4 .any (λw args=>(Rows.traceSetsSpec.pre enc prog Tryz.f4 [] false w args/\laidMetH prog laidAll w)/\sizedMet enc prog Tryz.f4 (OpenSpec.ofChange Rows.traceSetsSpec) false w args) (Rows.traceSetsSpec.post enc prog Tryz.f4 false true false false):=by
 refine returnsInHanded_of_change_and (C:=Tryz.checked) (X:=λw _=>laidMetH prog laidAll w) (λ_ _ _ hh h=>h.of_heap hh) Qx started ZK func4
  (ChangeSpec.witness_shaped (enc:=enc) (C:=Tryz.checked) (os:=os) (X:=λw _=>laidMetH prog laidAll w) false (World.doorLaid prog 400 os) #[.agg #[.slice none 0 0,.slice none 0 0,.slice none 0 0,.slice none 0 0,.slice none 0 0,.slice none 0 0],.slice none 0 0,ZU 0,.slice none 0 0,.string ByteArray.empty,.string ByteArray.empty,ZU 0] 8 rfl (World.shaped_of_RefB ZK ZK) ZK ZK ZK (JJ os _)) ?_
 intro W base args ds gs before hval0 hW _ hsz hL _;have hval: ∀(j:Nat) t v,Tryz.f4.params[j]?=some t->args[j]?=some v->Value.okWide prog W .any base t v:=hval0;have hW':=hW;obtain ⟨p,q,hA0,hV,_,_,_⟩:=hW;have hA:DataW.TrodAll enc prog W 0 (λ_=>true) true Tryz.f4.params.toList args.toList ds p:=hA0;rw [Tryz.params4] at hA hval;obtain ⟨v0,v1,v2,v3,v4,v5,v6,d0,d1,d2,d3,d4,d5,d6,p0,p1,p2,p3,p4,p5,p6,rfl,rfl,rfl,h0,h1,h2,h3,h4,h5,h6⟩:=mM hA;obtain ⟨rfl,rfl⟩:=trodVars_none hV;obtain ⟨a0,cs0,rfl,x0⟩:=opens_net.argS underlying29 (hval 0 29 v0 rfl rfl) h0;obtain ⟨u0,rfl,hh0⟩:=x0;have l0:=hh0.now;obtain ⟨a1,hl1⟩:=opens_scs.arg underlying30 (hval 1 30 v1 rfl rfl) h1;have l1:=hl1.now dJ;obtain ⟨a2,rfl,rfl,rfl,w2'⟩:=open_int underlying3 (hval 2 3 v2 rfl rfl) h2;have w2:=bI w2';obtain ⟨a3,hl3⟩:=opens_rcs.arg underlying31 (hval 3 31 v3 rfl rfl) h3;have l3:=hl3.now dM;obtain ⟨a4,rfl,rfl,rfl,w4⟩:=Go.ChangeMaps.open_string underlying9 (hval 4 9 v4 rfl rfl) h4;obtain ⟨a5,rfl,rfl,rfl,w5⟩:=Go.ChangeMaps.open_string underlying9 (hval 5 9 v5 rfl rfl) h5;obtain ⟨a6,rfl,rfl,rfl,w6'⟩:=open_int underlying3 (hval 6 3 v6 rfl rfl) h6;have w6:=bI w6'
 exact qh IL hW' rfl ZK (tb:=4) ZK underlying4 rfl rfl rfl (Mr l0 l1 l3 w2 (fO hL).1 (fO hL).2)
theorem Qa:Tryz.checked.prog.inPlace 4=Rows.traceSetsRow.inPlace:=ZK
theorem P9:Tryz.checked.prog.unfollowed 4=Rows.traceSetsRow.unfollowed:=ZK
theorem P8:Tryz.checked.prog.recurses 4=Rows.traceSetsRow.recurses:=ZK
theorem P7:Tryz.checked.prog.varsNamed 4=Rows.traceSetsRow.named:=ZK
theorem P6:joinedFacts Tryz.checked.prog 4 Tryz.f4 Rows.traceSetsSpec Rows.traceSetsRow=true:=by
 unfold joinedFacts;rw [IP,Bp,Qa,P9,P8,P7,Bv,wJ,wK,Bu,Bq]
 kernel_rfl
theorem sets_kn:prog.funcNamed "postilion/postilionlaw31.TraceSets" = some 4:=ZK
theorem P5:false=Rows.traceSetsRow.goesBy Tryz.checked.prog:=ZK
theorem Mq:Rows.TraceSetsSaid :=
 OpenClaim.holds_of_wide 4 Tryz.f4 rfl rfl rfl rfl rfl rfl rfl ⟨rfl,rfl,rfl,rfl,rfl⟩ rfl rfl rfl rfl rfl sets_kn func4 P6
  (of_decide_eq_true ZK) (by unfold Func.isWrapper; first|(rw [if_pos (by decide +kernel)]; kernel_rfl)|(rw [if_neg (by decide +kernel)]; exact ⟨rfl,rfl⟩))
  (λos started H enc _=>CS os started H enc)
theorem sets_holds:Rows.TraceSetsCardSaid :=
 Claim7.holds_tied_plain_at .later [] [.data,.data,.data,.data] true (true, "1ca7458b00103d85651f3369158a287bd9cd61a88ddac9a3611f185cf9a2c61c") false
  Mq (λ_ h=>by cases h) ZK (λ_ h=>by cases h) traceSets_row_tie rfl ⟨rfl,rfl⟩ Br rfl
  (λf fn hf hfn=>by
   obtain rfl:f=4:=Option.some.inj (sets_kn.symm.trans hf) |>.symm;obtain rfl:fn=Tryz.f4:=(Option.some.inj (func4.symm.trans hfn)).symm;exact ⟨Bt,λj t ht=>by
    rw [Tryz.params4] at ht;have hall: ∀t∈ [29,30,3,31,9,9,3],prog.wantsStandIn t=false:=by
     intro t ht;simp only [List.mem_cons,List.not_mem_nil,or_false] at ht;rcases ht with rfl|rfl|rfl|rfl|rfl|rfl|rfl<;>kernel_rfl
    exact hall t (ZF (by simpa using ht))⟩)
  P5
end Go.Proofs.YtoleahhfkpkcjaaGreatDoor
