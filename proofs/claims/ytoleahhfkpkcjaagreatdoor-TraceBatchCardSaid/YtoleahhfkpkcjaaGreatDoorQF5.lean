/- The statement TraceBatch (its tied card) holds of the given program for every input: the law returns true, does not panic, and changes nothing. No condition is added. -/
import Derived.Test.YtoleahhfkpkcjaaGreatDoorQS
set_option linter.unusedSimpArgs false
set_option linter.unusedVariables false
set_option maxRecDepth 100000
set_option maxHeartbeats 4000000
namespace Go.Proofs.YtoleahhfkpkcjaaGreatDoor
open Go.Proofs.Tryz
open Go.PF Go.RowKit Go.ChangeShapes Go.WideShapes Go.ChangeAt Go.Ord
theorem GD (os:Os) (args:Array Value):laidMetH prog laidAll ((World.doorLaid prog 400 os).forCall (λ_ _=>0) ⟨#[],args,[]⟩).memory :=
 laidMetH_of_parts3 (fuel:=8) (laidMet_of_run' 8 ZK ZK) ZK ZK
theorem Bc (os:Os) (started:os.Started) (H:Type) (enc:TypeId×Value->H) :
  ReturnsInHanded {} Tryz.checked os 8 .any (λw args=>(Rows.traceBatchSpec.pre enc prog Tryz.f8 [] false w args/\laidMetH prog laidAll w)/\sizedMet enc prog Tryz.f8 (OpenSpec.ofChange Rows.traceBatchSpec) false w args) (Rows.traceBatchSpec.post enc prog Tryz.f8 false true false false):=by
 refine returnsInHanded_of_change_and (C:=Tryz.checked) (X:=λw _=>laidMetH prog laidAll w) (λ_ _ _ hh h=>h.of_heap hh) WL started ZK func8
  (ChangeSpec.witness_shaped (enc:=enc) (C:=Tryz.checked) (os:=os) (X:=λw _=>laidMetH prog laidAll w) false (World.doorLaid prog 400 os) #[.agg #[.slice none 0 0,.slice none 0 0,.slice none 0 0,.slice none 0 0,.slice none 0 0,.slice none 0 0],.slice none 0 0,ZU 0,.slice none 0 0,.string ByteArray.empty,ZU 0] 8 rfl (World.shaped_of_RefB ZK ZK) ZK ZK ZK (GD os _)) ?_
 intro W base args ds gs before hval0 hW _ hsz hL _;have hval: ∀(j:Nat) t v,Tryz.f8.params[j]?=some t->args[j]?=some v->Value.okWide prog W .any base t v:=hval0;have hW':=hW;obtain ⟨p,q,hA0,hV,_,_,_⟩:=hW;have hA:DataW.TrodAll enc prog W 0 (λ_=>true) true Tryz.f8.params.toList args.toList ds p:=hA0;rw [Tryz.params8] at hA hval;obtain ⟨v0,v1,v2,v3,v4,v5,d0,d1,d2,d3,d4,d5,p0,p1,p2,p3,p4,p5,rfl,rfl,rfl,h0,h1,h2,h3,h4,h5⟩:=BJ hA;obtain ⟨rfl,rfl⟩:=trodVars_none hV;obtain ⟨a0,cs0,rfl,x0⟩:=opens_net.argS underlying29 (hval 0 29 v0 rfl rfl) h0;obtain ⟨u0,rfl,hh0⟩:=x0;have l0:=hh0.now;obtain ⟨a1,hl1⟩:=opens_scs.arg underlying30 (hval 1 30 v1 rfl rfl) h1;have l1:=hl1.now kL;obtain ⟨a2,rfl,rfl,rfl,w2'⟩:=open_int underlying3 (hval 2 3 v2 rfl rfl) h2;have w2:=bQ w2';obtain ⟨a3,hl3⟩:=opens_rcs.arg underlying31 (hval 3 31 v3 rfl rfl) h3;have l3:=hl3.now jZ;obtain ⟨a4,rfl,rfl,rfl,w4⟩:=Go.ChangeMaps.open_string underlying9 (hval 4 9 v4 rfl rfl) h4;obtain ⟨a5,rfl,rfl,rfl,w5'⟩:=open_int underlying3 (hval 5 3 v5 rfl rfl) h5;have w5:=bQ w5';exact JL U2 hW' rfl ZK (tb:=4) ZK underlying4 rfl rfl rfl (Kq l0 l1 l3 w2 (rG hL).1 (rG hL).2)
theorem NT:Tryz.checked.prog.inPlace 8=Rows.traceBatchRow.inPlace:=ZK
theorem NS:Tryz.checked.prog.unfollowed 8=Rows.traceBatchRow.unfollowed:=ZK
theorem NR:Tryz.checked.prog.recurses 8=Rows.traceBatchRow.recurses:=ZK
theorem NQ:Tryz.checked.prog.varsNamed 8=Rows.traceBatchRow.named:=ZK
theorem NP:joinedFacts Tryz.checked.prog 8 Tryz.f8 Rows.traceBatchSpec Rows.traceBatchRow=true:=by
 unfold joinedFacts;rw [U3,Td,NT,NS,NR,NQ,Tj,Qa,Qb,Ti,Te]
 kernel_rfl
theorem batch_kn:prog.funcNamed "postilion/postilionlaw31.TraceBatch" = some 8:=ZK
theorem NN:false=Rows.traceBatchRow.goesBy Tryz.checked.prog:=ZK
theorem Ko:Rows.TraceBatchSaid :=
 OpenClaim.holds_of_wide 8 Tryz.f8 rfl rfl rfl rfl rfl rfl rfl ⟨rfl,rfl,rfl,rfl,rfl⟩ rfl rfl rfl rfl rfl batch_kn func8 NP
  (of_decide_eq_true ZK) (by unfold Func.isWrapper; first|(rw [if_pos (by decide +kernel)]; kernel_rfl)|(rw [if_neg (by decide +kernel)]; exact ⟨rfl,rfl⟩))
  (λos started H enc _=>Bc os started H enc)
theorem batch_holds:Rows.TraceBatchCardSaid :=
 Claim7.holds_tied_plain_at .later [] [.data,.data,.data,.data] true (true, "1ca7458b00103d85651f3369158a287bd9cd61a88ddac9a3611f185cf9a2c61c") false
  Ko (λ_ h=>by cases h) ZK (λ_ h=>by cases h) traceBatch_row_tie rfl ⟨rfl,rfl⟩ Tf rfl
  (λf fn hf hfn=>by
   obtain rfl:f=8:=Option.some.inj (batch_kn.symm.trans hf) |>.symm;obtain rfl:fn=Tryz.f8:=(Option.some.inj (func8.symm.trans hfn)).symm;exact ⟨Tg,λj t ht=>by
    rw [Tryz.params8] at ht;have hall: ∀t∈ [29,30,3,31,9,3],prog.wantsStandIn t=false:=by
     intro t ht;simp only [List.mem_cons,List.not_mem_nil,or_false] at ht;rcases ht with rfl|rfl|rfl|rfl|rfl|rfl<;>kernel_rfl
    exact hall t (ZF (by simpa using ht))⟩)
  NN
end Go.Proofs.YtoleahhfkpkcjaaGreatDoor
