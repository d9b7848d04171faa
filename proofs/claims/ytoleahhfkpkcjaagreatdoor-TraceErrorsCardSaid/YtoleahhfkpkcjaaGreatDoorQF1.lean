/- The statement TraceErrors (its tied card) holds of the given program for every input: the law returns true, does not panic, and changes nothing. No condition is added. -/
import Derived.Test.YtoleahhfkpkcjaaGreatDoorQF1x
set_option linter.unusedSimpArgs false
set_option linter.unusedVariables false
set_option maxRecDepth 100000
set_option maxHeartbeats 4000000
namespace Go.Proofs.YtoleahhfkpkcjaaGreatDoor
open Go.Proofs.Tryz
open Go.PF Go.RowKit Go.ChangeShapes Go.WideShapes Go.ChangeAt Go.Ord
theorem Ey (os:Os) (args:Array Value):laidMetH prog laidAll ((World.doorLaid prog 400 os).forCall (λ_ _=>0) ⟨#[],args,[]⟩).memory :=
 laidMetH_of_parts3 (fuel:=8) (laidMet_of_run' 8 ZK ZK) ZK ZK
theorem zg (os:Os) (started:os.Started) (H:Type) (enc:TypeId×Value->H) :
  ReturnsInHanded {} Tryz.checked os 6 .any (λw args=>(Rows.traceErrorsSpec.pre enc prog Tryz.f6 [] false w args/\laidMetH prog laidAll w)/\sizedMet enc prog Tryz.f6 (OpenSpec.ofChange Rows.traceErrorsSpec) false w args) (Rows.traceErrorsSpec.post enc prog Tryz.f6 false true false false):=by
 refine returnsInHanded_of_change_and (C:=Tryz.checked) (X:=λw _=>laidMetH prog laidAll w) (λ_ _ _ hh h=>h.of_heap hh) Qx started ZK func6
  (ChangeSpec.witness_shaped (enc:=enc) (C:=Tryz.checked) (os:=os) (X:=λw _=>laidMetH prog laidAll w) false (World.doorLaid prog 400 os) #[.agg #[.slice none 0 0,.slice none 0 0,.slice none 0 0,.slice none 0 0,.slice none 0 0,.slice none 0 0],.slice none 0 0,ZU 0,.slice none 0 0,.agg #[ZU 0,ZU 0,ZU 0,ZU 0,.string ByteArray.empty,.slice none 0 0],.string ByteArray.empty,ZU 0] 8 rfl (World.shaped_of_RefB ZK ZK) ZK ZK ZK (Ey os _)) ?_
 intro W base args ds gs before hval0 hW _ hsz hL _;have hval: ∀(j:Nat) t v,Tryz.f6.params[j]?=some t->args[j]?=some v->Value.okWide prog W .any base t v:=hval0;have hW':=hW;obtain ⟨p,q,hA0,hV,_,_,_⟩:=hW;have hA:DataW.TrodAll enc prog W 0 (λ_=>true) true Tryz.f6.params.toList args.toList ds p:=hA0;rw [Tryz.params6] at hA hval;obtain ⟨v0,v1,v2,v3,v4,v5,v6,d0,d1,d2,d3,d4,d5,d6,p0,p1,p2,p3,p4,p5,p6,rfl,rfl,rfl,h0,h1,h2,h3,h4,h5,h6⟩:=mM hA;obtain ⟨rfl,rfl⟩:=trodVars_none hV;obtain ⟨a0,cs0,rfl,x0⟩:=opens_net.argS underlying29 (hval 0 29 v0 rfl rfl) h0;obtain ⟨u0,rfl,hh0⟩:=x0;have l0:=hh0.now;obtain ⟨a1,hl1⟩:=opens_scs.arg underlying30 (hval 1 30 v1 rfl rfl) h1;have l1:=hl1.now dJ;obtain ⟨a2,rfl,rfl,rfl,w2'⟩:=open_int underlying3 (hval 2 3 v2 rfl rfl) h2;have w2:=bI w2';obtain ⟨a3,hl3⟩:=opens_rcs.arg underlying31 (hval 3 31 v3 rfl rfl) h3;have l3:=hl3.now dM;obtain ⟨a4,cs4,rfl,x4⟩:=opens_rc.argS underlying57 (hval 4 57 v4 rfl rfl) h4;obtain ⟨u4,rfl,hh4⟩:=x4;have l4:=hh4;obtain ⟨a5,rfl,rfl,rfl,w5⟩:=Go.ChangeMaps.open_string underlying9 (hval 5 9 v5 rfl rfl) h5;obtain ⟨a6,rfl,rfl,rfl,w6'⟩:=open_int underlying3 (hval 6 3 v6 rfl rfl) h6;have w6:=bI w6'
 exact qh IL hW' rfl ZK (tb:=4) ZK underlying4 rfl rfl rfl (G5 l0 l1 l3 w2 ⟨l4.1,l4.2.1,l4.2.2.1,l4.2.2.2.1,l4.2.2.2.2.1,l4.2.2.2.2.2⟩ (fO hL).1 (fO hL).2)
theorem KU:Tryz.checked.prog.inPlace 6=Rows.traceErrorsRow.inPlace:=ZK
theorem KT:Tryz.checked.prog.unfollowed 6=Rows.traceErrorsRow.unfollowed:=ZK
theorem KS:Tryz.checked.prog.recurses 6=Rows.traceErrorsRow.recurses:=ZK
theorem KR:Tryz.checked.prog.varsNamed 6=Rows.traceErrorsRow.named:=ZK
theorem KQ:joinedFacts Tryz.checked.prog 6 Tryz.f6 Rows.traceErrorsSpec Rows.traceErrorsRow=true:=by
 unfold joinedFacts;rw [IP,Bp,KU,KT,KS,KR,Bv,wJ,wK,Bu,Bq]
 kernel_rfl
theorem errors_kn:prog.funcNamed "postilion/postilionlaw31.TraceErrors" = some 6:=ZK
theorem KP:false=Rows.traceErrorsRow.goesBy Tryz.checked.prog:=ZK
theorem G4:Rows.TraceErrorsSaid :=
 OpenClaim.holds_of_wide 6 Tryz.f6 rfl rfl rfl rfl rfl rfl rfl ⟨rfl,rfl,rfl,rfl,rfl⟩ rfl rfl rfl rfl rfl errors_kn func6 KQ
  (of_decide_eq_true ZK) (by unfold Func.isWrapper; first|(rw [if_pos (by decide +kernel)]; kernel_rfl)|(rw [if_neg (by decide +kernel)]; exact ⟨rfl,rfl⟩))
  (λos started H enc _=>zg os started H enc)
theorem errors_holds:Rows.TraceErrorsCardSaid :=
 Claim7.holds_tied_plain_at .later [] [.data,.data,.data,.data] true (true, "1ca7458b00103d85651f3369158a287bd9cd61a88ddac9a3611f185cf9a2c61c") false
  G4 (λ_ h=>by cases h) ZK (λ_ h=>by cases h) traceErrors_row_tie rfl ⟨rfl,rfl⟩ Br rfl
  (λf fn hf hfn=>by
   obtain rfl:f=6:=Option.some.inj (errors_kn.symm.trans hf) |>.symm;obtain rfl:fn=Tryz.f6:=(Option.some.inj (func6.symm.trans hfn)).symm;exact ⟨Bt,λj t ht=>by
    rw [Tryz.params6] at ht;have hall: ∀t∈ [29,30,3,31,57,9,3],prog.wantsStandIn t=false:=by
     intro t ht;simp only [List.mem_cons,List.not_mem_nil,or_false] at ht;rcases ht with rfl|rfl|rfl|rfl|rfl|rfl|rfl<;>kernel_rfl
    exact hall t (ZF (by simpa using ht))⟩)
  KP
end Go.Proofs.YtoleahhfkpkcjaaGreatDoor
