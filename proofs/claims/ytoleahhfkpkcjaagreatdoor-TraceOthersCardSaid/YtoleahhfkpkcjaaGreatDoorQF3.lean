/- The statement TraceOthers (its tied card) holds of the given program for every input: the law returns true, does not panic, and changes nothing. No condition is added. -/
import Derived.Test.YtoleahhfkpkcjaaGreatDoorQF3x
set_option linter.unusedSimpArgs false
set_option linter.unusedVariables false
set_option maxRecDepth 100000
set_option maxHeartbeats 4000000
namespace Go.Proofs.YtoleahhfkpkcjaaGreatDoor
open Go.Proofs.Tryz
open Go.PF Go.RowKit Go.ChangeShapes Go.WideShapes Go.ChangeAt Go.Ord
theorem Dn (os:Os) (args:Array Value):laidMetH prog laidAll ((World.doorLaid prog 400 os).forCall (λ_ _=>0) ⟨#[],args,[]⟩).memory :=
 laidMetH_of_parts3 (fuel:=8) (laidMet_of_run' 8 ZK ZK) ZK ZK
theorem za (os:Os) (started:os.Started) (H:Type) (enc:TypeId×Value->H) :
  ReturnsInHanded {} Tryz.checked os 5 .any (λw args=>(Rows.traceOthersSpec.pre enc prog Tryz.f5 [] false w args/\laidMetH prog laidAll w)/\sizedMet enc prog Tryz.f5 (OpenSpec.ofChange Rows.traceOthersSpec) false w args) (Rows.traceOthersSpec.post enc prog Tryz.f5 false true false false):=by
 refine returnsInHanded_of_change_and (C:=Tryz.checked) (X:=λw _=>laidMetH prog laidAll w) (λ_ _ _ hh h=>h.of_heap hh) Qx started ZK func5
  (ChangeSpec.witness_shaped (enc:=enc) (C:=Tryz.checked) (os:=os) (X:=λw _=>laidMetH prog laidAll w) false (World.doorLaid prog 400 os) #[.agg #[.slice none 0 0,.slice none 0 0,.slice none 0 0,.slice none 0 0,.slice none 0 0,.slice none 0 0],.slice none 0 0,ZU 0,.slice none 0 0,.agg #[ZU 0,ZU 0,ZU 0,ZU 0,.string ByteArray.empty,.slice none 0 0],.string ByteArray.empty,ZU 0] 8 rfl (World.shaped_of_RefB ZK ZK) ZK ZK ZK (Dn os _)) ?_
 intro W base args ds gs before hval0 hW _ hsz hL _;have hval: ∀(j:Nat) t v,Tryz.f5.params[j]?=some t->args[j]?=some v->Value.okWide prog W .any base t v:=hval0;have hW':=hW;obtain ⟨p,q,hA0,hV,_,_,_⟩:=hW;have hA:DataW.TrodAll enc prog W 0 (λ_=>true) true Tryz.f5.params.toList args.toList ds p:=hA0;rw [Tryz.params5] at hA hval;obtain ⟨v0,v1,v2,v3,v4,v5,v6,d0,d1,d2,d3,d4,d5,d6,p0,p1,p2,p3,p4,p5,p6,rfl,rfl,rfl,h0,h1,h2,h3,h4,h5,h6⟩:=mM hA;obtain ⟨rfl,rfl⟩:=trodVars_none hV;obtain ⟨a0,cs0,rfl,x0⟩:=opens_net.argS underlying29 (hval 0 29 v0 rfl rfl) h0;obtain ⟨u0,rfl,hh0⟩:=x0;have l0:=hh0.now;obtain ⟨a1,hl1⟩:=opens_scs.arg underlying30 (hval 1 30 v1 rfl rfl) h1;have l1:=hl1.now dJ;obtain ⟨a2,rfl,rfl,rfl,w2'⟩:=open_int underlying3 (hval 2 3 v2 rfl rfl) h2;have w2:=bI w2';obtain ⟨a3,hl3⟩:=opens_rcs.arg underlying31 (hval 3 31 v3 rfl rfl) h3;have l3:=hl3.now dM;obtain ⟨a4,cs4,rfl,x4⟩:=opens_rc.argS underlying57 (hval 4 57 v4 rfl rfl) h4;obtain ⟨u4,rfl,hh4⟩:=x4;have l4:=hh4;obtain ⟨a5,rfl,rfl,rfl,w5⟩:=Go.ChangeMaps.open_string underlying9 (hval 5 9 v5 rfl rfl) h5;obtain ⟨a6,rfl,rfl,rfl,w6'⟩:=open_int underlying3 (hval 6 3 v6 rfl rfl) h6;have w6:=bI w6'
 exact qh IL hW' rfl ZK (tb:=4) ZK underlying4 rfl rfl rfl (Gm l0 l1 l3 w2 ⟨l4.1,l4.2.1,l4.2.2.1,l4.2.2.2.1,l4.2.2.2.2.1,l4.2.2.2.2.2⟩ (Nat.le_trans w5 ZL) (fO hL).1 (fO hL).2)
theorem Kb:Tryz.checked.prog.inPlace 5=Rows.traceOthersRow.inPlace:=ZK
theorem Ka:Tryz.checked.prog.unfollowed 5=Rows.traceOthersRow.unfollowed:=ZK
theorem J9:Tryz.checked.prog.recurses 5=Rows.traceOthersRow.recurses:=ZK
theorem J8:Tryz.checked.prog.varsNamed 5=Rows.traceOthersRow.named:=ZK
theorem J7:joinedFacts Tryz.checked.prog 5 Tryz.f5 Rows.traceOthersSpec Rows.traceOthersRow=true:=by
 unfold joinedFacts;rw [IP,Bp,Kb,Ka,J9,J8,Bv,wJ,wK,Bu,Bq]
 kernel_rfl
theorem others_kn:prog.funcNamed "postilion/postilionlaw31.TraceOthers" = some 5:=ZK
theorem J6:false=Rows.traceOthersRow.goesBy Tryz.checked.prog:=ZK
theorem Gl:Rows.TraceOthersSaid :=
 OpenClaim.holds_of_wide 5 Tryz.f5 rfl rfl rfl rfl rfl rfl rfl ⟨rfl,rfl,rfl,rfl,rfl⟩ rfl rfl rfl rfl rfl others_kn func5 J7
  (of_decide_eq_true ZK) (by unfold Func.isWrapper; first|(rw [if_pos (by decide +kernel)]; kernel_rfl)|(rw [if_neg (by decide +kernel)]; exact ⟨rfl,rfl⟩))
  (λos started H enc _=>za os started H enc)
theorem others_holds:Rows.TraceOthersCardSaid :=
 Claim7.holds_tied_plain_at .later [] [.data,.data,.data,.data] true (true, "1ca7458b00103d85651f3369158a287bd9cd61a88ddac9a3611f185cf9a2c61c") false
  Gl (λ_ h=>by cases h) ZK (λ_ h=>by cases h) traceOthers_row_tie rfl ⟨rfl,rfl⟩ Br rfl
  (λf fn hf hfn=>by
   obtain rfl:f=5:=Option.some.inj (others_kn.symm.trans hf) |>.symm;obtain rfl:fn=Tryz.f5:=(Option.some.inj (func5.symm.trans hfn)).symm;exact ⟨Bt,λj t ht=>by
    rw [Tryz.params5] at ht;have hall: ∀t∈ [29,30,3,31,57,9,3],prog.wantsStandIn t=false:=by
     intro t ht;simp only [List.mem_cons,List.not_mem_nil,or_false] at ht;rcases ht with rfl|rfl|rfl|rfl|rfl|rfl|rfl<;>kernel_rfl
    exact hall t (ZF (by simpa using ht))⟩)
  J6
end Go.Proofs.YtoleahhfkpkcjaaGreatDoor
