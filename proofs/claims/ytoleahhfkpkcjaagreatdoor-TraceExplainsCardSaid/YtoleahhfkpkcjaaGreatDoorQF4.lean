/- The statement TraceExplains (its tied card) holds of the given program for every input: the law returns true, does not panic, and changes nothing. No condition is added. -/
import Derived.Test.YtoleahhfkpkcjaaGreatDoorQF4x
set_option linter.unusedSimpArgs false
set_option linter.unusedVariables false
set_option maxRecDepth 100000
set_option maxHeartbeats 4000000
namespace Go.Proofs.YtoleahhfkpkcjaaGreatDoor
open Go.Proofs.Tryz
open Go.PF Go.RowKit Go.ChangeShapes Go.WideShapes Go.ChangeAt Go.Ord
theorem zf (os:Os) (args:Array Value):laidMetH prog laidAll ((World.doorLaid prog 400 os).forCall (λ_ _=>0) ⟨#[],args,[]⟩).memory :=
 laidMetH_of_parts3 (fuel:=8) (laidMet_of_run' 8 ZK ZK) ZK ZK
theorem wz (os:Os) (started:os.Started) (H:Type) (enc:TypeId×Value->H) :
  ReturnsInHanded {} Tryz.checked os 7 .any (λw args=>(Rows.traceExplainsSpec.pre enc prog Tryz.f7 [] false w args/\laidMetH prog laidAll w)/\sizedMet enc prog Tryz.f7 (OpenSpec.ofChange Rows.traceExplainsSpec) false w args) (Rows.traceExplainsSpec.post enc prog Tryz.f7 false true false false):=by
 refine returnsInHanded_of_change_and (C:=Tryz.checked) (X:=λw _=>laidMetH prog laidAll w) (λ_ _ _ hh h=>h.of_heap hh) Qx started ZK func7
  (ChangeSpec.witness_shaped (enc:=enc) (C:=Tryz.checked) (os:=os) (X:=λw _=>laidMetH prog laidAll w) false (World.doorLaid prog 400 os) #[.agg #[.slice none 0 0,.slice none 0 0,.slice none 0 0,.slice none 0 0,.slice none 0 0,.slice none 0 0],.slice none 0 0,.slice none 0 0,.string ByteArray.empty,.int .u8 0] 8 rfl (World.shaped_of_RefB ZK ZK) ZK ZK ZK (zf os _)) ?_
 intro W base args ds gs before hval0 hW _ hsz hL _;have hval: ∀(j:Nat) t v,Tryz.f7.params[j]?=some t->args[j]?=some v->Value.okWide prog W .any base t v:=hval0;have hW':=hW;obtain ⟨p,q,hA0,hV,_,_,_⟩:=hW;have hA:DataW.TrodAll enc prog W 0 (λ_=>true) true Tryz.f7.params.toList args.toList ds p:=hA0;rw [Tryz.params7] at hA hval;obtain ⟨v0,v1,v2,v3,v4,d0,d1,d2,d3,d4,p0,p1,p2,p3,p4,rfl,rfl,rfl,h0,h1,h2,h3,h4⟩:=AU hA;obtain ⟨rfl,rfl⟩:=trodVars_none hV;obtain ⟨a0,cs0,rfl,x0⟩:=opens_net.argS underlying29 (hval 0 29 v0 rfl rfl) h0;obtain ⟨u0,rfl,hh0⟩:=x0;have l0:=hh0.now;obtain ⟨a1,hl1⟩:=opens_scs.arg underlying30 (hval 1 30 v1 rfl rfl) h1;have l1:=hl1.now dJ;obtain ⟨a2,hl2⟩:=opens_rcs.arg underlying31 (hval 2 31 v2 rfl rfl) h2;have l2:=hl2.now dM;obtain ⟨a3,rfl,rfl,rfl,w3⟩:=Go.ChangeMaps.open_string underlying9 (hval 3 9 v3 rfl rfl) h3;obtain ⟨a4,rfl,rfl,rfl,w4'⟩:=open_int underlying5 (hval 4 5 v4 rfl rfl) h4;have w4:=Mc w4';exact qh IL hW' rfl ZK (tb:=4) ZK underlying4 rfl rfl rfl (BH l0 l1 l2 w4.1 w4.2 (fO hL).1 (fO hL).2)
theorem Eu:Tryz.checked.prog.inPlace 7=Rows.traceExplainsRow.inPlace:=ZK
theorem Et:Tryz.checked.prog.unfollowed 7=Rows.traceExplainsRow.unfollowed:=ZK
theorem Es:Tryz.checked.prog.recurses 7=Rows.traceExplainsRow.recurses:=ZK
theorem Er:Tryz.checked.prog.varsNamed 7=Rows.traceExplainsRow.named:=ZK
theorem Ep:joinedFacts Tryz.checked.prog 7 Tryz.f7 Rows.traceExplainsSpec Rows.traceExplainsRow=true:=by
 unfold joinedFacts;rw [IP,Bp,Eu,Et,Es,Er,Bv,wJ,wK,Bu,Bq]
 kernel_rfl
theorem explains_kn:prog.funcNamed "postilion/postilionlaw31.TraceExplains" = some 7:=ZK
theorem Eo:false=Rows.traceExplainsRow.goesBy Tryz.checked.prog:=ZK
theorem BG:Rows.TraceExplainsSaid :=
 OpenClaim.holds_of_wide 7 Tryz.f7 rfl rfl rfl rfl rfl rfl rfl ⟨rfl,rfl,rfl,rfl,rfl⟩ rfl rfl rfl rfl rfl explains_kn func7 Ep
  (of_decide_eq_true ZK) (by unfold Func.isWrapper; first|(rw [if_pos (by decide +kernel)]; kernel_rfl)|(rw [if_neg (by decide +kernel)]; exact ⟨rfl,rfl⟩))
  (λos started H enc _=>wz os started H enc)
theorem explains_holds:Rows.TraceExplainsCardSaid :=
 Claim7.holds_tied_plain_at .later [] [.data,.data,.data,.data] true (true, "1ca7458b00103d85651f3369158a287bd9cd61a88ddac9a3611f185cf9a2c61c") false
  BG (λ_ h=>by cases h) ZK (λ_ h=>by cases h) traceExplains_row_tie rfl ⟨rfl,rfl⟩ Br rfl
  (λf fn hf hfn=>by
   obtain rfl:f=7:=Option.some.inj (explains_kn.symm.trans hf) |>.symm;obtain rfl:fn=Tryz.f7:=(Option.some.inj (func7.symm.trans hfn)).symm;exact ⟨Bt,λj t ht=>by
    rw [Tryz.params7] at ht;have hall: ∀t∈ [29,30,31,9,5],prog.wantsStandIn t=false:=by
     intro t ht;simp only [List.mem_cons,List.not_mem_nil,or_false] at ht;rcases ht with rfl|rfl|rfl|rfl|rfl<;>kernel_rfl
    exact hall t (ZF (by simpa using ht))⟩)
  Eo
end Go.Proofs.YtoleahhfkpkcjaaGreatDoor
