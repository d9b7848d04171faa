/- The statement WhereLines (its tied card) holds of the given program for every input: the law returns true, does not panic, and changes nothing. No condition is added. -/
import Derived.Test.YtffjgpoadfkjlaaGreatDoorQP
set_option linter.unusedSimpArgs false
set_option linter.unusedVariables false
set_option maxRecDepth 100000
set_option maxHeartbeats 4000000

namespace Go.Proofs.YtffjgpoadfkjlaaGreatDoor
open Go.PF Go.RowKit Go.ChangeShapes Go.WideShapes Go.ChangeAt Go.Ord
theorem lines_door (os:Os) (args:Array Value):laidMetH Tryz.prog laidAll ((World.doorLaid Tryz.prog 400 os).forCall (fun _ _=>0) ⟨#[],args,[]⟩).memory :=
 laidMetH_of_parts3 (fuel:=8) (laidMet_of_run' 8 (by kernel_rfl) (by kernel_rfl)) (by kernel_rfl) (by kernel_rfl)
theorem lines_lifted (os:Os) (started:os.Started) (H:Type) (enc:TypeId×Value→H) :
  ReturnsInHanded {} Tryz.checked os 3 .any (fun w args=>(Rows.whereLinesSpec.pre enc Tryz.prog Tryz.f3 [] false w args∧laidMetH Tryz.prog laidAll w)∧sizedMet enc Tryz.prog Tryz.f3 (OpenSpec.ofChange Rows.whereLinesSpec) false w args) (Rows.whereLinesSpec.post enc Tryz.prog Tryz.f3 false true false false):=by
 refine returnsInHanded_of_change_and (C:=Tryz.checked) (X:=fun w _=>laidMetH Tryz.prog laidAll w) (fun _ _ _ hh h=>h.of_heap hh) own_ started (by kernel_rfl) Tryz.func3
  (ChangeSpec.witness_shaped (enc:=enc) (C:=Tryz.checked) (os:=os) (X:=fun w _=>laidMetH Tryz.prog laidAll w) false (World.doorLaid Tryz.prog 400 os) #[.agg #[.slice none 0 0,.slice none 0 0,.slice none 0 0,.slice none 0 0,.slice none 0 0,.slice none 0 0],.slice none 0 0,.slice none 0 0,.int .u8 0,.int .i64 0,.int .i64 0,.int .u16 0] 8 rfl (World.shaped_of_RefB (by kernel_rfl) (by kernel_rfl)) (by kernel_rfl) (by kernel_rfl) (by kernel_rfl) (lines_door os _)) ?_
 intro W base args ds gs before hval0 hW _ hsz hL _
 have hval: ∀(j:Nat) t v,Tryz.f3.params[j]?=some t→args[j]?=some v→Value.okWide Tryz.prog W .any base t v:=hval0
 have hW':=hW
 obtain ⟨p,q,hA0,hV,_,_,_⟩:=hW
 have hA:DataW.TrodAll enc Tryz.prog W 0 (fun _=>true) true Tryz.f3.params.toList args.toList ds p:=hA0
 rw [Tryz.params3] at hA hval
 obtain ⟨v0,v1,v2,v3,v4,v5,v6,d0,d1,d2,d3,d4,d5,d6,p0,p1,p2,p3,p4,p5,p6,rfl,rfl,rfl,h0,h1,h2,h3,h4,h5,h6⟩:=trodAll_seven hA
 obtain ⟨rfl,rfl⟩:=trodVars_none hV
 obtain ⟨a0,cs0,rfl,x0⟩:=opens_net.argS Tryz.underlying29 (hval 0 29 v0 rfl rfl) h0
 obtain ⟨u0,rfl,hh0⟩:=x0
 have l0:=hh0.now
 obtain ⟨a1,hl1⟩:=opens_rows.arg Tryz.underlying30 (hval 1 30 v1 rfl rfl) h1
 have l1:=hl1.now (sliceT_now intT_now)
 obtain ⟨a2,hl2⟩:=opens_evs.arg Tryz.underlying31 (hval 2 31 v2 rfl rfl) h2
 have l2:=hl2.now evT_now
 obtain ⟨a3,rfl,rfl,rfl,w3'⟩:=open_int Tryz.underlying5 (hval 3 5 v3 rfl rfl) h3
 have w3:=u8_of_wf w3'
 obtain ⟨a4,rfl,rfl,rfl,w4'⟩:=open_int Tryz.underlying3 (hval 4 3 v4 rfl rfl) h4
 have w4:=i64_of_wf w4'
 obtain ⟨a5,rfl,rfl,rfl,w5'⟩:=open_int Tryz.underlying3 (hval 5 3 v5 rfl rfl) h5
 have w5:=i64_of_wf w5'
 obtain ⟨a6,rfl,rfl,rfl,w6'⟩:=open_int Tryz.underlying32 (hval 6 32 v6 rfl rfl) h6
 have w6:=u16_of_wf w6'
 exact law_calls laid_ hW' rfl (by kernel_rfl) (tb:=4) (by kernel_rfl) Tryz.underlying4 rfl rfl rfl (lines_law a3 a4 a5 a6 w3 w4 w5 w6 l0 l1 l2 (tabs_of_laid hL))
theorem lines_row:Rows.WhereLinesSaid :=
 OpenClaim.holds_of_wide 3 Tryz.f3 rfl rfl rfl rfl rfl rfl rfl ⟨rfl,rfl,rfl,rfl,rfl⟩ rfl rfl rfl rfl rfl (by kernel_rfl) Tryz.func3 (by kernel_rfl)
  (of_decide_eq_true (by kernel_rfl)) (by unfold Func.isWrapper; first|(rw [if_pos (by decide +kernel)]; kernel_rfl)|(rw [if_neg (by decide +kernel)]; exact ⟨rfl,rfl⟩))
  (fun os started H enc _=>lines_lifted os started H enc)
theorem lines_holds:Rows.WhereLinesCardSaid :=
 Claim7.holds_tied_plain_at .later [] [.data] true (true, "0f1d076a2fdf123819503a73d2bf9f53fd14aff7af652edbd407b1307d75ee04") false
  lines_row (fun _ h=>by cases h) (by kernel_rfl) (fun _ h=>by cases h) whereLines_row_tie rfl ⟨rfl,rfl⟩ (by kernel_rfl) rfl
  (fun f fn hf hfn=>by
   obtain rfl:f=3:=Option.some.inj ((show Tryz.prog.funcNamed "postilion/postilionlaw29.WhereLines" = some 3 by kernel_rfl).symm.trans hf) |>.symm
   obtain rfl:fn=Tryz.f3:=(Option.some.inj (Tryz.func3.symm.trans hfn)).symm
   exact ⟨by kernel_rfl,fun j t ht=>by
    rw [Tryz.params3] at ht
    have hall: ∀t∈ [29,30,31,5,3,3,32],Tryz.prog.wantsStandIn t=false:=by
     intro t ht
     simp only [List.mem_cons,List.not_mem_nil,or_false] at ht
     rcases ht with rfl|rfl|rfl|rfl|rfl|rfl|rfl<;>kernel_rfl
    exact hall t (List.mem_of_getElem? (by simpa using ht))⟩)
  (by kernel_rfl)
end Go.Proofs.YtffjgpoadfkjlaaGreatDoor
