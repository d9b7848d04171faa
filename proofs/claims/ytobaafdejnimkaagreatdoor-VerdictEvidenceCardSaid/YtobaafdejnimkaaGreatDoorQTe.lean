/- The statement VerdictEvidence (its tied card) holds of the given program for every input: the law returns true, does not panic, and changes nothing. No condition is added. -/
import Derived.Test.YtobaafdejnimkaaGreatDoorQS
set_option linter.unusedSimpArgs false
set_option linter.unusedVariables false
set_option maxRecDepth 100000
set_option maxHeartbeats 4000000

namespace Go.Proofs.YtobaafdejnimkaaGreatDoor
open Go.PF Go.RowKit Go.ChangeShapes Go.WideShapes Go.ChangeAt Go.Ord
theorem evidence_door (os:Os) (args:Array Value):laidMetH Tryz.prog laidAll ((World.doorLaid Tryz.prog 400 os).forCall (fun _ _=>0) ⟨#[],args,[]⟩).memory :=
 laidMetH_of_parts3 (fuel:=8) (laidMet_of_run' 8 (by kernel_rfl) (by kernel_rfl)) (by kernel_rfl) (by kernel_rfl)
theorem evidence_lifted (os:Os) (started:os.Started) (H:Type) (enc:TypeId×Value→H) :
  ReturnsInHanded {} Tryz.checked os 6 .any (fun w args=>(Rows.verdictEvidenceSpec.pre enc Tryz.prog Tryz.f6 [] false w args∧laidMetH Tryz.prog laidAll w)∧sizedMet enc Tryz.prog Tryz.f6 (OpenSpec.ofChange Rows.verdictEvidenceSpec) false w args) (Rows.verdictEvidenceSpec.post enc Tryz.prog Tryz.f6 false true false false):=by
 refine returnsInHanded_of_change_and (C:=Tryz.checked) (X:=fun w _=>laidMetH Tryz.prog laidAll w) (fun _ _ _ hh h=>h.of_heap hh) own_ started (by kernel_rfl) Tryz.func6
  (ChangeSpec.witness_shaped (enc:=enc) (C:=Tryz.checked) (os:=os) (X:=fun w _=>laidMetH Tryz.prog laidAll w) false (World.doorLaid Tryz.prog 400 os) #[.agg #[.slice none 0 0,.slice none 0 0,.slice none 0 0,.slice none 0 0,.slice none 0 0,.slice none 0 0],.slice none 0 0,.slice none 0 0,.slice none 0 0,.agg #[.string ByteArray.empty,.int .i64 0,.int .i64 0,.int .i64 0,.int .i64 0,.int .i64 0,.int .i64 0],.agg #[.int .i64 0,.int .i64 0,.int .i64 0,.slice none 0 0]] 8 rfl (World.shaped_of_RefB (by kernel_rfl) (by kernel_rfl)) (by kernel_rfl) (by kernel_rfl) (by kernel_rfl) (evidence_door os _)) ?_
 intro W base args ds gs before hval0 hW _ hsz hL _
 have hval: ∀(j:Nat) t v,Tryz.f6.params[j]?=some t→args[j]?=some v→Value.okWide Tryz.prog W .any base t v:=hval0
 have hW':=hW
 obtain ⟨p,q,hA0,hV,_,_,_⟩:=hW
 have hA:DataW.TrodAll enc Tryz.prog W 0 (fun _=>true) true Tryz.f6.params.toList args.toList ds p:=hA0
 rw [Tryz.params6] at hA hval
 obtain ⟨v0,v1,v2,v3,v4,v5,d0,d1,d2,d3,d4,d5,p0,p1,p2,p3,p4,p5,rfl,rfl,rfl,h0,h1,h2,h3,h4,h5⟩:=trodAll_six hA
 obtain ⟨rfl,rfl⟩:=trodVars_none hV
 obtain ⟨a0,cs0,rfl,x0⟩:=opens_net.argS Tryz.underlying29 (hval 0 29 v0 rfl rfl) h0
 obtain ⟨u0,rfl,hh0⟩:=x0
 have l0:=hh0.now
 obtain ⟨a1,hl1⟩:=opens_rows.arg Tryz.underlying30 (hval 1 30 v1 rfl rfl) h1
 have l1:=hl1.now (sliceT_now intT_now)
 obtain ⟨a2,hl2,hn2⟩:=opens_evs.argN Tryz.underlying31 (hval 2 31 v2 rfl rfl) h2
 have big2:=sized_len hsz (j:=2) (n:=a2.length) (k:=48) rfl Tryz.underlying31 (by kernel_rfl) (hn2.imp id fun ⟨el,sp,h1,h2⟩=>⟨el,sp,by rw [h1]; rfl,h2⟩)
 have l2:=hl2.now evT_now
 obtain ⟨a3,hl3⟩:=opens_rows.arg Tryz.underlying30 (hval 3 30 v3 rfl rfl) h3
 have l3:=hl3.now (sliceT_now intT_now)
 obtain ⟨a4,cs4,rfl,x4⟩:=opens_claim.argS Tryz.underlying37 (hval 4 37 v4 rfl rfl) h4
 obtain ⟨rfl,l4⟩:=x4
 obtain ⟨a5,cs5,rfl,x5⟩:=opens_ev.argS Tryz.underlying60 (hval 5 60 v5 rfl rfl) h5
 obtain ⟨u5,rfl,hh5⟩:=x5
 have l5:=hh5
 exact law_calls laid_ hW' rfl (by kernel_rfl) (tb:=4) (by kernel_rfl) Tryz.underlying4 rfl rfl rfl (evidence_law l0 l1 l2 l3 l4 l5.1 l5.2.1 l5.2.2.1 l5.2.2.2 big2 (tabs_of_laid hL))
theorem evidence_k1:Tryz.checked.prog.inPlace 6=Rows.verdictEvidenceRow.inPlace:=by kernel_rfl
theorem evidence_k2:Tryz.checked.prog.unfollowed 6=Rows.verdictEvidenceRow.unfollowed:=by kernel_rfl
theorem evidence_k3:Tryz.checked.prog.recurses 6=Rows.verdictEvidenceRow.recurses:=by kernel_rfl
theorem evidence_k4:Tryz.checked.prog.varsNamed 6=Rows.verdictEvidenceRow.named:=by kernel_rfl
theorem evidence_kf:joinedFacts Tryz.checked.prog 6 Tryz.f6 Rows.verdictEvidenceSpec Rows.verdictEvidenceRow=true:=by
 unfold joinedFacts
 rw [k_out,k_maps,evidence_k1,evidence_k2,evidence_k3,evidence_k4,k_keys,k_heard,k_enter,k_lift,k_make]
 kernel_rfl
theorem evidence_kn:Tryz.prog.funcNamed "postilion/postilionlaw35.VerdictEvidence" = some 6:=by kernel_rfl
theorem evidence_kg:false=Rows.verdictEvidenceRow.goesBy Tryz.checked.prog:=by kernel_rfl
theorem evidence_row:Rows.VerdictEvidenceSaid :=
 OpenClaim.holds_of_wide 6 Tryz.f6 rfl rfl rfl rfl rfl rfl rfl ⟨rfl,rfl,rfl,rfl,rfl⟩ rfl rfl rfl rfl rfl evidence_kn Tryz.func6 evidence_kf
  (of_decide_eq_true (by kernel_rfl)) (by unfold Func.isWrapper; first|(rw [if_pos (by decide +kernel)]; kernel_rfl)|(rw [if_neg (by decide +kernel)]; exact ⟨rfl,rfl⟩))
  (fun os started H enc _=>evidence_lifted os started H enc)
theorem evidence_holds:Rows.VerdictEvidenceCardSaid :=
 Claim7.holds_tied_plain_at .later [] [.data,.data,.data,.data] true (true, "43fdc426b1b74d508c41e18fede44755061ec8034fbf0cbe4b16b3b10dac5e22") false
  evidence_row (fun _ h=>by cases h) (by kernel_rfl) (fun _ h=>by cases h) verdictEvidence_row_tie rfl ⟨rfl,rfl⟩ k_main rfl
  (fun f fn hf hfn=>by
   obtain rfl:f=6:=Option.some.inj (evidence_kn.symm.trans hf) |>.symm
   obtain rfl:fn=Tryz.f6:=(Option.some.inj (Tryz.func6.symm.trans hfn)).symm
   exact ⟨k_look,fun j t ht=>by
    rw [Tryz.params6] at ht
    have hall: ∀t∈ [29,30,31,30,37,60],Tryz.prog.wantsStandIn t=false:=by
     intro t ht
     simp only [List.mem_cons,List.not_mem_nil,or_false] at ht
     rcases ht with rfl|rfl|rfl|rfl|rfl|rfl<;>kernel_rfl
    exact hall t (List.mem_of_getElem? (by simpa using ht))⟩)
  evidence_kg
end Go.Proofs.YtobaafdejnimkaaGreatDoor
