/- The statement VerdictTruth (its tied card) holds of the given program for every input: the law returns true, does not panic, and changes nothing. No condition is added. -/
import Derived.Test.YtobaafdejnimkaaGreatDoorQTfx
set_option linter.unusedSimpArgs false
set_option linter.unusedVariables false
set_option maxRecDepth 100000
set_option maxHeartbeats 4000000

namespace Go.Proofs.YtobaafdejnimkaaGreatDoor
open Go.PF Go.RowKit Go.ChangeShapes Go.WideShapes Go.ChangeAt Go.Ord
theorem truth_door (os:Os) (args:Array Value):laidMetH Tryz.prog laidAll ((World.doorLaid Tryz.prog 400 os).forCall (fun _ _=>0) ⟨#[],args,[]⟩).memory :=
 laidMetH_of_parts3 (fuel:=8) (laidMet_of_run' 8 (by kernel_rfl) (by kernel_rfl)) (by kernel_rfl) (by kernel_rfl)
theorem truth_lifted (os:Os) (started:os.Started) (H:Type) (enc:TypeId×Value→H) :
  ReturnsInHanded {} Tryz.checked os 9 .any (fun w args=>(Rows.verdictTruthSpec.pre enc Tryz.prog Tryz.f9 [] false w args∧laidMetH Tryz.prog laidAll w)∧sizedMet enc Tryz.prog Tryz.f9 (OpenSpec.ofChange Rows.verdictTruthSpec) false w args) (Rows.verdictTruthSpec.post enc Tryz.prog Tryz.f9 false true false false):=by
 refine returnsInHanded_of_change_and (C:=Tryz.checked) (X:=fun w _=>laidMetH Tryz.prog laidAll w) (fun _ _ _ hh h=>h.of_heap hh) own_ started (by kernel_rfl) Tryz.func9
  (ChangeSpec.witness_shaped (enc:=enc) (C:=Tryz.checked) (os:=os) (X:=fun w _=>laidMetH Tryz.prog laidAll w) false (World.doorLaid Tryz.prog 400 os) #[.agg #[.slice none 0 0,.slice none 0 0,.slice none 0 0,.slice none 0 0,.slice none 0 0,.slice none 0 0],.slice none 0 0,.slice none 0 0,.slice none 0 0,.slice none 0 0,.agg #[.string ByteArray.empty,.int .i64 0,.int .i64 0,.int .i64 0,.int .i64 0,.int .i64 0,.int .i64 0]] 8 rfl (World.shaped_of_RefB (by kernel_rfl) (by kernel_rfl)) (by kernel_rfl) (by kernel_rfl) (by kernel_rfl) (truth_door os _)) ?_
 intro W base args ds gs before hval0 hW _ hsz hL _
 have hval: ∀(j:Nat) t v,Tryz.f9.params[j]?=some t→args[j]?=some v→Value.okWide Tryz.prog W .any base t v:=hval0
 have hW':=hW
 obtain ⟨p,q,hA0,hV,_,_,_⟩:=hW
 have hA:DataW.TrodAll enc Tryz.prog W 0 (fun _=>true) true Tryz.f9.params.toList args.toList ds p:=hA0
 rw [Tryz.params9] at hA hval
 obtain ⟨v0,v1,v2,v3,v4,v5,d0,d1,d2,d3,d4,d5,p0,p1,p2,p3,p4,p5,rfl,rfl,rfl,h0,h1,h2,h3,h4,h5⟩:=trodAll_six hA
 obtain ⟨rfl,rfl⟩:=trodVars_none hV
 obtain ⟨a0,cs0,rfl,x0⟩:=opens_net.argS Tryz.underlying29 (hval 0 29 v0 rfl rfl) h0
 obtain ⟨u0,rfl,hh0⟩:=x0
 have l0:=hh0.now
 obtain ⟨a1,hl1⟩:=opens_rows.arg Tryz.underlying30 (hval 1 30 v1 rfl rfl) h1
 have l1:=hl1.now (sliceT_now intT_now)
 obtain ⟨a2,hl2⟩:=opens_evs.arg Tryz.underlying31 (hval 2 31 v2 rfl rfl) h2
 have l2:=hl2.now evT_now
 obtain ⟨a3,hl3⟩:=opens_ints.arg Tryz.underlying32 (hval 3 32 v3 rfl rfl) h3
 have l3:=hl3.now intT_now
 obtain ⟨a4,hl4⟩:=opens_ints.arg Tryz.underlying32 (hval 4 32 v4 rfl rfl) h4
 have l4:=hl4.now intT_now
 obtain ⟨a5,cs5,rfl,x5⟩:=opens_claim.argS Tryz.underlying37 (hval 5 37 v5 rfl rfl) h5
 obtain ⟨rfl,l5⟩:=x5
 exact law_calls laid_ hW' rfl (by kernel_rfl) (tb:=4) (by kernel_rfl) Tryz.underlying4 rfl rfl rfl (truth_law l0 l1 l2 l3 l4 l5 (tabs_of_laid hL))
theorem truth_k1:Tryz.checked.prog.inPlace 9=Rows.verdictTruthRow.inPlace:=by kernel_rfl
theorem truth_k2:Tryz.checked.prog.unfollowed 9=Rows.verdictTruthRow.unfollowed:=by kernel_rfl
theorem truth_k3:Tryz.checked.prog.recurses 9=Rows.verdictTruthRow.recurses:=by kernel_rfl
theorem truth_k4:Tryz.checked.prog.varsNamed 9=Rows.verdictTruthRow.named:=by kernel_rfl
theorem truth_kf:joinedFacts Tryz.checked.prog 9 Tryz.f9 Rows.verdictTruthSpec Rows.verdictTruthRow=true:=by
 unfold joinedFacts
 rw [k_out,k_maps,truth_k1,truth_k2,truth_k3,truth_k4,k_keys,k_heard,k_enter,k_lift,k_make]
 kernel_rfl
theorem truth_kn:Tryz.prog.funcNamed "postilion/postilionlaw35.VerdictTruth" = some 9:=by kernel_rfl
theorem truth_kg:false=Rows.verdictTruthRow.goesBy Tryz.checked.prog:=by kernel_rfl
theorem truth_row:Rows.VerdictTruthSaid :=
 OpenClaim.holds_of_wide 9 Tryz.f9 rfl rfl rfl rfl rfl rfl rfl ⟨rfl,rfl,rfl,rfl,rfl⟩ rfl rfl rfl rfl rfl truth_kn Tryz.func9 truth_kf
  (of_decide_eq_true (by kernel_rfl)) (by unfold Func.isWrapper; first|(rw [if_pos (by decide +kernel)]; kernel_rfl)|(rw [if_neg (by decide +kernel)]; exact ⟨rfl,rfl⟩))
  (fun os started H enc _=>truth_lifted os started H enc)
theorem truth_holds:Rows.VerdictTruthCardSaid :=
 Claim7.holds_tied_plain_at .later [] [.data,.data,.data,.data] true (true, "43fdc426b1b74d508c41e18fede44755061ec8034fbf0cbe4b16b3b10dac5e22") false
  truth_row (fun _ h=>by cases h) (by kernel_rfl) (fun _ h=>by cases h) verdictTruth_row_tie rfl ⟨rfl,rfl⟩ k_main rfl
  (fun f fn hf hfn=>by
   obtain rfl:f=9:=Option.some.inj (truth_kn.symm.trans hf) |>.symm
   obtain rfl:fn=Tryz.f9:=(Option.some.inj (Tryz.func9.symm.trans hfn)).symm
   exact ⟨k_look,fun j t ht=>by
    rw [Tryz.params9] at ht
    have hall: ∀t∈ [29,30,31,32,32,37],Tryz.prog.wantsStandIn t=false:=by
     intro t ht
     simp only [List.mem_cons,List.not_mem_nil,or_false] at ht
     rcases ht with rfl|rfl|rfl|rfl|rfl|rfl<;>kernel_rfl
    exact hall t (List.mem_of_getElem? (by simpa using ht))⟩)
  truth_kg
end Go.Proofs.YtobaafdejnimkaaGreatDoor
