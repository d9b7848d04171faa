/- The statement VerdictPapers (its tied card) holds of the given program for every input: the law returns true, does not panic, and changes nothing. No condition is added. -/
import Derived.Test.YtobaafdejnimkaaGreatDoorQTgx
set_option linter.unusedSimpArgs false
set_option linter.unusedVariables false
set_option maxRecDepth 100000
set_option maxHeartbeats 4000000

namespace Go.Proofs.YtobaafdejnimkaaGreatDoor
open Go.PF Go.RowKit Go.ChangeShapes Go.WideShapes Go.ChangeAt Go.Ord
theorem papers_door (os:Os) (args:Array Value):laidMetH Tryz.prog laidAll ((World.doorLaid Tryz.prog 400 os).forCall (fun _ _=>0) ⟨#[],args,[]⟩).memory :=
 laidMetH_of_parts3 (fuel:=8) (laidMet_of_run' 8 (by kernel_rfl) (by kernel_rfl)) (by kernel_rfl) (by kernel_rfl)
theorem papers_lifted (os:Os) (started:os.Started) (H:Type) (enc:TypeId×Value→H) :
  ReturnsInHanded {} Tryz.checked os 7 .any (fun w args=>(Rows.verdictPapersSpec.pre enc Tryz.prog Tryz.f7 [] false w args∧laidMetH Tryz.prog laidAll w)∧sizedMet enc Tryz.prog Tryz.f7 (OpenSpec.ofChange Rows.verdictPapersSpec) false w args) (Rows.verdictPapersSpec.post enc Tryz.prog Tryz.f7 false true false false):=by
 refine returnsInHanded_of_change_and (C:=Tryz.checked) (X:=fun w _=>laidMetH Tryz.prog laidAll w) (fun _ _ _ hh h=>h.of_heap hh) own_ started (by kernel_rfl) Tryz.func7
  (ChangeSpec.witness_shaped (enc:=enc) (C:=Tryz.checked) (os:=os) (X:=fun w _=>laidMetH Tryz.prog laidAll w) false (World.doorLaid Tryz.prog 400 os) #[.slice none 0 0,.slice none 0 0,.slice none 0 0,.string ByteArray.empty,.int .i64 0,.int .i64 0] 8 rfl (World.shaped_of_RefB (by kernel_rfl) (by kernel_rfl)) (by kernel_rfl) (by kernel_rfl) (by kernel_rfl) (papers_door os _)) ?_
 intro W base args ds gs before hval0 hW _ hsz hL _
 have hval: ∀(j:Nat) t v,Tryz.f7.params[j]?=some t→args[j]?=some v→Value.okWide Tryz.prog W .any base t v:=hval0
 have hW':=hW
 obtain ⟨p,q,hA0,hV,_,_,_⟩:=hW
 have hA:DataW.TrodAll enc Tryz.prog W 0 (fun _=>true) true Tryz.f7.params.toList args.toList ds p:=hA0
 rw [Tryz.params7] at hA hval
 obtain ⟨v0,v1,v2,v3,v4,v5,d0,d1,d2,d3,d4,d5,p0,p1,p2,p3,p4,p5,rfl,rfl,rfl,h0,h1,h2,h3,h4,h5⟩:=trodAll_six hA
 obtain ⟨rfl,rfl⟩:=trodVars_none hV
 obtain ⟨a0,hl0⟩:=opens_ints.arg Tryz.underlying32 (hval 0 32 v0 rfl rfl) h0
 have l0:=hl0.now intT_now
 obtain ⟨a1,hl1⟩:=opens_papers.arg Tryz.underlying33 (hval 1 33 v1 rfl rfl) h1
 have l1:=hl1.now ppT_now
 obtain ⟨a2,hl2⟩:=opens_papers.arg Tryz.underlying33 (hval 2 33 v2 rfl rfl) h2
 have l2:=hl2.now ppT_now
 obtain ⟨a3,rfl,rfl,rfl,w3⟩:=Go.ChangeMaps.open_string Tryz.underlying9 (hval 3 9 v3 rfl rfl) h3
 obtain ⟨a4,rfl,rfl,rfl,w4'⟩:=open_int Tryz.underlying3 (hval 4 3 v4 rfl rfl) h4
 have w4:=i64_of_wf w4'
 obtain ⟨a5,rfl,rfl,rfl,w5'⟩:=open_int Tryz.underlying3 (hval 5 3 v5 rfl rfl) h5
 have w5:=i64_of_wf w5'
 exact law_calls laid_ hW' rfl (by kernel_rfl) (tb:=4) (by kernel_rfl) Tryz.underlying4 rfl rfl rfl (papers_law l0 l1 l2 (tabs_of_laid hL))
theorem papers_k1:Tryz.checked.prog.inPlace 7=Rows.verdictPapersRow.inPlace:=by kernel_rfl
theorem papers_k2:Tryz.checked.prog.unfollowed 7=Rows.verdictPapersRow.unfollowed:=by kernel_rfl
theorem papers_k3:Tryz.checked.prog.recurses 7=Rows.verdictPapersRow.recurses:=by kernel_rfl
theorem papers_k4:Tryz.checked.prog.varsNamed 7=Rows.verdictPapersRow.named:=by kernel_rfl
theorem papers_kf:joinedFacts Tryz.checked.prog 7 Tryz.f7 Rows.verdictPapersSpec Rows.verdictPapersRow=true:=by
 unfold joinedFacts
 rw [k_out,k_maps,papers_k1,papers_k2,papers_k3,papers_k4,k_keys,k_heard,k_enter,k_lift,k_make]
 kernel_rfl
theorem papers_kn:Tryz.prog.funcNamed "postilion/postilionlaw35.VerdictPapers" = some 7:=by kernel_rfl
theorem papers_kg:false=Rows.verdictPapersRow.goesBy Tryz.checked.prog:=by kernel_rfl
theorem papers_row:Rows.VerdictPapersSaid :=
 OpenClaim.holds_of_wide 7 Tryz.f7 rfl rfl rfl rfl rfl rfl rfl ⟨rfl,rfl,rfl,rfl,rfl⟩ rfl rfl rfl rfl rfl papers_kn Tryz.func7 papers_kf
  (of_decide_eq_true (by kernel_rfl)) (by unfold Func.isWrapper; first|(rw [if_pos (by decide +kernel)]; kernel_rfl)|(rw [if_neg (by decide +kernel)]; exact ⟨rfl,rfl⟩))
  (fun os started H enc _=>papers_lifted os started H enc)
theorem papers_holds:Rows.VerdictPapersCardSaid :=
 Claim7.holds_tied_plain_at .later [] [.data,.data,.data,.data] true (true, "43fdc426b1b74d508c41e18fede44755061ec8034fbf0cbe4b16b3b10dac5e22") false
  papers_row (fun _ h=>by cases h) (by kernel_rfl) (fun _ h=>by cases h) verdictPapers_row_tie rfl ⟨rfl,rfl⟩ k_main rfl
  (fun f fn hf hfn=>by
   obtain rfl:f=7:=Option.some.inj (papers_kn.symm.trans hf) |>.symm
   obtain rfl:fn=Tryz.f7:=(Option.some.inj (Tryz.func7.symm.trans hfn)).symm
   exact ⟨k_look,fun j t ht=>by
    rw [Tryz.params7] at ht
    have hall: ∀t∈ [32,33,33,9,3,3],Tryz.prog.wantsStandIn t=false:=by
     intro t ht
     simp only [List.mem_cons,List.not_mem_nil,or_false] at ht
     rcases ht with rfl|rfl|rfl|rfl|rfl|rfl<;>kernel_rfl
    exact hall t (List.mem_of_getElem? (by simpa using ht))⟩)
  papers_kg
end Go.Proofs.YtobaafdejnimkaaGreatDoor
