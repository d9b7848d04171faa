/- The statement VerdictMatchesReference (its tied card) holds of the given program for every input: the law returns true, does not panic, and changes nothing. No condition is added. -/
import Derived.Test.YtobaafdejnimkaaGreatDoorQJ
set_option linter.unusedSimpArgs false
set_option linter.unusedVariables false
set_option maxRecDepth 100000
set_option maxHeartbeats 4000000

namespace Go.Proofs.YtobaafdejnimkaaGreatDoor
open Go.Proofs.Tryz
open Go.PF Go.RowKit Go.ChangeShapes Go.WideShapes Go.ChangeAt Go.Ord
theorem wQ (os:Os) (args:Array Value):laidMetH prog laidAll ((World.doorLaid prog 400 os).forCall (fun _ _=>0) ⟨#[],args,[]⟩).memory :=
 laidMetH_of_parts3 (fuel:=8) (laidMet_of_run' 8 (by kernel_rfl) (by kernel_rfl)) (by kernel_rfl) (by kernel_rfl)
theorem tL (os:Os) (started:os.Started) (H:Type) (enc:TypeId×Value->H) :
  ReturnsInHanded {} Tryz.checked os 3 .any (fun w args=>(Rows.verdictMatchesReferenceSpec.pre enc prog Tryz.f3 [] false w args/\laidMetH prog laidAll w)/\sizedMet enc prog Tryz.f3 (OpenSpec.ofChange Rows.verdictMatchesReferenceSpec) false w args) (Rows.verdictMatchesReferenceSpec.post enc prog Tryz.f3 false true false false):=by
 refine returnsInHanded_of_change_and (C:=Tryz.checked) (X:=fun w _=>laidMetH prog laidAll w) (fun _ _ _ hh h=>h.of_heap hh) OB started (by kernel_rfl) func3
  (ChangeSpec.witness_shaped (enc:=enc) (C:=Tryz.checked) (os:=os) (X:=fun w _=>laidMetH prog laidAll w) false (World.doorLaid prog 400 os) #[.agg #[.slice none 0 0,.slice none 0 0,.slice none 0 0,.slice none 0 0,.slice none 0 0,.slice none 0 0],.slice none 0 0,.slice none 0 0,.slice none 0 0,.slice none 0 0,.slice none 0 0,.agg #[.string ByteArray.empty,.int .i64 0,.int .i64 0,.int .i64 0,.int .i64 0,.int .i64 0,.int .i64 0],.string ByteArray.empty,.int .i64 0,.int .i64 0] 8 rfl (World.shaped_of_RefB (by kernel_rfl) (by kernel_rfl)) (by kernel_rfl) (by kernel_rfl) (by kernel_rfl) (wQ os _)) ?_
 intro W base args ds gs before hval0 hW _ hsz hL _;have hval: ∀(j:Nat) t v,Tryz.f3.params[j]?=some t->args[j]?=some v->Value.okWide prog W .any base t v:=hval0;have hW':=hW;obtain ⟨p,q,hA0,hV,_,_,_⟩:=hW;have hA:DataW.TrodAll enc prog W 0 (fun _=>true) true Tryz.f3.params.toList args.toList ds p:=hA0;rw [Tryz.params3] at hA hval;obtain ⟨v0,v1,v2,v3,v4,v5,v6,v7,v8,v9,d0,d1,d2,d3,d4,d5,d6,d7,d8,d9,p0,p1,p2,p3,p4,p5,p6,p7,p8,p9,rfl,rfl,rfl,h0,h1,h2,h3,h4,h5,h6,h7,h8,h9⟩:=xE hA;obtain ⟨rfl,rfl⟩:=trodVars_none hV;obtain ⟨a0,cs0,rfl,x0⟩:=opens_net.argS underlying29 (hval 0 29 v0 rfl rfl) h0;obtain ⟨u0,rfl,hh0⟩:=x0;have l0:=hh0.now;obtain ⟨a1,hl1⟩:=opens_rows.arg underlying30 (hval 1 30 v1 rfl rfl) h1;have l1:=hl1.now (lU dV);obtain ⟨a2,hl2⟩:=opens_evs.arg underlying31 (hval 2 31 v2 rfl rfl) h2;have l2:=hl2.now xc;obtain ⟨a3,hl3⟩:=opens_rows.arg underlying30 (hval 3 30 v3 rfl rfl) h3;have l3:=hl3.now (lU dV);obtain ⟨a4,hl4⟩:=opens_ints.arg underlying32 (hval 4 32 v4 rfl rfl) h4;have l4:=hl4.now dV;obtain ⟨a5,hl5⟩:=opens_papers.arg underlying33 (hval 5 33 v5 rfl rfl) h5;have l5:=hl5.now Cj;obtain ⟨a6,cs6,rfl,x6⟩:=opens_claim.argS underlying37 (hval 6 37 v6 rfl rfl) h6;obtain ⟨rfl,l6⟩:=x6
 obtain ⟨a7,rfl,rfl,rfl,w7⟩:=Go.ChangeMaps.open_string underlying9 (hval 7 9 v7 rfl rfl) h7;obtain ⟨a8,rfl,rfl,rfl,w8'⟩:=open_int underlying3 (hval 8 3 v8 rfl rfl) h8;have w8:=bB w8';obtain ⟨a9,rfl,rfl,rfl,w9'⟩:=open_int underlying3 (hval 9 3 v9 rfl rfl) h9;have w9:=bB w9';exact D3 Np hW' rfl (by kernel_rfl) (tb:=4) (by kernel_rfl) underlying4 rfl rfl rfl (yF l0 l1 l2 l3 l4 l5 l6 (wC hL))
theorem AQ:Tryz.checked.prog.inPlace 3=Rows.verdictMatchesReferenceRow.inPlace:=by kernel_rfl
theorem AP:Tryz.checked.prog.unfollowed 3=Rows.verdictMatchesReferenceRow.unfollowed:=by kernel_rfl
theorem AO:Tryz.checked.prog.recurses 3=Rows.verdictMatchesReferenceRow.recurses:=by kernel_rfl
theorem AM:Tryz.checked.prog.varsNamed 3=Rows.verdictMatchesReferenceRow.named:=by kernel_rfl
theorem AL:joinedFacts Tryz.checked.prog 3 Tryz.f3 Rows.verdictMatchesReferenceSpec Rows.verdictMatchesReferenceRow=true:=by
 unfold joinedFacts;rw [Nq,Lu,AQ,AP,AO,AM,LD,JK,JL,LC,Lv]
 kernel_rfl
theorem matches_kn:prog.funcNamed "postilion/postilionlaw35.VerdictMatchesReference" = some 3:=by kernel_rfl
theorem AJ:false=Rows.verdictMatchesReferenceRow.goesBy Tryz.checked.prog:=by kernel_rfl
theorem yE:Rows.VerdictMatchesReferenceSaid :=
 OpenClaim.holds_of_wide 3 Tryz.f3 rfl rfl rfl rfl rfl rfl rfl ⟨rfl,rfl,rfl,rfl,rfl⟩ rfl rfl rfl rfl rfl matches_kn func3 AL
  (of_decide_eq_true (by kernel_rfl)) (by unfold Func.isWrapper; first|(rw [if_pos (by decide +kernel)]; kernel_rfl)|(rw [if_neg (by decide +kernel)]; exact ⟨rfl,rfl⟩))
  (fun os started H enc _=>tL os started H enc)
theorem matches_holds:Rows.VerdictMatchesReferenceCardSaid :=
 Claim7.holds_tied_plain_at .later [] [.data,.data,.data,.data] true (true, "43fdc426b1b74d508c41e18fede44755061ec8034fbf0cbe4b16b3b10dac5e22") false
  yE (fun _ h=>by cases h) (by kernel_rfl) (fun _ h=>by cases h) verdictMatchesReference_row_tie rfl ⟨rfl,rfl⟩ Lx rfl
  (fun f fn hf hfn=>by
   obtain rfl:f=3:=Option.some.inj (matches_kn.symm.trans hf) |>.symm;obtain rfl:fn=Tryz.f3:=(Option.some.inj (func3.symm.trans hfn)).symm;exact ⟨LB,fun j t ht=>by
    rw [Tryz.params3] at ht;have hall: ∀t∈ [29,30,31,30,32,33,37,9,3,3],prog.wantsStandIn t=false:=by
     intro t ht;simp only [List.mem_cons,List.not_mem_nil,or_false] at ht;rcases ht with rfl|rfl|rfl|rfl|rfl|rfl|rfl|rfl|rfl|rfl<;>kernel_rfl
    exact hall t (ZF (by simpa using ht))⟩)
  AJ
end Go.Proofs.YtobaafdejnimkaaGreatDoor
